import Derived.Test.YtmehdghhnmnmiaaPWireSumsx
import Derived.Test.YtmehdghhnmnmiaaWMath
import Derived.Test.YtmehdghhnmnmiaaCMath
namespace Go.Proofs.Ytmehdghhnmnmiaa.FnsWireSums
open Go.RowKit Go.Proofs.Ytmehdghhnmnmiaa.PWireSums Go.Proofs.YtmehdghhnmnmiaaW.PrintWords Go.Proofs.YtmehdghhnmnmiaaW.PrintLast Go.Proofs.YtmehdghhnmnmiaaW.PrintMore Go.Proofs.Ytmehdghhnmnmiaa.WMath
set_option linter.unusedVariables false

def bl (s : ByteArray) : List UInt8 := s.data.toList
theorem bl_length (s : ByteArray) : (bl s).length = s.size := data_length s
theorem bl_append (a b : ByteArray) : bl (a ++ b) = bl a ++ bl b := by simp [bl]
theorem bl_inj {a b : ByteArray} (h : bl a = bl b) : a = b := by
  cases a with | mk x => cases b with | mk y => congr 1; exact Array.toList_inj.1 h
theorem toList_eq (s : ByteArray) : s.toList = bl s := by rw [ByteArray.toList_eq]; rfl

theorem wrap_nat {i : Nat} (h : i < 4611686018427387904) : wrap64 ((i : Int) + 1) = ((i + 1 : Nat) : Int) := by unfold wrap64; omega
theorem bt_nat (s : ByteArray) (i : Nat) (h : i < s.size) : bt s (i : Int) = (((bl s)[i]'(by rw [bl_length]; exact h)).toNat : Int) := by
  have h' : ((i : Int)).toNat < s.size := by simpa using h
  rw [← bt_at s i h']; rfl
theorem drop_cons (s : ByteArray) (i : Nat) (h : i < s.size) : (bl s).drop i = (bl s)[i]'(by rw [bl_length]; exact h) :: (bl s).drop (i + 1) :=
  List.drop_eq_getElem_cons (by rw [bl_length]; exact h)

/-! numbers of 64 and 8 bits -/
theorem wrap_u64 (n : Int) : IntKind.u64.wrap n = n % 18446744073709551616 := by
  simp [IntKind.wrap, IntKind.bits, IntKind.signed]
theorem wrap_u64_id {n : Nat} (h : n < 18446744073709551616) : IntKind.u64.wrap (n : Int) = (n : Int) := by rw [wrap_u64]; omega
theorem u64_nat (n : Int) (h : (Lit.int .u64 n).wf = true) : ∃ x : Nat, n = (x : Int) ∧ x < 18446744073709551616 := by
  have : IntKind.u64.min ≤ n ∧ n ≤ IntKind.u64.max := by simpa [Lit.wf] using h
  have e : 0 ≤ n ∧ n ≤ 18446744073709551615 := by simpa [IntKind.min, IntKind.max, IntKind.bits, IntKind.signed] using this
  exact ⟨n.toNat, by omega, by omega⟩
theorem u8_nat (n : Int) (h : (Lit.int .u8 n).wf = true) : ∃ x : Nat, n = (x : Int) ∧ x < 256 := by
  have : IntKind.u8.min ≤ n ∧ n ≤ IntKind.u8.max := by simpa [Lit.wf] using h
  have e : 0 ≤ n ∧ n ≤ 255 := by simpa [IntKind.min, IntKind.max, IntKind.bits, IntKind.signed] using this
  exact ⟨n.toNat, by omega, by omega⟩
theorem i64_range (n : Int) (h : (Lit.int .i64 n).wf = true) : -9223372036854775808 ≤ n ∧ n ≤ 9223372036854775807 := by
  have : IntKind.i64.min ≤ n ∧ n ≤ IntKind.i64.max := by simpa [Lit.wf] using h
  simpa [IntKind.min, IntKind.max, IntKind.bits, IntKind.signed] using this

theorem and127 (c : Nat) (h : c < 256) : Go.bits .and .u8 (c : Int) 127 = ((c % 128 : Nat) : Int) := by
  have := bits_mask .u8 8 (by decide) wraps_u8 7 (by decide) (c : Int) (by omega) (by omega)
  exact this
theorem wraps_u64 (n : Int) (h₀ : 0 ≤ n) (h₁ : n < 2 ^ 64) : IntKind.u64.wrap n = n := by rw [wrap_u64]; omega
theorem or_low (i a b : Nat) (ha : a < 2 ^ i) (hi : i ≤ 64) (hb : b * 2 ^ i < 2 ^ 64) : Go.bits .or .u64 (a : Int) ((b * 2 ^ i : Nat) : Int) = ((a + b * 2 ^ i : Nat) : Int) := by
  have h1 : a < 2 ^ 64 := Nat.lt_of_lt_of_le ha (Nat.pow_le_pow_right (by omega) hi)
  rw [(bits_nat .u64 64 (by decide) wraps_u64 a (b * 2 ^ i) h1 hb).2, Nat.or_comm, Nat.mul_comm b, ← Nat.two_pow_add_eq_or_of_lt ha b, Nat.add_comm]
theorem or128 (x : Nat) : Go.bits .or .u8 ((x : Int) % 256) 128 = ((x % 128 + 128 : Nat) : Int) := by
  have hx : (x : Int) % 256 = ((x % 256 : Nat) : Int) := by omega
  rw [hx]
  have key : ∀ y : Nat, y < 256 → Go.bits .or .u8 (y : Int) 128 = ((y % 128 + 128 : Nat) : Int) := by
    intro y hy
    have h1 := (bits_nat .u8 8 (by decide) wraps_u8 y 128 (by omega) (by omega)).2
    rw [show (128 : Int) = ((128 : Nat) : Int) from rfl, h1]
    congr 1
    have hall : ∀ z : Fin 256, (z.val ||| 128) = z.val % 128 + 128 := by decide +kernel
    exact hall ⟨y, hy⟩
  rw [key _ (Nat.mod_lt _ (by omega))]
  congr 1; omega

theorem pow7 (i : Nat) : 128 ^ i = 2 ^ (7 * i) := by
  rw [show (128 : Nat) = 2 ^ 7 from rfl, ← Nat.pow_mul]

/-- a group of seven bits laid above i groups -/
theorem shl_group (i x : Nat) (hi : i ≤ 9) (hx : x * 128 ^ i < 18446744073709551616) :
    shl .u64 (x : Int) ((7 * i : Nat) : Int) = ((x * 128 ^ i : Nat) : Int) := by
  unfold shl
  have hm : min ((7 * i : Nat) : Int).toNat IntKind.u64.bits = 7 * i := by
    rw [Int.toNat_natCast]; exact Nat.min_eq_left (by show 7 * i ≤ 64; omega)
  rw [hm, show (x : Int) * 2 ^ (7 * i) = ((x * 2 ^ (7 * i) : Nat) : Int) by simp, ← pow7]
  exact wrap_u64_id hx

theorem or_group (i a x : Nat) (hi : i ≤ 9) (ha : a < 128 ^ i) (hx : x * 128 ^ i < 18446744073709551616) :
    Go.bits .or .u64 (a : Int) ((x * 128 ^ i : Nat) : Int) = ((a + x * 128 ^ i : Nat) : Int) := by
  rw [pow7] at *
  exact or_low (7 * i) a x ha (by omega) hx

theorem group_lt {i c : Nat} (hi : i ≤ 9) (hc : c < 128) (h9 : i = 9 → c ≤ 1) : c * 128 ^ i < 18446744073709551616 := by
  by_cases h : i = 9
  · subst h; rw [pow9]; have := h9 rfl; omega
  · obtain ⟨M, hM⟩ := two64 i (by omega)
    rw [hM]
    have hM0 : 0 < M := by
      cases M with
      | zero => simp at hM
      | succ M => omega
    exact Nat.mul_lt_mul_of_pos_right (by omega) (Nat.pow_pos (by omega))

/-! what is looked at -/
def few (s : ByteArray) : ByteArray := if s.size > 400 then s.extract 0 400 else s
theorem few_size (s : ByteArray) : (few s).size ≤ 400 := by
  unfold few; split
  · simp; omega
  · omega
theorem few_ev (s : ByteArray) : tattlelaw01_Few.f s = some (few s) := by
  unfold tattlelaw01_Few.f few
  by_cases h : s.size > 400
  · rw [if_pos (by omega), if_pos (by omega), if_pos (by omega), if_pos h]
  · rw [if_neg (by omega), if_neg h]


/-! a number taken -/
def take (l : List UInt8) (a : Nat) : Nat × Nat × Nat := ((dec 0 0 (l.drop a)).1, if (dec 0 0 (l.drop a)).2.2 = 0 then a + (dec 0 0 (l.drop a)).2.1 else 0, (dec 0 0 (l.drop a)).2.2)
def tri (a : Nat) (r : Nat × Nat × Nat) : Int × Int × Int := ((r.1 : Int), ((if r.2.2 = 0 then a + r.2.1 else 0 : Nat) : Int), (r.2.2 : Int))
def takeI (s : ByteArray) (a : Int) : Int × Int × Int := if a < 0 ∨ a > s.size then (0, 0, 1) else tri a.toNat (dec 0 0 ((bl s).drop a.toNat))

theorem take_l0 (s : ByteArray) (hs : s.size < 4611686018427387904) (a : Nat) (ha : a ≤ s.size) (d : Nat) : ∀ (k i acc : Nat), i + d = 9 → 2 * d + 2 ≤ k → acc < 128 ^ i →
    wire_TakeNum.l0 k s (a : Int) (acc : Int) ((s.size : Int) - (a : Int)) (i : Int) = some (tri a (dec i acc ((bl s).drop (a + i)))) := by
  induction d with
  | zero =>
    intro k i acc hi hk hacc
    obtain rfl : i = 9 := by omega
    obtain ⟨k, rfl⟩ : ∃ m, k = m + 2 := ⟨k - 2, by omega⟩
    simp only [wire_TakeNum.l0]
    by_cases hlt : a + 9 < s.size
    · rw [if_pos (by omega)]
      have hw : wrap64 ((a : Int) + ((9 : Nat) : Int)) = ((a + 9 : Nat) : Int) := by unfold wrap64; omega
      rw [hw, if_pos (by omega), if_pos (by omega), bt_nat s (a + 9) hlt, drop_cons s (a + 9) hlt]
      have hc := ((bl s)[a + 9]'(by rw [bl_length]; exact hlt)).toNat_lt
      generalize (bl s)[a + 9]'(by rw [bl_length]; exact hlt) = c at *
      rw [dec]
      by_cases h0 : c.toNat = 0
      · rw [if_pos (by omega), if_pos (by omega), if_pos (by omega)]
        simp only [wire_TakeNum.j2]; rw [if_pos trivial]; rfl
      · by_cases h1 : 1 < c.toNat
        · rw [if_pos (by omega), if_neg (by omega), if_pos (by rfl), if_pos (by omega)]
          simp only [wire_TakeNum.j2]; rw [if_pos (decide_eq_true (by omega))]; rfl
        · have e7 : wrap64 (7 * ((9 : Nat) : Int)) = ((7 * 9 : Nat) : Int) := by decide +kernel
          have hc' : c.toNat < 256 := hc
          rw [if_pos (by omega), if_neg (by omega), if_pos (by rfl), if_neg (by omega), if_pos (by omega)]
          simp only [wire_TakeNum.j2]
          rw [if_neg (by simp; omega), e7, if_pos (by omega), if_pos (by omega), and127 _ hc', wrap_u64_id (by omega), Nat.mod_eq_of_lt (by omega)]
          have hg := group_lt (i := 9) (c := c.toNat) (by omega) (by omega) (fun _ => by omega)
          rw [shl_group 9 c.toNat (by omega) hg, or_group 9 acc c.toNat (by omega) hacc hg]
          have hw2 : wrap64 (((a + 9 : Nat) : Int) + 1) = ((a + (9 + 1) : Nat) : Int) := by unfold wrap64; omega
          rw [hw, hw2]; simp [tri]
    · rw [if_neg (by omega), List.drop_of_length_le (by rw [bl_length]; omega)]; rfl
  | succ d ih =>
    intro k i acc hi hk hacc
    obtain ⟨k, rfl⟩ : ∃ m, k = m + 2 := ⟨k - 2, by omega⟩
    simp only [wire_TakeNum.l0]
    by_cases hlt : a + i < s.size
    · rw [if_pos (by omega)]
      have hw : wrap64 ((a : Int) + (i : Int)) = ((a + i : Nat) : Int) := by unfold wrap64; omega
      rw [hw, if_pos (by omega), if_pos (by omega), bt_nat s (a + i) hlt, drop_cons s (a + i) hlt]
      have hc := ((bl s)[a + i]'(by rw [bl_length]; exact hlt)).toNat_lt
      generalize (bl s)[a + i]'(by rw [bl_length]; exact hlt) = c at *
      have hc' : c.toNat < 256 := hc
      have e9 : ¬ ((i : Int) = 9) := by omega
      have e7 : wrap64 (7 * (i : Int)) = ((7 * i : Nat) : Int) := by unfold wrap64; omega
      have hg := group_lt (i := i) (c := c.toNat % 128) (by omega) (by omega) (fun _ => by omega)
      have hacc2 : acc + c.toNat % 128 * 128 ^ i < 128 ^ (i + 1) := by
        rw [Nat.pow_succ, Nat.mul_comm (128 ^ i)]
        have : c.toNat % 128 * 128 ^ i ≤ 127 * 128 ^ i := Nat.mul_le_mul_right _ (by omega)
        omega
      rw [dec]
      by_cases h0 : 0 < i ∧ c.toNat = 0
      · rw [if_pos (by omega), if_pos (by omega), if_pos (Or.inl h0)]
        simp only [wire_TakeNum.j2]; rw [if_pos trivial]; rfl
      · have hj : (if (i : Int) > 0 then (if (c.toNat : Int) = 0 then (wire_TakeNum.j2 (k + 1) s a acc i c.toNat ((s.size : Int) - (a : Int)) i true) else (if (i : Int) = 9 then (wire_TakeNum.j2 (k + 1) s a acc i c.toNat ((s.size : Int) - (a : Int)) i (decide ((c.toNat : Int) > 1))) else (wire_TakeNum.j2 (k + 1) s a acc i c.toNat ((s.size : Int) - (a : Int)) i false))) else (if (i : Int) = 9 then (wire_TakeNum.j2 (k + 1) s a acc i c.toNat ((s.size : Int) - (a : Int)) i (decide ((c.toNat : Int) > 1))) else (wire_TakeNum.j2 (k + 1) s a acc i c.toNat ((s.size : Int) - (a : Int)) i false)))
            = wire_TakeNum.j2 (k + 1) s a acc i c.toNat ((s.size : Int) - (a : Int)) i false := by
          by_cases hi0 : (i : Int) > 0
          · rw [if_pos hi0, if_neg (by omega), if_neg e9]
          · rw [if_neg hi0, if_neg e9]
        rw [hj, if_neg (by omega)]
        simp only [wire_TakeNum.j2]
        rw [if_neg (by simp), e7, if_pos (by omega), and127 _ hc', wrap_u64_id (by omega), shl_group i _ (by omega) hg, or_group i acc _ (by omega) hacc hg]
        by_cases h2 : c.toNat < 128
        · rw [if_pos (by omega), if_pos h2, Nat.mod_eq_of_lt h2]
          have hw2 : wrap64 (((a + i : Nat) : Int) + 1) = ((a + (i + 1) : Nat) : Int) := by unfold wrap64; omega
          rw [hw, hw2]; simp [tri]
        · rw [if_neg (by omega), if_neg h2, wrap_nat (by omega), ih k (i + 1) _ (by omega) (by omega) hacc2]
          rw [show c.toNat % 128 = c.toNat - 128 by omega]; rfl
    · rw [if_neg (by omega), List.drop_of_length_le (by rw [bl_length]; omega)]; rfl

theorem take_ev (s : ByteArray) (hs : s.size < 4611686018427387904) (a : Int) (k : Nat) (hk : 25 ≤ k) : wire_TakeNum.f k s a = some (takeI s a) := by
  obtain ⟨k, rfl⟩ : ∃ m, k = m + 1 := ⟨k - 1, by omega⟩
  unfold wire_TakeNum.f takeI
  by_cases h : a < 0
  · rw [if_pos h, if_pos (Or.inl h)]; simp only [wire_TakeNum.j0]; rw [if_pos trivial]
  · rw [if_neg h]
    by_cases h2 : a > s.size
    · rw [if_pos (Or.inr h2)]; simp only [wire_TakeNum.j0]; rw [if_pos (decide_eq_true h2)]
    · rw [if_neg (by omega)]; simp only [wire_TakeNum.j0]; rw [if_neg (by simpa using h2)]
      obtain ⟨b, rfl⟩ := Int.eq_ofNat_of_zero_le (show 0 ≤ a by omega)
      have hw : wrap64 ((s.size : Int) - (b : Int)) = (s.size : Int) - (b : Int) := by unfold wrap64; omega
      have := take_l0 s hs b (by omega) 9 k 0 0 (by omega) (by omega) (by decide)
      rw [hw, Int.toNat_natCast]
      simpa using this

/-! numbers laid down -/
def b8 (l : List Int) : List UInt8 := l.map fun n => UInt8.ofNat n.toNat
theorem bl_strOfNums (l : List Int) : bl (strOfNums l) = b8 l := by simp [bl, strOfNums, b8]
def encs (l : List Nat) : List UInt8 := l.flatMap enc
def nats (l : List Int) : List Nat := l.map Int.toNat

theorem num_l1 (n : Nat) : ∀ (k : Nat) (x : List Int) (l : List Int) (m i : Int), (enc n).length + 1 ≤ k → n < 18446744073709551616 → x.length + (enc n).length < 140737488355328 →
    ∃ y, b8 y = b8 x ++ enc n ∧ y.length = x.length + (enc n).length ∧ wire_Num.l1 k x (n : Int) l m i = wire_Num.l0 (k - (enc n).length) y l m (wrap64 (i + 1)) := by
  induction n using Nat.strongRecOn with
  | _ n ih =>
    intro k x l m i hk hn hx
    obtain ⟨k, rfl⟩ : ∃ q, k = q + 1 := ⟨k - 1, by omega⟩
    by_cases h : n < 128
    · rw [enc_small h] at hk hx ⊢
      simp only [List.length_singleton] at hk hx ⊢
      simp only [wire_Num.l1]
      rw [if_neg (by omega), if_pos (by omega)]
      refine ⟨x ++ [(n : Int) % 256], ?_, by simp, rfl⟩
      have : ((n : Int) % 256).toNat = n := by omega
      simp [b8, this]
    · rw [enc_big h] at hk hx ⊢
      rw [List.length_cons] at hk hx ⊢
      simp only [wire_Num.l1]
      rw [if_pos (by omega), if_pos (by omega), or128, show (n : Int) / 128 = ((n / 128 : Nat) : Int) by omega]
      obtain ⟨y, e1, e2, e3⟩ := ih (n / 128) (by omega) k (x ++ [((n % 128 + 128 : Nat) : Int)]) l m i (by omega) (by omega) (by simp only [List.length_append, List.length_singleton]; omega)
      refine ⟨y, ?_, ?_, ?_⟩
      · rw [e1]; simp only [b8, List.map_append, List.map_cons, List.map_nil, List.append_assoc, List.singleton_append, Int.toNat_natCast]
      · rw [e2]; simp; omega
      · rw [e3]; congr 1; omega

theorem num_l0 (l : List Int) (hl : l.length < 1000000) (hw : ∀ x ∈ l, (Lit.int .u64 x).wf = true) (d : Nat) : ∀ (k i : Nat) (x : List Int), i + d = l.length → 12 * d + 1 ≤ k → x.length ≤ 10 * i →
    ∃ s, wire_Num.l0 k x l (l.length : Int) (i : Int) = some s ∧ bl s = b8 x ++ encs (nats (l.drop i)) := by
  induction d with
  | zero =>
    intro k i x hi hk hx
    obtain ⟨k, rfl⟩ : ∃ m, k = m + 1 := ⟨k - 1, by omega⟩
    refine ⟨strOfNums x, ?_, ?_⟩
    · simp only [wire_Num.l0]; rw [if_neg (by omega)]
    · rw [bl_strOfNums, List.drop_of_length_le (by omega)]; simp [encs, nats]
  | succ d ih =>
    intro k i x hi hk hx
    obtain ⟨k, rfl⟩ : ∃ m, k = m + 1 := ⟨k - 1, by omega⟩
    have hlt : i < l.length := by omega
    obtain ⟨n, hn, hn2⟩ := u64_nat l[i] (hw _ (List.getElem_mem hlt))
    have hr : rd l (i : Int) = (n : Int) := by rw [← hn]; simp [rd, List.getD, hlt]
    have h10 := enc_ten hn2
    simp only [wire_Num.l0]
    rw [if_pos (by omega), if_pos (by omega), if_pos (by omega), hr]
    obtain ⟨y, e1, e2, e3⟩ := num_l1 n k x l (l.length : Int) (i : Int) (by omega) hn2 (by omega)
    rw [e3, wrap_nat (by omega)]
    obtain ⟨s, h1, h2⟩ := ih (k - (enc n).length) (i + 1) y (by omega) (by omega) (by omega)
    refine ⟨s, h1, ?_⟩
    rw [h2, e1, List.drop_eq_getElem_cons hlt]
    simp [encs, nats, hn]

/-- what the program lays numbers down as, and its octets -/
theorem num_ev (l : List Int) (hl : l.length < 1000000) (hw : ∀ x ∈ l, (Lit.int .u64 x).wf = true) (k : Nat) (hk : 12 * l.length + 1 ≤ k) :
    ∃ s, wire_Num.f k l = some s ∧ bl s = encs (nats l) := by
  obtain ⟨s, h1, h2⟩ := num_l0 l hl hw l.length k 0 [] (by omega) hk (by simp)
  exact ⟨s, by simpa [wire_Num.f] using h1, by simpa [b8] using h2⟩
theorem wf_u64 {n : Nat} (h : n < 18446744073709551616) : (Lit.int .u64 (n : Int)).wf = true := by
  have : IntKind.u64.min ≤ (n : Int) ∧ (n : Int) ≤ IntKind.u64.max := by
    simp only [IntKind.min, IntKind.max, IntKind.bits, IntKind.signed]; simp; omega
  simpa [Lit.wf] using this
theorem num_one (n : Nat) (hn : n < 18446744073709551616) (k : Nat) (hk : 13 ≤ k) : ∃ s, wire_Num.f k [(n : Int)] = some s ∧ bl s = enc n := by
  obtain ⟨s, h1, h2⟩ := num_ev [(n : Int)] (by simp) (by intro x hx; rw [List.mem_singleton.1 hx]; exact wf_u64 hn) k (by simpa using hk)
  exact ⟨s, h1, by simpa [encs, nats] using h2⟩
theorem awake_ev (k : Nat) (hk : 30 ≤ k) : tattlelaw01_awake.f k = some true :=
  at_rounds (g := fun k => tattlelaw01_awake.f k) (fun k => tattlelaw01_awake.mono k) hk (by decide +kernel)

/-! the sum of octets -/
section
open Go.Proofs.Ytmehdghhnmnmiaa.CMath
def V (c : BitVec 32) : Int := (c.toNat : Int)
theorem V_inj {a b : BitVec 32} (h : V a = V b) : a = b := BitVec.eq_of_toNat_eq (by unfold V at h; omega)
theorem wrap_u32 (n : Int) : IntKind.u32.wrap n = n % 4294967296 := Go.IntKind.wrap_u32 n
theorem ofInt_V (c : BitVec 32) : BitVec.ofInt 32 (V c) = c := by unfold V; rw [BitVec.ofInt_natCast]; simp
theorem wrap_V (c : BitVec 32) : IntKind.u32.wrap (V c) = V c := by rw [wrap_u32]; have := c.isLt; unfold V; omega
theorem xor_V (a b : BitVec 32) : Go.bits .xor .u32 (V a) (V b) = V (a ^^^ b) := by
  show IntKind.u32.wrap (((BitVec.ofInt 32 (V a)) ^^^ (BitVec.ofInt 32 (V b))).toNat : Int) = _
  rw [ofInt_V, ofInt_V]; exact wrap_V _
theorem V_half (c : BitVec 32) : V c / (2 : Int) = V (c >>> 1) := by
  unfold V; rw [BitVec.toNat_ushiftRight, Nat.shiftRight_eq_div_pow]; omega
theorem V_low (c : BitVec 32) : V c % 2 = if c.getLsbD 0 then 1 else 0 := by
  unfold V
  have h : c.getLsbD 0 = decide (c.toNat % 2 = 1) := by rw [BitVec.getLsbD, Nat.testBit_zero]
  rw [h]
  by_cases h2 : c.toNat % 2 = 1
  · rw [decide_eq_true h2, if_pos rfl]; omega
  · rw [decide_eq_false h2, if_neg (by simp)]; omega
theorem and_one (c : BitVec 32) : Go.bits .and .u32 (V c) 1 = V c % 2 := by
  have w : ∀ n : Int, 0 ≤ n → n < 2 ^ 32 → IntKind.u32.wrap n = n := by intro n h0 h1; rw [wrap_u32]; omega
  have h := c.isLt
  exact bits_mask .u32 32 (by decide) w 1 (by decide) (V c) (by unfold V; omega) (by unfold V; omega)
theorem V_poly : V poly = 3988292384 := by decide +kernel
theorem tstep_V (c : BitVec 32) : tstep (V c) = V (M c) := by
  unfold tstep M
  rw [and_one, V_low, V_half]
  cases c.getLsbD 0 with
  | true =>
    rw [if_pos rfl, if_pos rfl, show (3988292384 * 1 % 4294967296 : Int) = V poly by rw [V_poly]; rfl, xor_V]
  | false =>
    rw [if_neg (by simp), if_neg (by simp), show (3988292384 * 0 % 4294967296 : Int) = V 0#32 by rfl, xor_V, BitVec.xor_zero]
theorem titer_V (n : Nat) (c : BitVec 32) : titer n (V c) = V (it n c) := by
  induction n with
  | zero => rfl
  | succ n ih => show tstep (titer n (V c)) = V (M (it n c)); rw [ih, tstep_V]
theorem cidx_V (c : BitVec 32) (b : UInt8) : Go.bits .xor .u8 (V c % 256) (b.toNat : Int) = V (low c ^^^ w8 b) := by
  have h1 : V c % 256 = ((c.toNat % 256 : Nat) : Int) := by unfold V; omega
  rw [h1]
  show IntKind.u8.wrap (((BitVec.ofInt 8 ((c.toNat % 256 : Nat) : Int)) ^^^ (BitVec.ofInt 8 (b.toNat : Int))).toNat : Int) = _
  rw [BitVec.ofInt_natCast, BitVec.ofInt_natCast]
  unfold V low w8
  have hb := b.toNat_lt
  have h3 : c.toNat % 256 < 256 := Nat.mod_lt _ (by omega)
  have h4 : c.toNat % 256 ^^^ b.toNat < 2 ^ 8 := Nat.xor_lt_two_pow h3 hb
  rw [BitVec.toNat_xor, BitVec.toNat_xor, BitVec.toNat_ofNat, BitVec.toNat_ofNat, BitVec.toNat_ofNat, BitVec.toNat_ofNat,
    Nat.mod_eq_of_lt (show c.toNat % 256 < 2 ^ 8 by omega), Nat.mod_eq_of_lt hb, Nat.mod_eq_of_lt (show c.toNat % 256 < 2 ^ 32 by omega), Nat.mod_eq_of_lt (show b.toNat < 2 ^ 32 by omega)]
  rw [Go.IntKind.wrap_u8]
  generalize c.toNat % 256 ^^^ b.toNat = z at *
  omega
theorem cstep_V (c : BitVec 32) (b : UInt8) : cstep (V c) b = V (byte c b) := by
  unfold cstep
  rw [cidx_V, titer_V]
  have h : V c / (256 : Int) = V (c >>> 8) := by unfold V; rw [BitVec.toNat_ushiftRight, Nat.shiftRight_eq_div_pow]; omega
  rw [h, xor_V, it8_split]
theorem cfold_V (l : List UInt8) : ∀ c : BitVec 32, l.foldl cstep (V c) = V (reg c l) := by
  induction l with
  | nil => intro c; rfl
  | cons b l ih => intro c; show l.foldl cstep (cstep (V c) b) = _; rw [cstep_V, ih]; rfl
theorem V_ones : V ones = 4294967295 := by decide +kernel
theorem max_ones : IntKind.u32.max = V ones := by decide +kernel
theorem sum_ev (s : ByteArray) (hs : s.size < 4611686018427387904) : wire_Sum.f s = some (V (crc (bl s))) := by
  unfold wire_Sum.f
  rw [if_pos hs]
  unfold crcTo
  have e : s.data.toList.take s.size = bl s := List.take_of_length_le (by rw [data_length]; omega)
  rw [e, ← V_ones, cfold_V, max_ones, xor_V, BitVec.xor_comm]; rfl
end

end Go.Proofs.Ytmehdghhnmnmiaa.FnsWireSums
