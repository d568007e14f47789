import Derived.Test.YtldeanlnfhgjfaaPDiskWritesx
import Derived.Test.YtldeanlnfhgjfaaWMath
import Derived.Test.YtldeanlnfhgjfaaCMath
namespace Go.Proofs.Ytldeanlnfhgjfaa.FnsDiskWrites
open Go.RowKit Go.Proofs.Ytldeanlnfhgjfaa.PDiskWrites Go.Proofs.YtldeanlnfhgjfaaW.PrintWords Go.Proofs.YtldeanlnfhgjfaaW.PrintLast Go.Proofs.YtldeanlnfhgjfaaW.PrintMore Go.Proofs.Ytldeanlnfhgjfaa.WMath
set_option linter.unusedVariables false

def bl (s : ByteArray) : List UInt8 := s.data.toList
theorem bl_length (s : ByteArray) : (bl s).length = s.size := data_length s
theorem bl_append (a b : ByteArray) : bl (a ++ b) = bl a ++ bl b := by simp [bl]
theorem bl_inj {a b : ByteArray} (h : bl a = bl b) : a = b := by
  cases a with | mk x => cases b with | mk y => congr 1; exact Array.toList_inj.1 h
theorem toList_eq (s : ByteArray) : s.toList = bl s := by rw [ByteArray.toList_eq]; rfl

theorem wrap_nat {i : Nat} (h : i < 4611686018427387904) : wrap64 ((i : Int) + 1) = ((i + 1 : Nat) : Int) := by unfold wrap64; omega
theorem bt_nat (s : ByteArray) (i : Nat) (h : i < s.size) : bt s (i : Int) = (((bl s)[i]'(by rw [bl_length]; exact h)).toNat : Int) := by
  have h' : ((i : Int)).toNat < s.size := by simpa using h
  rw [← bt_at s i h']; rfl
theorem drop_cons (s : ByteArray) (i : Nat) (h : i < s.size) : (bl s).drop i = (bl s)[i]'(by rw [bl_length]; exact h) :: (bl s).drop (i + 1) :=
  List.drop_eq_getElem_cons (by rw [bl_length]; exact h)

/-! numbers of 64 and 8 bits -/
theorem wrap_u64 (n : Int) : IntKind.u64.wrap n = n % 18446744073709551616 := by
  simp [IntKind.wrap, IntKind.bits, IntKind.signed]
theorem wrap_u64_id {n : Nat} (h : n < 18446744073709551616) : IntKind.u64.wrap (n : Int) = (n : Int) := by rw [wrap_u64]; omega
theorem u64_nat (n : Int) (h : (Lit.int .u64 n).wf = true) : ∃ x : Nat, n = (x : Int) ∧ x < 18446744073709551616 := by
  have : IntKind.u64.min ≤ n ∧ n ≤ IntKind.u64.max := by simpa [Lit.wf] using h
  have e : 0 ≤ n ∧ n ≤ 18446744073709551615 := by simpa [IntKind.min, IntKind.max, IntKind.bits, IntKind.signed] using this
  exact ⟨n.toNat, by omega, by omega⟩
theorem u8_nat (n : Int) (h : (Lit.int .u8 n).wf = true) : ∃ x : Nat, n = (x : Int) ∧ x < 256 := by
  have : IntKind.u8.min ≤ n ∧ n ≤ IntKind.u8.max := by simpa [Lit.wf] using h
  have e : 0 ≤ n ∧ n ≤ 255 := by simpa [IntKind.min, IntKind.max, IntKind.bits, IntKind.signed] using this
  exact ⟨n.toNat, by omega, by omega⟩
theorem i64_range (n : Int) (h : (Lit.int .i64 n).wf = true) : -9223372036854775808 ≤ n ∧ n ≤ 9223372036854775807 := by
  have : IntKind.i64.min ≤ n ∧ n ≤ IntKind.i64.max := by simpa [Lit.wf] using h
  simpa [IntKind.min, IntKind.max, IntKind.bits, IntKind.signed] using this

theorem and127 (c : Nat) (h : c < 256) : Go.bits .and .u8 (c : Int) 127 = ((c % 128 : Nat) : Int) := by
  have := bits_mask .u8 8 (by decide) wraps_u8 7 (by decide) (c : Int) (by omega) (by omega)
  exact this
theorem wraps_u64 (n : Int) (h₀ : 0 ≤ n) (h₁ : n < 2 ^ 64) : IntKind.u64.wrap n = n := by rw [wrap_u64]; omega
theorem or_low (i a b : Nat) (ha : a < 2 ^ i) (hi : i ≤ 64) (hb : b * 2 ^ i < 2 ^ 64) : Go.bits .or .u64 (a : Int) ((b * 2 ^ i : Nat) : Int) = ((a + b * 2 ^ i : Nat) : Int) := by
  have h1 : a < 2 ^ 64 := Nat.lt_of_lt_of_le ha (Nat.pow_le_pow_right (by omega) hi)
  rw [(bits_nat .u64 64 (by decide) wraps_u64 a (b * 2 ^ i) h1 hb).2, Nat.or_comm, Nat.mul_comm b, ← Nat.two_pow_add_eq_or_of_lt ha b, Nat.add_comm]
theorem or128 (x : Nat) : Go.bits .or .u8 ((x : Int) % 256) 128 = ((x % 128 + 128 : Nat) : Int) := by
  have hx : (x : Int) % 256 = ((x % 256 : Nat) : Int) := by omega
  rw [hx]
  have key : ∀ y : Nat, y < 256 → Go.bits .or .u8 (y : Int) 128 = ((y % 128 + 128 : Nat) : Int) := by
    intro y hy
    have h1 := (bits_nat .u8 8 (by decide) wraps_u8 y 128 (by omega) (by omega)).2
    rw [show (128 : Int) = ((128 : Nat) : Int) from rfl, h1]
    congr 1
    have hall : ∀ z : Fin 256, (z.val ||| 128) = z.val % 128 + 128 := by decide +kernel
    exact hall ⟨y, hy⟩
  rw [key _ (Nat.mod_lt _ (by omega))]
  congr 1; omega

theorem pow7 (i : Nat) : 128 ^ i = 2 ^ (7 * i) := by
  rw [show (128 : Nat) = 2 ^ 7 from rfl, ← Nat.pow_mul]

/-- a group of seven bits laid above i groups -/
theorem shl_group (i x : Nat) (hi : i ≤ 9) (hx : x * 128 ^ i < 18446744073709551616) :
    shl .u64 (x : Int) ((7 * i : Nat) : Int) = ((x * 128 ^ i : Nat) : Int) := by
  unfold shl
  have hm : min ((7 * i : Nat) : Int).toNat IntKind.u64.bits = 7 * i := by
    rw [Int.toNat_natCast]; exact Nat.min_eq_left (by show 7 * i ≤ 64; omega)
  rw [hm, show (x : Int) * 2 ^ (7 * i) = ((x * 2 ^ (7 * i) : Nat) : Int) by simp, ← pow7]
  exact wrap_u64_id hx

theorem or_group (i a x : Nat) (hi : i ≤ 9) (ha : a < 128 ^ i) (hx : x * 128 ^ i < 18446744073709551616) :
    Go.bits .or .u64 (a : Int) ((x * 128 ^ i : Nat) : Int) = ((a + x * 128 ^ i : Nat) : Int) := by
  rw [pow7] at *
  exact or_low (7 * i) a x ha (by omega) hx

theorem group_lt {i c : Nat} (hi : i ≤ 9) (hc : c < 128) (h9 : i = 9 → c ≤ 1) : c * 128 ^ i < 18446744073709551616 := by
  by_cases h : i = 9
  · subst h; rw [pow9]; have := h9 rfl; omega
  · obtain ⟨M, hM⟩ := two64 i (by omega)
    rw [hM]
    have hM0 : 0 < M := by
      cases M with
      | zero => simp at hM
      | succ M => omega
    exact Nat.mul_lt_mul_of_pos_right (by omega) (Nat.pow_pos (by omega))

/-! what is looked at -/
def few (s : ByteArray) : ByteArray := if s.size > 400 then s.extract 0 400 else s
theorem few_size (s : ByteArray) : (few s).size ≤ 400 := by
  unfold few; split
  · simp; omega
  · omega


/-! a number taken -/
def take (l : List UInt8) (a : Nat) : Nat × Nat × Nat := ((dec 0 0 (l.drop a)).1, if (dec 0 0 (l.drop a)).2.2 = 0 then a + (dec 0 0 (l.drop a)).2.1 else 0, (dec 0 0 (l.drop a)).2.2)
def tri (a : Nat) (r : Nat × Nat × Nat) : Int × Int × Int := ((r.1 : Int), ((if r.2.2 = 0 then a + r.2.1 else 0 : Nat) : Int), (r.2.2 : Int))
def takeI (s : ByteArray) (a : Int) : Int × Int × Int := if a < 0 ∨ a > s.size then (0, 0, 1) else tri a.toNat (dec 0 0 ((bl s).drop a.toNat))

theorem take_l0 (s : ByteArray) (hs : s.size < 4611686018427387904) (a : Nat) (ha : a ≤ s.size) (d : Nat) : ∀ (k i acc : Nat), i + d = 9 → 2 * d + 2 ≤ k → acc < 128 ^ i →
    wire_TakeNum.l0 k s (a : Int) (acc : Int) ((s.size : Int) - (a : Int)) (i : Int) = some (tri a (dec i acc ((bl s).drop (a + i)))) := by
  induction d with
  | zero =>
    intro k i acc hi hk hacc
    obtain rfl : i = 9 := by omega
    obtain ⟨k, rfl⟩ : ∃ m, k = m + 2 := ⟨k - 2, by omega⟩
    simp only [wire_TakeNum.l0]
    by_cases hlt : a + 9 < s.size
    · rw [if_pos (by omega)]
      have hw : wrap64 ((a : Int) + ((9 : Nat) : Int)) = ((a + 9 : Nat) : Int) := by unfold wrap64; omega
      rw [hw, if_pos (by omega), if_pos (by omega), bt_nat s (a + 9) hlt, drop_cons s (a + 9) hlt]
      have hc := ((bl s)[a + 9]'(by rw [bl_length]; exact hlt)).toNat_lt
      generalize (bl s)[a + 9]'(by rw [bl_length]; exact hlt) = c at *
      rw [dec]
      by_cases h0 : c.toNat = 0
      · rw [if_pos (by omega), if_pos (by omega), if_pos (by omega)]
        simp only [wire_TakeNum.j2]; rw [if_pos trivial]; rfl
      · by_cases h1 : 1 < c.toNat
        · rw [if_pos (by omega), if_neg (by omega), if_pos (by rfl), if_pos (by omega)]
          simp only [wire_TakeNum.j2]; rw [if_pos (decide_eq_true (by omega))]; rfl
        · have e7 : wrap64 (7 * ((9 : Nat) : Int)) = ((7 * 9 : Nat) : Int) := by decide +kernel
          have hc' : c.toNat < 256 := hc
          rw [if_pos (by omega), if_neg (by omega), if_pos (by rfl), if_neg (by omega), if_pos (by omega)]
          simp only [wire_TakeNum.j2]
          rw [if_neg (by simp; omega), e7, if_pos (by omega), if_pos (by omega), and127 _ hc', wrap_u64_id (by omega), Nat.mod_eq_of_lt (by omega)]
          have hg := group_lt (i := 9) (c := c.toNat) (by omega) (by omega) (fun _ => by omega)
          rw [shl_group 9 c.toNat (by omega) hg, or_group 9 acc c.toNat (by omega) hacc hg]
          have hw2 : wrap64 (((a + 9 : Nat) : Int) + 1) = ((a + (9 + 1) : Nat) : Int) := by unfold wrap64; omega
          rw [hw, hw2]; simp [tri]
    · rw [if_neg (by omega), List.drop_of_length_le (by rw [bl_length]; omega)]; rfl
  | succ d ih =>
    intro k i acc hi hk hacc
    obtain ⟨k, rfl⟩ : ∃ m, k = m + 2 := ⟨k - 2, by omega⟩
    simp only [wire_TakeNum.l0]
    by_cases hlt : a + i < s.size
    · rw [if_pos (by omega)]
      have hw : wrap64 ((a : Int) + (i : Int)) = ((a + i : Nat) : Int) := by unfold wrap64; omega
      rw [hw, if_pos (by omega), if_pos (by omega), bt_nat s (a + i) hlt, drop_cons s (a + i) hlt]
      have hc := ((bl s)[a + i]'(by rw [bl_length]; exact hlt)).toNat_lt
      generalize (bl s)[a + i]'(by rw [bl_length]; exact hlt) = c at *
      have hc' : c.toNat < 256 := hc
      have e9 : ¬ ((i : Int) = 9) := by omega
      have e7 : wrap64 (7 * (i : Int)) = ((7 * i : Nat) : Int) := by unfold wrap64; omega
      have hg := group_lt (i := i) (c := c.toNat % 128) (by omega) (by omega) (fun _ => by omega)
      have hacc2 : acc + c.toNat % 128 * 128 ^ i < 128 ^ (i + 1) := by
        rw [Nat.pow_succ, Nat.mul_comm (128 ^ i)]
        have : c.toNat % 128 * 128 ^ i ≤ 127 * 128 ^ i := Nat.mul_le_mul_right _ (by omega)
        omega
      rw [dec]
      by_cases h0 : 0 < i ∧ c.toNat = 0
      · rw [if_pos (by omega), if_pos (by omega), if_pos (Or.inl h0)]
        simp only [wire_TakeNum.j2]; rw [if_pos trivial]; rfl
      · have hj : (if (i : Int) > 0 then (if (c.toNat : Int) = 0 then (wire_TakeNum.j2 (k + 1) s a acc i c.toNat ((s.size : Int) - (a : Int)) i true) else (if (i : Int) = 9 then (wire_TakeNum.j2 (k + 1) s a acc i c.toNat ((s.size : Int) - (a : Int)) i (decide ((c.toNat : Int) > 1))) else (wire_TakeNum.j2 (k + 1) s a acc i c.toNat ((s.size : Int) - (a : Int)) i false))) else (if (i : Int) = 9 then (wire_TakeNum.j2 (k + 1) s a acc i c.toNat ((s.size : Int) - (a : Int)) i (decide ((c.toNat : Int) > 1))) else (wire_TakeNum.j2 (k + 1) s a acc i c.toNat ((s.size : Int) - (a : Int)) i false)))
            = wire_TakeNum.j2 (k + 1) s a acc i c.toNat ((s.size : Int) - (a : Int)) i false := by
          by_cases hi0 : (i : Int) > 0
          · rw [if_pos hi0, if_neg (by omega), if_neg e9]
          · rw [if_neg hi0, if_neg e9]
        rw [hj, if_neg (by omega)]
        simp only [wire_TakeNum.j2]
        rw [if_neg (by simp), e7, if_pos (by omega), and127 _ hc', wrap_u64_id (by omega), shl_group i _ (by omega) hg, or_group i acc _ (by omega) hacc hg]
        by_cases h2 : c.toNat < 128
        · rw [if_pos (by omega), if_pos h2, Nat.mod_eq_of_lt h2]
          have hw2 : wrap64 (((a + i : Nat) : Int) + 1) = ((a + (i + 1) : Nat) : Int) := by unfold wrap64; omega
          rw [hw, hw2]; simp [tri]
        · rw [if_neg (by omega), if_neg h2, wrap_nat (by omega), ih k (i + 1) _ (by omega) (by omega) hacc2]
          rw [show c.toNat % 128 = c.toNat - 128 by omega]; rfl
    · rw [if_neg (by omega), List.drop_of_length_le (by rw [bl_length]; omega)]; rfl

theorem take_ev (s : ByteArray) (hs : s.size < 4611686018427387904) (a : Int) (k : Nat) (hk : 25 ≤ k) : wire_TakeNum.f k s a = some (takeI s a) := by
  obtain ⟨k, rfl⟩ : ∃ m, k = m + 1 := ⟨k - 1, by omega⟩
  unfold wire_TakeNum.f takeI
  by_cases h : a < 0
  · rw [if_pos h, if_pos (Or.inl h)]; simp only [wire_TakeNum.j0]; rw [if_pos trivial]
  · rw [if_neg h]
    by_cases h2 : a > s.size
    · rw [if_pos (Or.inr h2)]; simp only [wire_TakeNum.j0]; rw [if_pos (decide_eq_true h2)]
    · rw [if_neg (by omega)]; simp only [wire_TakeNum.j0]; rw [if_neg (by simpa using h2)]
      obtain ⟨b, rfl⟩ := Int.eq_ofNat_of_zero_le (show 0 ≤ a by omega)
      have hw : wrap64 ((s.size : Int) - (b : Int)) = (s.size : Int) - (b : Int) := by unfold wrap64; omega
      have := take_l0 s hs b (by omega) 9 k 0 0 (by omega) (by omega) (by decide)
      rw [hw, Int.toNat_natCast]
      simpa using this

/-! numbers laid down -/
def b8 (l : List Int) : List UInt8 := l.map fun n => UInt8.ofNat n.toNat
theorem bl_strOfNums (l : List Int) : bl (strOfNums l) = b8 l := by simp [bl, strOfNums, b8]
def encs (l : List Nat) : List UInt8 := l.flatMap enc
def nats (l : List Int) : List Nat := l.map Int.toNat

theorem num_l1 (n : Nat) : ∀ (k : Nat) (x : List Int) (l : List Int) (m i : Int), (enc n).length + 1 ≤ k → n < 18446744073709551616 → x.length + (enc n).length < 140737488355328 →
    ∃ y, b8 y = b8 x ++ enc n ∧ y.length = x.length + (enc n).length ∧ wire_Num.l1 k x (n : Int) l m i = wire_Num.l0 (k - (enc n).length) y l m (wrap64 (i + 1)) := by
  induction n using Nat.strongRecOn with
  | _ n ih =>
    intro k x l m i hk hn hx
    obtain ⟨k, rfl⟩ : ∃ q, k = q + 1 := ⟨k - 1, by omega⟩
    by_cases h : n < 128
    · rw [enc_small h] at hk hx ⊢
      simp only [List.length_singleton] at hk hx ⊢
      simp only [wire_Num.l1]
      rw [if_neg (by omega), if_pos (by omega)]
      refine ⟨x ++ [(n : Int) % 256], ?_, by simp, rfl⟩
      have : ((n : Int) % 256).toNat = n := by omega
      simp [b8, this]
    · rw [enc_big h] at hk hx ⊢
      rw [List.length_cons] at hk hx ⊢
      simp only [wire_Num.l1]
      rw [if_pos (by omega), if_pos (by omega), or128, show (n : Int) / 128 = ((n / 128 : Nat) : Int) by omega]
      obtain ⟨y, e1, e2, e3⟩ := ih (n / 128) (by omega) k (x ++ [((n % 128 + 128 : Nat) : Int)]) l m i (by omega) (by omega) (by simp only [List.length_append, List.length_singleton]; omega)
      refine ⟨y, ?_, ?_, ?_⟩
      · rw [e1]; simp only [b8, List.map_append, List.map_cons, List.map_nil, List.append_assoc, List.singleton_append, Int.toNat_natCast]
      · rw [e2]; simp; omega
      · rw [e3]; congr 1; omega

theorem num_l0 (l : List Int) (hl : l.length < 1000000) (hw : ∀ x ∈ l, (Lit.int .u64 x).wf = true) (d : Nat) : ∀ (k i : Nat) (x : List Int), i + d = l.length → 12 * d + 1 ≤ k → x.length ≤ 10 * i →
    ∃ s, wire_Num.l0 k x l (l.length : Int) (i : Int) = some s ∧ bl s = b8 x ++ encs (nats (l.drop i)) := by
  induction d with
  | zero =>
    intro k i x hi hk hx
    obtain ⟨k, rfl⟩ : ∃ m, k = m + 1 := ⟨k - 1, by omega⟩
    refine ⟨strOfNums x, ?_, ?_⟩
    · simp only [wire_Num.l0]; rw [if_neg (by omega)]
    · rw [bl_strOfNums, List.drop_of_length_le (by omega)]; simp [encs, nats]
  | succ d ih =>
    intro k i x hi hk hx
    obtain ⟨k, rfl⟩ : ∃ m, k = m + 1 := ⟨k - 1, by omega⟩
    have hlt : i < l.length := by omega
    obtain ⟨n, hn, hn2⟩ := u64_nat l[i] (hw _ (List.getElem_mem hlt))
    have hr : rd l (i : Int) = (n : Int) := by rw [← hn]; simp [rd, List.getD, hlt]
    have h10 := enc_ten hn2
    simp only [wire_Num.l0]
    rw [if_pos (by omega), if_pos (by omega), if_pos (by omega), hr]
    obtain ⟨y, e1, e2, e3⟩ := num_l1 n k x l (l.length : Int) (i : Int) (by omega) hn2 (by omega)
    rw [e3, wrap_nat (by omega)]
    obtain ⟨s, h1, h2⟩ := ih (k - (enc n).length) (i + 1) y (by omega) (by omega) (by omega)
    refine ⟨s, h1, ?_⟩
    rw [h2, e1, List.drop_eq_getElem_cons hlt]
    simp [encs, nats, hn]

/-- what the program lays numbers down as, and its octets -/
theorem num_ev (l : List Int) (hl : l.length < 1000000) (hw : ∀ x ∈ l, (Lit.int .u64 x).wf = true) (k : Nat) (hk : 12 * l.length + 1 ≤ k) :
    ∃ s, wire_Num.f k l = some s ∧ bl s = encs (nats l) := by
  obtain ⟨s, h1, h2⟩ := num_l0 l hl hw l.length k 0 [] (by omega) hk (by simp)
  exact ⟨s, by simpa [wire_Num.f] using h1, by simpa [b8] using h2⟩
theorem wf_u64 {n : Nat} (h : n < 18446744073709551616) : (Lit.int .u64 (n : Int)).wf = true := by
  have : IntKind.u64.min ≤ (n : Int) ∧ (n : Int) ≤ IntKind.u64.max := by
    simp only [IntKind.min, IntKind.max, IntKind.bits, IntKind.signed]; simp; omega
  simpa [Lit.wf] using this
theorem num_one (n : Nat) (hn : n < 18446744073709551616) (k : Nat) (hk : 13 ≤ k) : ∃ s, wire_Num.f k [(n : Int)] = some s ∧ bl s = enc n := by
  obtain ⟨s, h1, h2⟩ := num_ev [(n : Int)] (by simp) (by intro x hx; rw [List.mem_singleton.1 hx]; exact wf_u64 hn) k (by simpa using hk)
  exact ⟨s, h1, by simpa [encs, nats] using h2⟩

/-! the sum of octets -/
section
open Go.Proofs.Ytldeanlnfhgjfaa.CMath
def V (c : BitVec 32) : Int := (c.toNat : Int)
theorem V_inj {a b : BitVec 32} (h : V a = V b) : a = b := BitVec.eq_of_toNat_eq (by unfold V at h; omega)
theorem wrap_u32 (n : Int) : IntKind.u32.wrap n = n % 4294967296 := Go.IntKind.wrap_u32 n
theorem ofInt_V (c : BitVec 32) : BitVec.ofInt 32 (V c) = c := by unfold V; rw [BitVec.ofInt_natCast]; simp
theorem wrap_V (c : BitVec 32) : IntKind.u32.wrap (V c) = V c := by rw [wrap_u32]; have := c.isLt; unfold V; omega
theorem xor_V (a b : BitVec 32) : Go.bits .xor .u32 (V a) (V b) = V (a ^^^ b) := by
  show IntKind.u32.wrap (((BitVec.ofInt 32 (V a)) ^^^ (BitVec.ofInt 32 (V b))).toNat : Int) = _
  rw [ofInt_V, ofInt_V]; exact wrap_V _
theorem V_half (c : BitVec 32) : V c / (2 : Int) = V (c >>> 1) := by
  unfold V; rw [BitVec.toNat_ushiftRight, Nat.shiftRight_eq_div_pow]; omega
theorem V_low (c : BitVec 32) : V c % 2 = if c.getLsbD 0 then 1 else 0 := by
  unfold V
  have h : c.getLsbD 0 = decide (c.toNat % 2 = 1) := by rw [BitVec.getLsbD, Nat.testBit_zero]
  rw [h]
  by_cases h2 : c.toNat % 2 = 1
  · rw [decide_eq_true h2, if_pos rfl]; omega
  · rw [decide_eq_false h2, if_neg (by simp)]; omega
theorem and_one (c : BitVec 32) : Go.bits .and .u32 (V c) 1 = V c % 2 := by
  have w : ∀ n : Int, 0 ≤ n → n < 2 ^ 32 → IntKind.u32.wrap n = n := by intro n h0 h1; rw [wrap_u32]; omega
  have h := c.isLt
  exact bits_mask .u32 32 (by decide) w 1 (by decide) (V c) (by unfold V; omega) (by unfold V; omega)
theorem V_poly : V poly = 3988292384 := by decide +kernel
theorem tstep_V (c : BitVec 32) : tstep (V c) = V (M c) := by
  unfold tstep M
  rw [and_one, V_low, V_half]
  cases c.getLsbD 0 with
  | true =>
    rw [if_pos rfl, if_pos rfl, show (3988292384 * 1 % 4294967296 : Int) = V poly by rw [V_poly]; rfl, xor_V]
  | false =>
    rw [if_neg (by simp), if_neg (by simp), show (3988292384 * 0 % 4294967296 : Int) = V 0#32 by rfl, xor_V, BitVec.xor_zero]
theorem titer_V (n : Nat) (c : BitVec 32) : titer n (V c) = V (it n c) := by
  induction n with
  | zero => rfl
  | succ n ih => show tstep (titer n (V c)) = V (M (it n c)); rw [ih, tstep_V]
theorem cidx_V (c : BitVec 32) (b : UInt8) : Go.bits .xor .u8 (V c % 256) (b.toNat : Int) = V (low c ^^^ w8 b) := by
  have h1 : V c % 256 = ((c.toNat % 256 : Nat) : Int) := by unfold V; omega
  rw [h1]
  show IntKind.u8.wrap (((BitVec.ofInt 8 ((c.toNat % 256 : Nat) : Int)) ^^^ (BitVec.ofInt 8 (b.toNat : Int))).toNat : Int) = _
  rw [BitVec.ofInt_natCast, BitVec.ofInt_natCast]
  unfold V low w8
  have hb := b.toNat_lt
  have h3 : c.toNat % 256 < 256 := Nat.mod_lt _ (by omega)
  have h4 : c.toNat % 256 ^^^ b.toNat < 2 ^ 8 := Nat.xor_lt_two_pow h3 hb
  rw [BitVec.toNat_xor, BitVec.toNat_xor, BitVec.toNat_ofNat, BitVec.toNat_ofNat, BitVec.toNat_ofNat, BitVec.toNat_ofNat,
    Nat.mod_eq_of_lt (show c.toNat % 256 < 2 ^ 8 by omega), Nat.mod_eq_of_lt hb, Nat.mod_eq_of_lt (show c.toNat % 256 < 2 ^ 32 by omega), Nat.mod_eq_of_lt (show b.toNat < 2 ^ 32 by omega)]
  rw [Go.IntKind.wrap_u8]
  generalize c.toNat % 256 ^^^ b.toNat = z at *
  omega
theorem cstep_V (c : BitVec 32) (b : UInt8) : cstep (V c) b = V (byte c b) := by
  unfold cstep
  rw [cidx_V, titer_V]
  have h : V c / (256 : Int) = V (c >>> 8) := by unfold V; rw [BitVec.toNat_ushiftRight, Nat.shiftRight_eq_div_pow]; omega
  rw [h, xor_V, it8_split]
theorem cfold_V (l : List UInt8) : ∀ c : BitVec 32, l.foldl cstep (V c) = V (reg c l) := by
  induction l with
  | nil => intro c; rfl
  | cons b l ih => intro c; show l.foldl cstep (cstep (V c) b) = _; rw [cstep_V, ih]; rfl
theorem V_ones : V ones = 4294967295 := by decide +kernel
theorem max_ones : IntKind.u32.max = V ones := by decide +kernel
theorem sum_ev (s : ByteArray) (hs : s.size < 4611686018427387904) : wire_Sum.f s = some (V (crc (bl s))) := by
  unfold wire_Sum.f
  rw [if_pos hs]
  unfold crcTo
  have e : s.data.toList.take s.size = bl s := List.take_of_length_le (by rw [data_length]; omega)
  rw [e, ← V_ones, cfold_V, max_ones, xor_V, BitVec.xor_comm]; rfl
end

/-! octets sealed, and opened -/
section
open Go.Proofs.Ytldeanlnfhgjfaa.CMath
theorem bl_extract (s : ByteArray) (a b : Nat) : bl (s.extract a b) = ((bl s).take b).drop a := by
  simp [bl, List.drop_take]
theorem four_ev (x : BitVec 32) : ∃ y, wire_four.f (V x) = some y ∧ bl y = four x := by
  unfold wire_four.f
  refine ⟨_, rfl, ?_⟩
  rw [bl_strOfNums]
  have e0 : (V x % 256).toNat = x.toNat % 256 := by unfold V; omega
  have e1 : (V x / 256 % 256).toNat = x.toNat / 256 % 256 := by unfold V; omega
  have e2 : (V x / 65536 % 256).toNat = x.toNat / 65536 % 256 := by unfold V; omega
  have e3 : (V x / 16777216 % 256).toNat = x.toNat / 16777216 % 256 := by unfold V; omega
  simp only [b8, List.map_cons, List.map_nil, e0, e1, e2, e3, four]
theorem seal_ev (s : ByteArray) (hs : s.size ≤ 4096) : ∃ x, wire_Seal.f s = some (x, 0) ∧ bl x = bl s ++ four (crc (bl s)) := by
  unfold wire_Seal.f
  obtain ⟨y, h1, h2⟩ := four_ev (crc (bl s))
  have hy : y.size = 4 := by rw [← bl_length, h2]; rfl
  rw [if_neg (by omega), sum_ev s (by omega), Option.bind_some, h1, Option.bind_some, if_pos (by omega)]
  exact ⟨_, rfl, by rw [bl_append, h2]⟩
theorem seal_large (s : ByteArray) (hs : s.size > 4096) : wire_Seal.f s = some ((⟨#[]⟩ : ByteArray), 4) := by
  unfold wire_Seal.f; rw [if_pos (by omega)]
/-- what is opened -/
def openI (s : ByteArray) : ByteArray × Int :=
  if s.size < 4 then (⟨#[]⟩, 3) else if s.size > 4100 then (⟨#[]⟩, 4) else
    if bl s = bl (s.extract 0 (s.size - 4)) ++ four (crc (bl (s.extract 0 (s.size - 4)))) then (s.extract 0 (s.size - 4), 0) else (⟨#[]⟩, 10)
theorem cut_at (s : ByteArray) (n : Nat) (h : n ≤ s.size) : bl s = bl (s.extract 0 n) ++ bl (s.extract n s.size) := by
  have e : (bl s).take s.size = bl s := List.take_of_length_le (by rw [bl_length]; omega)
  rw [bl_extract, bl_extract, List.drop_zero, e, List.take_append_drop]
theorem open_ev (s : ByteArray) (hs : s.size < 4611686018427387904) : wire_Open.f s = some (openI s) := by
  unfold wire_Open.f openI
  have w : wrap64 ((s.size : Int) - 4) = (s.size : Int) - 4 := by unfold wrap64; omega
  rw [w]
  by_cases h1 : s.size < 4
  · rw [if_pos (by omega), if_pos h1]
  · rw [if_neg (by omega), if_neg h1]
    by_cases h2 : s.size > 4100
    · rw [if_pos (by omega), if_pos h2]
    · rw [if_neg (by omega), if_neg h2, if_pos (by omega), if_pos (by omega)]
      have e : ((s.size : Int) - 4).toNat = s.size - 4 := by omega
      rw [e]
      have hn : (s.extract 0 (s.size - 4)).size = s.size - 4 := by simp
      rw [sum_ev _ (by omega), Option.bind_some]
      obtain ⟨y, h3, h4⟩ := four_ev (crc (bl (s.extract 0 (s.size - 4))))
      rw [h3, Option.bind_some, toList_eq, toList_eq, h4]
      have hc := cut_at s (s.size - 4) (by omega)
      generalize bl (s.extract (s.size - 4) s.size) = tl at *
      have hiff : (tl = four (crc (bl (s.extract 0 (s.size - 4))))) ↔ (bl s = bl (s.extract 0 (s.size - 4)) ++ four (crc (bl (s.extract 0 (s.size - 4))))) := by
        constructor
        · rintro rfl; exact hc
        · intro h; rw [hc] at h; exact List.append_cancel_left h
      by_cases h5 : tl = four (crc (bl (s.extract 0 (s.size - 4))))
      · rw [if_pos h5, if_pos (hiff.1 h5)]
      · rw [if_neg h5, if_neg (fun h => h5 (hiff.2 h))]
/-- sealed octets are opened -/
theorem open_sealed (s x : ByteArray) (hs : s.size ≤ 4096) (hx : bl x = bl s ++ four (crc (bl s))) : openI x = (s, 0) := by
  have hz : x.size = s.size + 4 := by rw [← bl_length x, hx, List.length_append, bl_length]; rfl
  have he : x.extract 0 (x.size - 4) = s := by
    apply bl_inj
    rw [bl_extract, List.drop_zero, hx, hz, Nat.add_sub_cancel, ← bl_length s, List.take_left]
  unfold openI
  rw [if_neg (by omega), if_neg (by omega), he, if_pos hx]
/-- what is opened is sealed -/
theorem open_ok (x : ByteArray) (h : (openI x).2 = 0) : 4 ≤ x.size ∧ x.size ≤ 4100 ∧ (openI x).1.size = x.size - 4 ∧ bl x = bl (openI x).1 ++ four (crc (bl (openI x).1)) := by
  unfold openI at h ⊢
  by_cases h1 : x.size < 4
  · rw [if_pos h1] at h; simp at h
  · by_cases h2 : x.size > 4100
    · rw [if_neg h1, if_pos h2] at h; simp at h
    · rw [if_neg h1, if_neg h2] at h ⊢
      by_cases h3 : bl x = bl (x.extract 0 (x.size - 4)) ++ four (crc (bl (x.extract 0 (x.size - 4))))
      · rw [if_pos h3]; exact ⟨by omega, by omega, by simp, h3⟩
      · rw [if_neg h3] at h; simp at h
/-- by the register: whatever is long enough is opened just if its register is the sealed ones' -/
theorem open_iff (x : ByteArray) (h4 : 4 ≤ x.size) (hl : x.size ≤ 4100) : (openI x).2 = 0 ↔ reg ones (bl x) = K := by
  have hc := cut_at x (x.size - 4) (by omega)
  have hz : (bl (x.extract (x.size - 4) x.size)).length = 4 := by rw [bl_length]; simp; omega
  obtain ⟨a, b, c, d, ht⟩ : ∃ a b c d, bl (x.extract (x.size - 4) x.size) = [a, b, c, d] := by
    match hm : bl (x.extract (x.size - 4) x.size), hz with
    | [a, b, c, d], _ => exact ⟨a, b, c, d, rfl⟩
  obtain ⟨v, hv⟩ := four_surj a b c d
  rw [ht, hv] at hc
  constructor
  · intro h
    obtain ⟨_, _, _, h3⟩ := open_ok x h
    rw [h3]; exact (sealed_iff _ _).2 rfl
  · intro h
    rw [hc] at h
    have := (sealed_iff _ _).1 h
    unfold openI
    rw [if_neg (by omega), if_neg (by omega), if_pos (by rw [← this]; exact hc)]
end

/-! the document's numbers -/
theorem wrap_u64_nat {n : Int} (h0 : 0 ≤ n) (h : n < 18446744073709551616) : IntKind.u64.wrap n = n := by rw [wrap_u64]; omega
theorem rnum_ev (n : Nat) : ∀ k : Nat, n < 18446744073709551616 → (enc n).length ≤ k → ∃ s, tattleref01_Num.f k (n : Int) = some s ∧ bl s = enc n := by
  induction n using Nat.strongRecOn with
  | _ n ih =>
    intro k hn hk
    have hp := enc_pos n
    obtain ⟨k, rfl⟩ : ∃ q, k = q + 1 := ⟨k - 1, by omega⟩
    simp only [tattleref01_Num.f]
    by_cases h : n < 128
    · refine ⟨strOfNums [(n : Int) % 256], by rw [if_pos (by omega)], ?_⟩
      rw [bl_strOfNums, enc_small h]
      have : ((n : Int) % 256).toNat = n := by omega
      simp [b8, this]
    · rw [if_neg (by omega)]
      have t1 : Int.tmod (n : Int) 128 = ((n % 128 : Nat) : Int) := by
        rw [Int.tmod_eq_emod_of_nonneg (Int.natCast_nonneg n)]; exact (Int.natCast_emod n 128).symm
      have t2 : Int.tdiv (n : Int) 128 = ((n / 128 : Nat) : Int) := by
        rw [Int.tdiv_eq_ediv_of_nonneg (Int.natCast_nonneg n)]; exact (Int.natCast_ediv n 128).symm
      rw [t1, t2, wrap_u64_nat (by omega) (by omega), wrap_u64_nat (by omega) (by omega)]
      rw [enc_big h, List.length_cons] at hk
      obtain ⟨s, h1, h2⟩ := ih (n / 128) (by omega) k (by omega) (by omega)
      have h10 := enc_ten (n := n / 128) (by omega)
      have hl : s.size = (enc (n / 128)).length := by rw [← h2, bl_length]
      have e : (((n % 128 : Nat) : Int) + 128) % 256 = ((n % 128 + 128 : Nat) : Int) := by omega
      rw [e, Option.bind_some, h1, Option.bind_some]
      have hz : (strOfNums [((n % 128 + 128 : Nat) : Int)]).size = 1 := by rw [← bl_length, bl_strOfNums]; simp [b8]
      rw [if_pos (by omega)]
      refine ⟨_, rfl, ?_⟩
      rw [bl_append, bl_strOfNums, h2, enc_big h]
      simp only [b8, List.map_cons, List.map_nil, List.singleton_append, Int.toNat_natCast]

theorem rnums_l0 (l : List Int) (hl : l.length < 1000000) (hw : ∀ x ∈ l, (Lit.int .u64 x).wf = true) (d : Nat) : ∀ (k i : Nat) (x : ByteArray), i + d = l.length → d + 11 ≤ k → x.size ≤ 10 * i →
    ∃ s, tattleref01_Nums.l0 k l x (i : Int) = some s ∧ bl s = bl x ++ encs (nats (l.drop i)) := by
  induction d with
  | zero =>
    intro k i x hi hk hx
    obtain ⟨k, rfl⟩ : ∃ m, k = m + 1 := ⟨k - 1, by omega⟩
    refine ⟨x, ?_, ?_⟩
    · simp only [tattleref01_Nums.l0]; rw [if_neg (by omega)]
    · rw [List.drop_of_length_le (by omega)]; simp [encs, nats]
  | succ d ih =>
    intro k i x hi hk hx
    obtain ⟨k, rfl⟩ : ∃ m, k = m + 1 := ⟨k - 1, by omega⟩
    have hlt : i < l.length := by omega
    obtain ⟨n, hn, hn2⟩ := u64_nat l[i] (hw _ (List.getElem_mem hlt))
    have hr : rd l (i : Int) = (n : Int) := by rw [← hn]; simp [rd, List.getD, hlt]
    have h10 := enc_ten hn2
    obtain ⟨t, h1, h2⟩ := rnum_ev n k hn2 (by omega)
    have ht : t.size = (enc n).length := by rw [← h2, bl_length]
    have hxt : (x ++ t).size = x.size + t.size := ByteArray.size_append
    simp only [tattleref01_Nums.l0]
    rw [if_pos (by omega), if_pos (by omega), hr, h1, Option.bind_some, if_pos (by omega), wrap_nat (by omega)]
    obtain ⟨s, h3, h4⟩ := ih k (i + 1) (x ++ t) (by omega) (by omega) (by omega)
    refine ⟨s, h3, ?_⟩
    rw [h4, bl_append, h2, List.drop_eq_getElem_cons hlt]
    simp [encs, nats, hn]
theorem rnums_ev (l : List Int) (hl : l.length < 1000000) (hw : ∀ x ∈ l, (Lit.int .u64 x).wf = true) (k : Nat) (hk : l.length + 11 ≤ k) :
    ∃ s, tattleref01_Nums.f k l = some s ∧ bl s = encs (nats l) := by
  obtain ⟨s, h1, h2⟩ := rnums_l0 l hl hw l.length k 0 ⟨#[]⟩ (by omega) hk (by simp [ByteArray.size])
  refine ⟨s, by simpa [tattleref01_Nums.f] using h1, ?_⟩
  rw [h2]; simp [bl]

/-! the document's answer: a number taken -/
set_option maxHeartbeats 2000000 in
theorem rtake_l0 (s : ByteArray) (hs : s.size < 4611686018427387904) (a : Nat) (ha : a ≤ s.size) (d : Nat) : ∀ (k i acc : Nat), i + d = 9 → 3 * d + 3 ≤ k → acc < 128 ^ i →
    tattleref01_TakeNum.l0 k s (a : Int) (acc : Int) ((128 ^ i : Nat) : Int) ((a + i : Nat) : Int) = some (tri a (dec i acc ((bl s).drop (a + i)))) := by
  induction d with
  | zero =>
    intro k i acc hi hk hacc
    obtain rfl : i = 9 := by omega
    obtain ⟨k, rfl⟩ : ∃ m, k = m + 3 := ⟨k - 3, by omega⟩
    simp only [tattleref01_TakeNum.l0]
    by_cases hlt : a + 9 < s.size
    · rw [if_pos (by omega), if_pos (by omega), if_pos (by omega), bt_nat s (a + 9) hlt, drop_cons s (a + 9) hlt]
      have hc := ((bl s)[a + 9]'(by rw [bl_length]; exact hlt)).toNat_lt
      generalize (bl s)[a + 9]'(by rw [bl_length]; exact hlt) = c at *
      have hc' : c.toNat < 256 := hc
      have hw : wrap64 ((a : Int) + 9) = ((a + 9 : Nat) : Int) := by unfold wrap64; omega
      rw [dec]
      simp only [tattleref01_TakeNum.j2]
      by_cases h0 : c.toNat = 0
      · rw [if_pos (by rw [beq_iff_eq]; omega), if_pos (Or.inl ⟨by omega, h0⟩)]; rfl
      · rw [if_neg (by rw [beq_iff_eq]; omega), hw, if_pos rfl]
        simp only [tattleref01_TakeNum.j3]
        by_cases h1 : 1 < c.toNat
        · rw [if_pos (decide_eq_true (by omega)), if_pos (Or.inr ⟨trivial, h1⟩)]; rfl
        · have hm : Int.tmod (c.toNat : Int) 128 = (c.toNat : Int) := by rw [Int.tmod_eq_emod_of_nonneg (by omega)]; omega
          have hg := group_lt (i := 9) (c := c.toNat) (by omega) (by omega) (fun _ => by omega)
          rw [if_neg (by simp; omega), if_pos (by omega), if_neg (by rintro (⟨_, h⟩ | ⟨_, h⟩) <;> omega), if_pos (by omega), hm, wrap_u64_id (by omega)]
          have hmul : (c.toNat : Int) * ((128 ^ 9 : Nat) : Int) = ((c.toNat * 128 ^ 9 : Nat) : Int) := by rw [Int.natCast_mul]
          rw [hmul, wrap_u64_id hg, ← Int.natCast_add, wrap_u64_id (by rw [pow9] at hacc ⊢; omega)]
          have hw2 : wrap64 (((a + 9 : Nat) : Int) + 1) = ((a + (9 + 1) : Nat) : Int) := by unfold wrap64; omega
          rw [hw2]; simp [tri]
    · rw [if_neg (by omega), List.drop_of_length_le (by rw [bl_length]; omega)]; rfl
  | succ d ih =>
    intro k i acc hi hk hacc
    obtain ⟨k, rfl⟩ : ∃ m, k = m + 3 := ⟨k - 3, by omega⟩
    have hk' : 3 * d + 3 ≤ k := by omega
    have hi' : i + 1 + d = 9 := by omega
    simp only [tattleref01_TakeNum.l0]
    by_cases hlt : a + i < s.size
    · rw [if_pos (by omega), if_pos (by omega), bt_nat s (a + i) hlt, drop_cons s (a + i) hlt]
      have hc := ((bl s)[a + i]'(by rw [bl_length]; exact hlt)).toNat_lt
      generalize (bl s)[a + i]'(by rw [bl_length]; exact hlt) = c at *
      have hc' : c.toNat < 256 := hc
      have hw : wrap64 ((a : Int) + 9) = ((a + 9 : Nat) : Int) := by unfold wrap64; omega
      have hg := group_lt (i := i) (c := c.toNat % 128) (by omega) (by omega) (fun _ => by omega)
      have hacc2 : acc + c.toNat % 128 * 128 ^ i < 128 ^ (i + 1) := by
        rw [Nat.pow_succ, Nat.mul_comm (128 ^ i)]
        have : c.toNat % 128 * 128 ^ i ≤ 127 * 128 ^ i := Nat.mul_le_mul_right _ (by omega)
        omega
      have hp9 : 128 ^ (i + 1) ≤ 128 ^ 9 := Nat.pow_le_pow_right (by omega) (by omega)
      have hp : 128 ^ (i + 1) = 128 ^ i * 128 := Nat.pow_succ ..
      rw [pow9] at hp9
      have hj : ∀ b : Bool, b = decide (0 < i ∧ c.toNat = 0) →
          tattleref01_TakeNum.j2 (k + 2) s a acc ((128 ^ i : Nat) : Int) ((a + i : Nat) : Int) c.toNat b = some (tri a (dec i acc (c :: (bl s).drop (a + i + 1)))) := by
        intro b hb
        rw [dec]
        simp only [tattleref01_TakeNum.j2]
        by_cases h0 : 0 < i ∧ c.toNat = 0
        · rw [if_pos (by rw [hb]; exact decide_eq_true h0), if_pos (Or.inl h0)]; rfl
        · rw [if_neg (by rw [hb]; simp only [decide_eq_true_eq]; exact h0), hw, if_neg (by omega), if_neg (by omega)]
          simp only [tattleref01_TakeNum.j3]
          have hm : Int.tmod (c.toNat : Int) 128 = ((c.toNat % 128 : Nat) : Int) := by rw [Int.tmod_eq_emod_of_nonneg (by omega)]; exact (Int.natCast_emod c.toNat 128).symm
          have hmul : ((c.toNat % 128 : Nat) : Int) * ((128 ^ i : Nat) : Int) = ((c.toNat % 128 * 128 ^ i : Nat) : Int) := by rw [Int.natCast_mul]
          have hw8 : ((128 ^ i : Nat) : Int) * 128 = ((128 ^ (i + 1) : Nat) : Int) := by rw [hp]; simp
          rw [if_neg (by simp), hm, wrap_u64_id (by omega), hmul, wrap_u64_id hg, ← Int.natCast_add, wrap_u64_id (by omega), hw8, wrap_u64_id (by omega)]
          by_cases h2 : c.toNat < 128
          · rw [if_pos (by omega), if_pos h2, Nat.mod_eq_of_lt h2]
            have hw2 : wrap64 (((a + i : Nat) : Int) + 1) = ((a + (i + 1) : Nat) : Int) := by unfold wrap64; omega
            rw [hw2]; simp [tri]
          · have hw2 : wrap64 (((a + i : Nat) : Int) + 1) = ((a + (i + 1) : Nat) : Int) := by unfold wrap64; omega
            rw [if_neg (by omega), if_neg h2, hw2, ih k (i + 1) _ hi' hk' hacc2]
            rw [show c.toNat % 128 = c.toNat - 128 by omega]; rfl
      by_cases hi0 : i = 0
      · subst hi0
        rw [if_neg (by omega)]
        exact hj false (by simp)
      · rw [if_pos (by omega)]
        refine hj _ ?_
        by_cases h0 : c.toNat = 0
        · rw [decide_eq_true (show 0 < i ∧ c.toNat = 0 from ⟨by omega, h0⟩), h0]; rfl
        · rw [decide_eq_false (show ¬ (0 < i ∧ c.toNat = 0) from fun h => h0 h.2), beq_eq_false_iff_ne]; omega
    · rw [if_neg (by omega), List.drop_of_length_le (by rw [bl_length]; omega)]; rfl
theorem rtake_ev (s : ByteArray) (hs : s.size < 4611686018427387904) (a : Int) (k : Nat) (hk : 35 ≤ k) : tattleref01_TakeNum.f k s a = some (takeI s a) := by
  obtain ⟨k, rfl⟩ : ∃ m, k = m + 1 := ⟨k - 1, by omega⟩
  unfold tattleref01_TakeNum.f takeI
  by_cases h : a < 0
  · rw [if_pos h, if_pos (Or.inl h)]; simp only [tattleref01_TakeNum.j0]; rw [if_pos trivial]
  · rw [if_neg h]
    by_cases h2 : a > s.size
    · rw [if_pos (Or.inr h2)]; simp only [tattleref01_TakeNum.j0]; rw [if_pos (decide_eq_true h2)]
    · rw [if_neg (by omega)]; simp only [tattleref01_TakeNum.j0]; rw [if_neg (by simpa using h2)]
      obtain ⟨b, rfl⟩ := Int.eq_ofNat_of_zero_le (show 0 ≤ a by omega)
      have := rtake_l0 s hs b (by omega) 9 k 0 0 (by omega) (by omega) (by decide)
      rw [Int.toNat_natCast]
      simpa using this

/-! the document's sum, seal and opening -/
section
open Go.Proofs.Ytldeanlnfhgjfaa.CMath
theorem rsum_step (c : BitVec 32) : (if (Int.tmod (V c) 2) = 1 then Go.bits .xor .u32 ((Int.tdiv (V c) 2) % 4294967296) 3988292384 else (Int.tdiv (V c) 2) % 4294967296) = V (M c) := by
  have h0 : 0 ≤ V c := by unfold V; omega
  have t1 : Int.tmod (V c) 2 = V c % 2 := Int.tmod_eq_emod_of_nonneg h0
  have t2 : Int.tdiv (V c) 2 = V (c >>> 1) := by rw [Int.tdiv_eq_ediv_of_nonneg h0, V_half]
  have t3 : V (c >>> 1) % (4294967296 : Int) = V (c >>> 1) := by have := (c >>> 1).isLt; unfold V; omega
  rw [t1, t2, t3, V_low, ← V_poly, xor_V]
  unfold M
  cases c.getLsbD 0 <;> simp
theorem rsum_l1 (s : ByteArray) (d : Nat) : ∀ (k i : Nat) (c : BitVec 32) (j : Int), i + d = 8 → d < k →
    tattleref01_Sum.l1 k s (V c) j (i : Int) = tattleref01_Sum.l0 (k - d - 1) s (V (it d c)) (wrap64 (j + 1)) := by
  induction d with
  | zero =>
    intro k i c j hi hk
    obtain ⟨k, rfl⟩ : ∃ m, k = m + 1 := ⟨k - 1, by omega⟩
    simp only [tattleref01_Sum.l1]; rw [if_neg (by omega)]; rfl
  | succ d ih =>
    intro k i c j hi hk
    obtain ⟨k, rfl⟩ : ∃ m, k = m + 1 := ⟨k - 1, by omega⟩
    have hst := rsum_step c
    have hit : it (d + 1) c = it d (M c) := it_add d 1 c
    simp only [tattleref01_Sum.l1]
    rw [if_pos (by omega), wrap_nat (by omega), hit]
    by_cases h : (Int.tmod (V c) 2) = 1
    · rw [if_pos h] at hst ⊢
      rw [hst, ih k (i + 1) (M c) j (by omega) (by omega)]; congr 1; omega
    · rw [if_neg h] at hst ⊢
      rw [hst, ih k (i + 1) (M c) j (by omega) (by omega)]; congr 1; omega
theorem rsum_l0 (s : ByteArray) (hs : s.size < 1000000) (d : Nat) : ∀ (k i : Nat) (c : BitVec 32), i + d = s.size → 10 * d + 1 ≤ k →
    tattleref01_Sum.l0 k s (V c) (i : Int) = some (V (reg c ((bl s).drop i) ^^^ ones)) := by
  induction d with
  | zero =>
    intro k i c hi hk
    obtain ⟨k, rfl⟩ : ∃ m, k = m + 1 := ⟨k - 1, by omega⟩
    simp only [tattleref01_Sum.l0]
    rw [if_neg (by omega), List.drop_of_length_le (by rw [bl_length]; omega)]
    show some ((4294967295 - V c) % 4294967296) = some (V (c ^^^ ones))
    congr 1
    have h1 : (~~~ c).toNat = 4294967295 - c.toNat := by rw [BitVec.toNat_not]
    have h2 : c ^^^ ones = ~~~ c := by
      rw [BitVec.xor_comm, show ones = BitVec.allOnes 32 from by decide, BitVec.allOnes_xor]
    have := c.isLt
    rw [h2]; unfold V; rw [h1]; omega
  | succ d ih =>
    intro k i c hi hk
    obtain ⟨k, rfl⟩ : ∃ m, k = m + 1 := ⟨k - 1, by omega⟩
    have hlt : i < s.size := by omega
    simp only [tattleref01_Sum.l0]
    rw [if_pos (by omega), if_pos (by omega), bt_nat s i hlt, drop_cons s i hlt]
    generalize (bl s)[i]'(by rw [bl_length]; exact hlt) = b at *
    have hb : (b.toNat : Int) % 4294967296 = V (w8 b) := by
      have := b.toNat_lt
      unfold V w8; rw [BitVec.toNat_ofNat, Nat.mod_eq_of_lt (by omega)]; omega
    rw [hb, xor_V, ← Int.natCast_zero, rsum_l1 s 8 k 0 _ _ (by omega) (by omega), wrap_nat (by omega), ih (k - 8 - 1) (i + 1) _ (by omega) (by omega)]
    rfl
theorem rsum_ev (s : ByteArray) (hs : s.size < 1000000) (k : Nat) (hk : 10 * s.size + 1 ≤ k) : tattleref01_Sum.f k s = some (V (crc (bl s))) := by
  unfold tattleref01_Sum.f
  have := rsum_l0 s hs s.size k 0 ones (by omega) hk
  rw [V_ones, Int.natCast_zero, List.drop_zero] at this
  exact this
theorem rseal_byte (n : Nat) : bl (strOfNums [(Int.tmod (n : Int) 256) % 256]) = [UInt8.ofNat (n % 256)] := by
  rw [bl_strOfNums]
  have e : ((Int.tmod (n : Int) 256) % 256).toNat = n % 256 := by rw [Int.tmod_eq_emod_of_nonneg (Int.natCast_nonneg n)]; omega
  simp only [b8, List.map_cons, List.map_nil, e]
theorem rseal_l0 (s : ByteArray) (hs : s.size < 1000000) (k : Nat) (hk : 5 ≤ k) (c : BitVec 32) : ∃ y, tattleref01_Seal.l0 k s (V c) 0 = some y ∧ bl y = bl s ++ four c := by
  obtain ⟨k, rfl⟩ : ∃ m, k = m + 5 := ⟨k - 5, by omega⟩
  have step : ∀ n : Nat, n < 4294967296 → (Int.tdiv (n : Int) 256) % 4294967296 = ((n / 256 : Nat) : Int) := by
    intro n hn; rw [Int.tdiv_eq_ediv_of_nonneg (Int.natCast_nonneg n)]; omega
  have hc := c.isLt
  have z : ∀ n : Nat, (strOfNums [(Int.tmod (n : Int) 256) % 256]).size = 1 := by intro n; rw [← bl_length, rseal_byte]; rfl
  have one : ∀ (q i n : Nat) (x : ByteArray), i < 4 → n < 4294967296 → x.size < 2000000 → ∃ x', bl x' = bl x ++ [UInt8.ofNat (n % 256)] ∧ x'.size = x.size + 1 ∧ tattleref01_Seal.l0 (q + 1) x (n : Int) (i : Int) = tattleref01_Seal.l0 q x' ((n / 256 : Nat) : Int) ((i + 1 : Nat) : Int) := by
    intro q i n x hi hn hx
    refine ⟨x ++ strOfNums [(Int.tmod (n : Int) 256) % 256], by rw [bl_append, rseal_byte], by rw [ByteArray.size_append, z], ?_⟩
    simp only [tattleref01_Seal.l0]
    rw [if_pos (by omega), Option.bind_some, if_pos (by rw [z]; omega), step n hn, wrap_nat (by omega)]
  obtain ⟨x1, a1, b1, c1⟩ := one (k + 4) 0 c.toNat s (by omega) hc (by omega)
  obtain ⟨x2, a2, b2, c2⟩ := one (k + 3) 1 (c.toNat / 256) x1 (by omega) (by omega) (by omega)
  obtain ⟨x3, a3, b3, c3⟩ := one (k + 2) 2 (c.toNat / 256 / 256) x2 (by omega) (by omega) (by omega)
  obtain ⟨x4, a4, b4, c4⟩ := one (k + 1) 3 (c.toNat / 256 / 256 / 256) x3 (by omega) (by omega) (by omega)
  refine ⟨x4, ?_, ?_⟩
  · rw [Int.natCast_zero] at c1
    show tattleref01_Seal.l0 (k + 4 + 1) s (c.toNat : Int) 0 = _
    rw [c1, c2, c3, c4]
    simp only [tattleref01_Seal.l0]; rw [if_neg (by omega)]
  · rw [a4, a3, a2, a1]
    simp only [four, List.append_assoc, List.cons_append, List.nil_append, Nat.div_div_eq_div_mul, Nat.reduceMul]
theorem rseal_ev (s : ByteArray) (hs : s.size < 1000000) (k : Nat) (hk : 10 * s.size + 5 ≤ k) : ∃ y, tattleref01_Seal.f k s = some y ∧ bl y = bl s ++ four (crc (bl s)) := by
  unfold tattleref01_Seal.f
  rw [rsum_ev s hs k (by omega), Option.bind_some]
  exact rseal_l0 s hs k (by omega) _

theorem ropen_ev (s : ByteArray) (hs : s.size < 4611686018427387904) (k : Nat) (hk : 50000 ≤ k) : tattleref01_Open.f k s = some (openI s) := by
  unfold tattleref01_Open.f openI
  have w : wrap64 ((s.size : Int) - 4) = (s.size : Int) - 4 := by unfold wrap64; omega
  rw [w]
  by_cases h1 : s.size < 4
  · rw [if_pos (by omega), if_pos h1]
  · rw [if_neg (by omega), if_neg h1]
    by_cases h2 : s.size > 4100
    · rw [if_pos (by omega), if_pos h2]
    · have e : ((s.size : Int) - 4).toNat = s.size - 4 := by omega
      have hn : (s.extract 0 (s.size - 4)).size = s.size - 4 := by simp
      obtain ⟨y, h3, h4⟩ := rseal_ev (s.extract 0 (s.size - 4)) (by omega) k (by omega)
      rw [if_neg (by omega), if_neg h2, if_pos (by omega), if_pos (by omega), e, h3, Option.bind_some, toList_eq, toList_eq, h4]
      by_cases h5 : bl s = bl (s.extract 0 (s.size - 4)) ++ four (crc (bl (s.extract 0 (s.size - 4))))
      · rw [if_pos h5.symm, if_pos h5]
      · rw [if_neg (fun h => h5 h.symm), if_neg h5]
end

/-! what is saved, laid down and parsed -/
section
open Go.Proofs.Ytldeanlnfhgjfaa.CMath
structure S where
  q : Nat
  b : Nat
  i : Nat
  e : Nat
  o : Int
def good (s : S) : Prop := s.q < 18446744073709551616 ∧ s.b < 18446744073709551616 ∧ s.i < 18446744073709551616 ∧ s.e < 18446744073709551616 ∧ -1 ≤ s.o ∧ s.o ≤ 63
def ns (s : S) : List Nat := [s.q, s.b, s.i, s.e, (s.o + 1).toNat]
def layH (s : S) : List UInt8 := enc (encs (ns s)).length ++ encs (ns s)
def layL (s : S) : List UInt8 := layH s ++ four (crc (layH s))

/-- so many numbers taken, and what is left -/
def dnums : Nat → List UInt8 → Option (List Nat × List UInt8)
  | 0, l => some ([], l)
  | d + 1, l => if (dec 0 0 l).2.2 = 0 then (dnums d (l.drop (dec 0 0 l).2.1)).map (fun r => ((dec 0 0 l).1 :: r.1, r.2)) else none
theorem dec_front (n : Nat) (hn : n < 18446744073709551616) (r : List UInt8) : dec 0 0 (enc n ++ r) = (n, (enc n).length, 0) := by
  rw [dec_enc n 0 0 r (by omega) (by simpa using hn) (by omega)]; simp
theorem dec_back {l : List UInt8} {n u : Nat} (h : dec 0 0 l = (n, u, 0)) : n < 18446744073709551616 ∧ u = (enc n).length ∧ u ≤ l.length ∧ l = enc n ++ l.drop u := by
  obtain ⟨m, e1, e2, e3, e4, _, e6⟩ := dec_ok l 0 0 n u (by omega) h
  obtain rfl : n = m := by simpa using e1
  obtain rfl : u = (enc n).length := by omega
  exact ⟨by simpa using e6, rfl, e4, by rw [← e3, List.length_take, Nat.min_eq_left e4, List.take_append_drop]⟩
theorem dnums_encs (l : List Nat) : ∀ r : List UInt8, (∀ x ∈ l, x < 18446744073709551616) → dnums l.length (encs l ++ r) = some (l, r) := by
  induction l with
  | nil => intro r _; rfl
  | cons n l ih =>
    intro r h
    have hn := h n (by simp)
    have e : encs (n :: l) ++ r = enc n ++ (encs l ++ r) := by simp [encs]
    show dnums (l.length + 1) _ = _
    rw [e]
    simp only [dnums]
    rw [dec_front n hn]
    simp only []
    rw [if_pos trivial, List.drop_left, ih r (fun x hx => h x (by simp [hx]))]
    rfl
theorem dnums_ok (d : Nat) : ∀ (l : List UInt8) (m : List Nat) (r : List UInt8), dnums d l = some (m, r) → m.length = d ∧ l = encs m ++ r ∧ ∀ x ∈ m, x < 18446744073709551616 := by
  induction d with
  | zero =>
    intro l m r h
    simp only [dnums, Option.some.injEq, Prod.mk.injEq] at h
    obtain ⟨rfl, rfl⟩ := h
    exact ⟨rfl, by simp [encs], by simp⟩
  | succ d ih =>
    intro l m r h
    simp only [dnums] at h
    by_cases h0 : (dec 0 0 l).2.2 = 0
    · rw [if_pos h0] at h
      obtain ⟨n, u, e, hd⟩ : ∃ n u e, dec 0 0 l = (n, u, e) := ⟨_, _, _, rfl⟩
      rw [hd] at h h0
      obtain rfl : e = 0 := h0
      obtain ⟨b1, b2, b3, b4⟩ := dec_back hd
      simp only [Option.map_eq_some_iff] at h
      obtain ⟨⟨m', r'⟩, h1, h2⟩ := h
      simp only [Prod.mk.injEq] at h2
      obtain ⟨rfl, rfl⟩ := h2
      obtain ⟨c1, c2, c3⟩ := ih _ _ _ h1
      refine ⟨by simp [c1], ?_, ?_⟩
      · rw [c2] at b4; rw [b4]; simp [encs]
      · intro x hx
        rcases List.mem_cons.1 hx with rfl | hx
        · exact b1
        · exact c3 x hx
    · rw [if_neg h0] at h; simp at h

theorem ns_lt (s : S) (h : good s) : ∀ x ∈ ns s, x < 18446744073709551616 := by
  obtain ⟨h1, h2, h3, h4, h5, h6⟩ := h
  intro x hx
  simp only [ns, List.mem_cons, List.not_mem_nil, or_false] at hx
  rcases hx with rfl | rfl | rfl | rfl | rfl <;> omega
theorem encs_len (s : S) (h : good s) : (encs (ns s)).length ≤ 50 := by
  obtain ⟨h1, h2, h3, h4, h5, h6⟩ := h
  have a1 := enc_ten h1; have a2 := enc_ten h2; have a3 := enc_ten h3; have a4 := enc_ten h4
  have a5 := enc_ten (n := (s.o + 1).toNat) (by omega)
  simp only [encs, ns, List.flatMap_cons, List.flatMap_nil, List.length_append, List.length_nil]
  omega
theorem layH_len (s : S) (h : good s) : (layH s).length = 1 + (encs (ns s)).length ∧ (layH s).length ≤ 51 := by
  have h1 := encs_len s h
  have h2 : (enc (encs (ns s)).length).length = 1 := by rw [enc_small (by omega)]; rfl
  unfold layH
  rw [List.length_append, h2]
  omega
theorem layL_len (s : S) (h : good s) : (layL s).length = (layH s).length + 4 := by unfold layL; rw [List.length_append]; rfl
theorem layH_inj {s t : S} (hs : good s) (ht : good t) (r : List UInt8) (h : layH s = layH t ++ r) : s = t ∧ r = [] := by
  have l1 := encs_len s hs; have l2 := encs_len t ht
  unfold layH at h
  have d1 := dec_front (encs (ns s)).length (by omega) (encs (ns s))
  have d2 := dec_front (encs (ns t)).length (by omega) (encs (ns t) ++ r)
  rw [h, List.append_assoc, d2] at d1
  simp only [Prod.mk.injEq, and_true] at d1
  obtain ⟨e1, e2⟩ := d1
  rw [e1, List.append_assoc] at h
  have h2 := List.append_cancel_left h
  have hr : r = [] := by
    have := congrArg List.length h2
    rw [List.length_append] at this
    exact List.eq_nil_of_length_eq_zero (by omega)
  subst hr
  refine ⟨?_, rfl⟩
  have n1 := dnums_encs (ns s) [] (ns_lt s hs)
  have n2 := dnums_encs (ns t) [] (ns_lt t ht)
  rw [h2, List.append_nil] at n1
  rw [List.append_nil] at n1 n2
  have n3 : (ns s).length = (ns t).length := rfl
  rw [n3, n2] at n1
  simp only [Option.some.injEq, Prod.mk.injEq, and_true] at n1
  obtain ⟨_, _, _, _, a5, a6⟩ := hs
  obtain ⟨_, _, _, _, b5, b6⟩ := ht
  cases s with | mk q b i e o =>
  cases t with | mk q' b' i' e' o' =>
  simp only [ns, List.cons.injEq, and_true] at n1
  simp only [] at a5 a6 b5 b6
  obtain ⟨rfl, rfl, rfl, rfl, z⟩ := n1
  congr 1; omega
/-- none is the beginning of another one -/
theorem layL_prefix {s t : S} (hs : good s) (ht : good t) (r : List UInt8) (h : layL s = layL t ++ r) : s = t ∧ r = [] := by
  have l1 := encs_len s hs; have l2 := encs_len t ht
  have e : layL s = enc (encs (ns s)).length ++ (encs (ns s) ++ four (crc (layH s))) := by unfold layL layH; rw [List.append_assoc]
  have e' : layL t ++ r = enc (encs (ns t)).length ++ (encs (ns t) ++ four (crc (layH t)) ++ r) := by unfold layL layH; simp only [List.append_assoc]
  have d1 := dec_front (encs (ns s)).length (by omega) (encs (ns s) ++ four (crc (layH s)))
  have d2 := dec_front (encs (ns t)).length (by omega) (encs (ns t) ++ four (crc (layH t)) ++ r)
  rw [← e, h, e', d2] at d1
  simp only [Prod.mk.injEq, and_true] at d1
  have hlen : (layH s).length = (layH t).length := by rw [(layH_len s hs).1, (layH_len t ht).1, d1.1]
  have hr : r = [] := by
    have := congrArg List.length h
    rw [List.length_append, layL_len s hs, layL_len t ht] at this
    exact List.eq_nil_of_length_eq_zero (by omega)
  subst hr
  rw [List.append_nil] at h
  refine ⟨?_, rfl⟩
  unfold layL at h
  have h3 := List.append_inj_left h hlen
  exact (layH_inj hs ht [] (by rw [List.append_nil]; exact h3)).1

def lay (s : S) : ByteArray := ⟨(layL s).toArray⟩
theorem bl_lay (s : S) : bl (lay s) = layL s := by simp [bl, lay]
theorem lay_size (s : S) (h : good s) : (lay s).size = (layH s).length + 4 := by rw [← bl_length, bl_lay, layL_len s h]
theorem lay_le (s : S) (h : good s) : (lay s).size ≤ 55 := by have := lay_size s h; have := (layH_len s h).2; omega
open Classical in
/-- what a text says that was saved -/
noncomputable def par (t : ByteArray) : Option S := if h : ∃ s, good s ∧ bl t = layL s then some h.choose else none
theorem par_iff (t : ByteArray) (s : S) : par t = some s ↔ good s ∧ bl t = layL s := by
  unfold par
  by_cases h : ∃ s, good s ∧ bl t = layL s
  · rw [dif_pos h]
    have hc := h.choose_spec
    constructor
    · intro e
      have := Option.some.inj e
      rw [← this]; exact hc
    · rintro ⟨g1, g2⟩
      congr 1
      rw [hc.2] at g2
      exact (layL_prefix hc.1 g1 [] (by rw [List.append_nil]; exact g2)).1
  · rw [dif_neg h]
    constructor
    · intro e; simp at e
    · intro e; exact absurd ⟨s, e⟩ h
theorem par_lay (s : S) (h : good s) : par (lay s) = some s := (par_iff _ _).2 ⟨h, bl_lay s⟩
theorem par_good {t : ByteArray} {s : S} (h : par t = some s) : good s := ((par_iff t s).1 h).1
/-- torn, it is none -/
theorem par_torn (s : S) (h : good s) (n : Nat) (hn : n < (lay s).size) : par ((lay s).extract 0 n) = none := by
  cases hp : par ((lay s).extract 0 n) with
  | none => rfl
  | some t =>
    obtain ⟨g1, g2⟩ := (par_iff _ _).1 hp
    rw [bl_extract, List.drop_zero, bl_lay] at g2
    have hsplit : layL s = layL t ++ (layL s).drop n := by rw [← g2, List.take_append_drop]
    obtain ⟨_, h2⟩ := layL_prefix h g1 _ hsplit
    have := congrArg List.length h2
    rw [List.length_drop, List.length_nil, ← bl_lay, bl_length] at this
    omega
/-- no more than was read fits -/
theorem par_open {t : ByteArray} {s : S} (h : par t = some s) : ∃ x, openI t = (x, 0) ∧ bl x = layH s := by
  obtain ⟨g1, g2⟩ := (par_iff _ _).1 h
  have hl := layH_len s g1
  have hx : bl (⟨(layH s).toArray⟩ : ByteArray) = layH s := by simp [bl]
  refine ⟨⟨(layH s).toArray⟩, ?_, hx⟩
  apply open_sealed
  · rw [← bl_length, hx]; omega
  · rw [hx]; exact g2
/-- the numbers, as the program has them -/
def sv (o : Option S) : Int × Int × Int × Int × Int := match o with
  | none => (0, 0, 0, 0, 0)
  | some s => ((s.q : Int), (s.b : Int), (s.i : Int), (s.e : Int), s.o)
open Classical in
noncomputable def errI (t : ByteArray) : Int := if (openI t).2 = 0 then (if par t = none then 2 else 0) else (openI t).2
theorem errI_zero (t : ByteArray) : errI t = 0 ↔ par t ≠ none := by
  unfold errI
  constructor
  · intro h hp
    rw [hp] at h
    by_cases h0 : (openI t).2 = 0
    · rw [if_pos h0, if_pos rfl] at h; simp at h
    · rw [if_neg h0] at h; exact h0 h
  · intro h
    obtain ⟨s, hs⟩ := Option.ne_none_iff_exists'.1 h
    obtain ⟨x, hx, _⟩ := par_open hs
    rw [if_pos (by rw [hx]), if_neg h]

/-! the program's own -/
theorem takeI_zero (s : ByteArray) : takeI s 0 = tri 0 (dec 0 0 (bl s)) := by unfold takeI; rw [if_neg (by omega), Int.toNat_zero, List.drop_zero]
theorem takeI_at (s : ByteArray) (a : Nat) (h : a ≤ s.size) : takeI s (a : Int) = tri a (dec 0 0 ((bl s).drop a)) := by unfold takeI; rw [if_neg (by omega), Int.toNat_natCast]
def ints (l : List Nat) : List Int := l.map fun n : Nat => (n : Int)
theorem nats_ints (l : List Nat) : nats (ints l) = l := by
  unfold nats ints
  rw [List.map_map]
  have : (Int.toNat ∘ fun n : Nat => (n : Int)) = id := by funext n; simp
  rw [this, List.map_id]
theorem numbers_l0 (s : ByteArray) (hs : s.size < 1000000) (d : Nat) : ∀ (k i a : Nat) (xs : List Int), i + d = 5 → d + 30 ≤ k → a ≤ s.size → xs.length = i →
    disk_numbers.l0 k s (a : Int) xs 5 (i : Int) = some (match dnums d ((bl s).drop a) with | none => ([], false) | some (m, r) => (xs ++ ints m, r.isEmpty)) := by
  induction d with
  | zero =>
    intro k i a xs hi hk ha hx
    obtain ⟨k, rfl⟩ : ∃ m, k = m + 1 := ⟨k - 1, by omega⟩
    simp only [disk_numbers.l0, dnums]
    rw [if_neg (by omega)]
    have e : ((a : Int) == (s.size : Int)) = ((bl s).drop a).isEmpty := by
      by_cases h : a = s.size
      · subst h
        rw [beq_self_eq_true, List.drop_of_length_le (by rw [bl_length]; omega)]; rfl
      · rw [beq_eq_false_iff_ne.2 (by omega), drop_cons s a (by omega)]; rfl
    rw [e]; simp [ints]
  | succ d ih =>
    intro k i a xs hi hk ha hx
    obtain ⟨k, rfl⟩ : ∃ m, k = m + 1 := ⟨k - 1, by omega⟩
    simp only [disk_numbers.l0, dnums]
    rw [if_pos (by omega), take_ev s (by omega) _ k (by omega), Option.bind_some, takeI_at s a ha]
    obtain ⟨n, u, e, hd⟩ : ∃ n u e, dec 0 0 ((bl s).drop a) = (n, u, e) := ⟨_, _, _, rfl⟩
    rw [hd]
    by_cases h0 : e = 0
    · subst h0
      obtain ⟨b1, b2, b3, b4⟩ := dec_back hd
      rw [List.length_drop, bl_length] at b3
      have ht : tri a (n, u, 0) = ((n : Int), ((a + u : Nat) : Int), 0) := by simp [tri]
      rw [ht]
      simp only []
      rw [if_pos trivial, if_pos (by omega), if_pos trivial, wrap_nat (by omega), ih k (i + 1) (a + u) _ (by omega) (by omega) (by omega) (by simp [hx]), List.drop_drop]
      cases dnums d (List.drop (a + u) (bl s)) with
      | none => rfl
      | some r => simp [ints]
    · have ht : (tri a (n, u, e)).2.2 = (e : Int) := rfl
      rw [ht, if_neg (by omega), if_neg h0]
theorem numbers_ev (s : ByteArray) (hs : s.size < 1000000) (a : Nat) (ha : a ≤ s.size) (k : Nat) (hk : 40 ≤ k) :
    disk_numbers.f k s (a : Int) 5 = some (match dnums 5 ((bl s).drop a) with | none => ([], false) | some (m, r) => (ints m, r.isEmpty)) := by
  have := numbers_l0 s hs 5 k 0 a [] (by omega) (by omega) ha rfl
  unfold disk_numbers.f
  rw [Int.natCast_zero] at this
  rw [this]; cases dnums 5 ((bl s).drop a) <;> simp

theorem wrap_dec (a : Nat) (h : a ≤ 64) : wrap64 ((wrap64 (a : Int)) - 1) = (a : Int) - 1 := by
  have h1 : wrap64 (a : Int) = (a : Int) := by unfold wrap64; omega
  rw [h1]; unfold wrap64; omega
set_option maxHeartbeats 2000000 in
theorem parse_in (x : ByteArray) (hx : x.size ≤ 4096) (k : Nat) (hk : 60 ≤ k) (P : Option S) (hP : ∀ s, P = some s ↔ good s ∧ bl x = layH s) :
    ((wire_TakeNum.f k x 0).bind fun bt117 => (if bt117.2.2 = 0 then (disk_Parse.j0 k x bt117.2.1 (bt117.1 != (IntKind.u64.wrap (wrap64 ((x.size : Int) - bt117.2.1))))) else (disk_Parse.j0 k x bt117.2.1 true)))
      = some ((sv P).1, (sv P).2.1, (sv P).2.2.1, (sv P).2.2.2.1, (sv P).2.2.2.2, if P.isSome then 0 else 2) := by
  obtain ⟨k, rfl⟩ : ∃ m, k = m + 1 := ⟨k - 1, by omega⟩
  rw [take_ev x (by omega) 0 (k + 1) (by omega), Option.bind_some, takeI_zero]
  obtain ⟨n, u, e, hd⟩ : ∃ n u e, dec 0 0 (bl x) = (n, u, e) := ⟨_, _, _, rfl⟩
  rw [hd]
  have none_of : (∀ s, ¬ (good s ∧ bl x = layH s)) → P = none := by
    intro h
    cases hp : P with
    | none => rfl
    | some s => exact absurd ((hP s).1 hp) (h s)
  by_cases h0 : e = 0
  · subst h0
    obtain ⟨b1, b2, b3, b4⟩ := dec_back hd
    rw [bl_length] at b3
    have ht : tri 0 (n, u, 0) = ((n : Int), (u : Int), 0) := by simp [tri]
    have hw : IntKind.u64.wrap (wrap64 ((x.size : Int) - (u : Int))) = ((x.size - u : Nat) : Int) := by
      have : wrap64 ((x.size : Int) - (u : Int)) = ((x.size - u : Nat) : Int) := by unfold wrap64; omega
      rw [this, wrap_u64_id (by omega)]
    rw [ht]
    simp only []
    rw [if_pos trivial, hw]
    simp only [disk_Parse.j0]
    by_cases h1 : n = x.size - u
    · have hf : ((n : Int) != ((x.size - u : Nat) : Int)) = false := by rw [bne_eq_false_iff_eq]; omega
      rw [hf, if_neg (by simp), numbers_ev x (by omega) u b3 k (by omega), Option.bind_some]
      cases hn : dnums 5 ((bl x).drop u) with
      | none =>
        simp only []
        rw [if_neg (by simp)]
        have hp : P = none := none_of (by
          rintro s ⟨g1, g2⟩
          have g3 : dec 0 0 (layH s) = ((encs (ns s)).length, (enc (encs (ns s)).length).length, 0) := dec_front _ (by have := encs_len s g1; omega) _
          rw [← g2, hd] at g3
          simp only [Prod.mk.injEq, and_true] at g3
          have g4 : (bl x).drop u = encs (ns s) ++ [] := by
            rw [g2, List.append_nil]; unfold layH; rw [g3.2, List.drop_left]
          have g5 := dnums_encs (ns s) [] (ns_lt s g1)
          rw [← g4] at g5
          have g6 : (ns s).length = 5 := rfl
          rw [g6, hn] at g5
          simp at g5)
        rw [hp]; rfl
      | some mr =>
        obtain ⟨m, r⟩ := mr
        obtain ⟨c1, c2, c3⟩ := dnums_ok 5 _ _ _ hn
        simp only []
        obtain ⟨a0, a1, a2, a3, a4, rfl⟩ : ∃ a0 a1 a2 a3 a4, m = [a0, a1, a2, a3, a4] := by
          match m, c1 with
          | [a0, a1, a2, a3, a4], _ => exact ⟨a0, a1, a2, a3, a4, rfl⟩
        have no_rest : (∃ s, good s ∧ bl x = layH s) → r = [] ∧ a4 ≤ 64 ∧ ∀ s, good s ∧ bl x = layH s → s = ⟨a0, a1, a2, a3, (a4 : Int) - 1⟩ := by
          have each : ∀ s, good s ∧ bl x = layH s → r = [] ∧ a4 ≤ 64 ∧ s = ⟨a0, a1, a2, a3, (a4 : Int) - 1⟩ := by
            rintro s ⟨g1, g2⟩
            have g3 : dec 0 0 (layH s) = ((encs (ns s)).length, (enc (encs (ns s)).length).length, 0) := dec_front _ (by have := encs_len s g1; omega) _
            rw [← g2, hd] at g3
            simp only [Prod.mk.injEq, and_true] at g3
            have g4 : (bl x).drop u = encs (ns s) ++ [] := by
              rw [g2, List.append_nil]; unfold layH; rw [g3.2, List.drop_left]
            have g5 := dnums_encs (ns s) [] (ns_lt s g1)
            rw [← g4] at g5
            have g6 : (ns s).length = 5 := rfl
            rw [g6, hn] at g5
            simp only [Option.some.injEq, Prod.mk.injEq, ns, List.cons.injEq, and_true] at g5
            obtain ⟨⟨z0, z1, z2, z3, z4⟩, z5⟩ := g5
            obtain ⟨_, _, _, _, g7, g8⟩ := g1
            refine ⟨z5, by omega, ?_⟩
            cases s with | mk q b i e o =>
            simp only [] at z0 z1 z2 z3 z4 g7 g8
            rw [z0, z1, z2, z3, z4]
            congr 1; omega
          rintro ⟨s, hs⟩
          obtain ⟨r1, r2, _⟩ := each s hs
          exact ⟨r1, r2, fun s' hs' => (each s' hs').2.2⟩
        cases r with
        | cons c r =>
          rw [if_neg (by simp)]
          have hp : P = none := none_of (fun s hs => by have := (no_rest ⟨s, hs⟩).1; simp at this)
          rw [hp]; rfl
        | nil =>
          rw [if_pos (by rfl)]
          have hr4 : rd (ints [a0, a1, a2, a3, a4]) 4 = (a4 : Int) := rfl
          have hl5 : ((ints [a0, a1, a2, a3, a4]).length : Int) = 5 := rfl
          rw [hl5, if_pos (by decide), hr4]
          by_cases h64 : a4 > 64
          · rw [if_pos (by omega)]
            have hp : P = none := none_of (fun s hs => by have := (no_rest ⟨s, hs⟩).2.1; omega)
            rw [hp]; rfl
          · have hu : (enc n).length = u := b2.symm
            have hs : P = some ⟨a0, a1, a2, a3, (a4 : Int) - 1⟩ := by
              refine (hP _).2 ⟨⟨c3 a0 (by simp), c3 a1 (by simp), c3 a2 (by simp), c3 a3 (by simp), by simp only []; omega, by simp only []; omega⟩, ?_⟩
              have hns : ns ⟨a0, a1, a2, a3, (a4 : Int) - 1⟩ = [a0, a1, a2, a3, a4] := by
                simp only [ns]; congr; omega
              unfold layH
              rw [hns]
              rw [List.append_nil] at c2
              rw [← c2]
              have hlen : ((bl x).drop u).length = n := by rw [List.length_drop, bl_length]; omega
              rw [hlen]; exact b4
            rw [if_neg (by omega), if_pos (by decide), if_pos (by decide), if_pos (by decide), if_pos (by decide), hs]
            have hw4 : wrap64 ((wrap64 (a4 : Int)) - 1) = (a4 : Int) - 1 := wrap_dec a4 (Nat.le_of_not_lt h64)
            rw [hw4]; rfl
    · have hf : ((n : Int) != ((x.size - u : Nat) : Int)) = true := by rw [bne_iff_ne]; omega
      rw [hf, if_pos rfl]
      have hp : P = none := none_of (by
        rintro s ⟨g1, g2⟩
        have g3 : dec 0 0 (layH s) = ((encs (ns s)).length, (enc (encs (ns s)).length).length, 0) := dec_front _ (by have := encs_len s g1; omega) _
        have g4 : x.size = (enc (encs (ns s)).length).length + (encs (ns s)).length := by rw [← bl_length, g2]; unfold layH; rw [List.length_append]
        rw [← g2, hd] at g3
        simp only [Prod.mk.injEq, and_true] at g3
        omega)
      rw [hp]; rfl
  · have ht : (tri 0 (n, u, e)).2.2 = (e : Int) := rfl
    rw [ht, if_neg (by omega)]
    simp only [disk_Parse.j0]
    rw [if_pos trivial]
    have hp : P = none := none_of (by
      rintro s ⟨g1, g2⟩
      have g3 : dec 0 0 (layH s) = ((encs (ns s)).length, (enc (encs (ns s)).length).length, 0) := dec_front _ (by have := encs_len s g1; omega) _
      rw [← g2, hd] at g3
      simp only [Prod.mk.injEq] at g3
      exact h0 g3.2.2)
    rw [hp]; rfl

theorem parse_ev (t : ByteArray) (ht : t.size < 4611686018427387904) (k : Nat) (hk : 60 ≤ k) :
    disk_Parse.f k t = some ((sv (par t)).1, (sv (par t)).2.1, (sv (par t)).2.2.1, (sv (par t)).2.2.2.1, (sv (par t)).2.2.2.2, errI t) := by
  unfold disk_Parse.f
  rw [open_ev t ht, Option.bind_some]
  by_cases h : (openI t).2 = 0
  · obtain ⟨h1, h2, h3, h4⟩ := open_ok t h
    rw [if_pos h, parse_in (openI t).1 (by omega) k hk (par t) ?_]
    · congr 6
      unfold errI
      rw [if_pos h]
      cases hp : par t with
      | none => simp
      | some s => simp
    · intro s
      rw [par_iff]
      constructor
      · rintro ⟨g1, g2⟩
        obtain ⟨x, hx, hx2⟩ := par_open ((par_iff t s).2 ⟨g1, g2⟩)
        exact ⟨g1, by rw [hx]; exact hx2⟩
      · rintro ⟨g1, g2⟩
        refine ⟨g1, ?_⟩
        rw [h4, g2]; rfl
  · rw [if_neg h]
    have hp : par t = none := by
      cases hp : par t with
      | none => rfl
      | some s => obtain ⟨x, hx, _⟩ := par_open hp; rw [hx] at h; simp at h
    rw [hp]
    unfold errI
    rw [if_neg h]; rfl

/-! laid down -/
theorem may_ev (a b c d e : Int) : disk_may.f a b c d e = some (decide (-1 ≤ e ∧ e ≤ 63)) := by
  unfold disk_may.f
  by_cases h : e ≥ -1
  · rw [if_pos h]; congr 1
    by_cases h2 : e ≤ 63
    · rw [decide_eq_true (by omega), decide_eq_true ⟨h, h2⟩]
    · rw [decide_eq_false (by omega), decide_eq_false (fun x => h2 x.2)]
  · rw [if_neg h, decide_eq_false (fun x => h x.1)]
theorem lay_ev (s : S) (h : good s) (k : Nat) (hk : 100 ≤ k) : disk_Lay.f k (s.q : Int) (s.b : Int) (s.i : Int) (s.e : Int) s.o = some (lay s, 0) := by
  obtain ⟨h1, h2, h3, h4, h5, h6⟩ := h
  unfold disk_Lay.f
  rw [may_ev, Option.bind_some, if_pos (decide_eq_true ⟨h5, h6⟩)]
  have hw : IntKind.u64.wrap (wrap64 (s.o + 1)) = (((s.o + 1).toNat : Nat) : Int) := by
    have : wrap64 (s.o + 1) = s.o + 1 := by unfold wrap64; omega
    rw [this, wrap_u64]; omega
  rw [hw]
  have hl : [(s.q : Int), (s.b : Int), (s.i : Int), (s.e : Int), (((s.o + 1).toNat : Nat) : Int)] = ints (ns s) := rfl
  rw [hl]
  have g : good s := ⟨h1, h2, h3, h4, h5, h6⟩
  have hnats : nats (ints (ns s)) = ns s := nats_ints _
  obtain ⟨y, e1, e2⟩ := num_ev (ints (ns s)) (by simp [ints, ns]) (by
    intro x hx
    simp only [ints, List.mem_map] at hx
    obtain ⟨n, hn, rfl⟩ := hx
    exact wf_u64 (ns_lt s g n hn)) k (by simp [ints, ns]; omega)
  rw [hnats] at e2
  have hy : y.size = (encs (ns s)).length := by rw [← e2, bl_length]
  have hy2 := encs_len s g
  obtain ⟨z, e3, e4⟩ := num_one y.size (by omega) k (by omega)
  have hz : z.size = 1 := by rw [← bl_length, e4, enc_small (by omega)]; rfl
  have hzy : (z ++ y).size = z.size + y.size := ByteArray.size_append
  obtain ⟨x, e5, e6⟩ := seal_ev (z ++ y) (by omega)
  rw [e1, Option.bind_some, e3, Option.bind_some, if_pos (by omega), e5, Option.bind_some]
  simp only []
  have hx : x = lay s := by
    apply bl_inj
    rw [bl_lay, e6, bl_append, e4, e2, hy]; rfl
  rw [hx]
theorem lay_not (a b c d e : Int) (h : ¬ (-1 ≤ e ∧ e ≤ 63)) (k : Nat) : disk_Lay.f k a b c d e = some ((⟨#[]⟩ : ByteArray), 1) := by
  unfold disk_Lay.f
  rw [may_ev, Option.bind_some, if_neg (by simpa using h)]
end

/-! two places -/
section
open Go.Proofs.Ytldeanlnfhgjfaa.CMath
noncomputable def newest (A B : ByteArray) : Option (S × Bool) := match par A, par B with
  | none, none => none
  | none, some b => some (b, true)
  | some a, none => some (a, false)
  | some a, some b => if b.q > a.q then some (b, true) else some (a, false)
theorem newest_ev (A B : ByteArray) (hA : A.size < 4611686018427387904) (hB : B.size < 4611686018427387904) (k : Nat) (hk : 60 ≤ k) :
    disk_newest.f k A B = some (match newest A B with | none => (0, 0, 0, 0, 0, false, false) | some (s, sec) => ((s.q : Int), (s.b : Int), (s.i : Int), (s.e : Int), s.o, sec, true)) := by
  obtain ⟨k, rfl⟩ : ∃ m, k = m + 1 := ⟨k - 1, by omega⟩
  unfold disk_newest.f
  rw [parse_ev A hA (k + 1) hk, parse_ev B hB (k + 1) hk, Option.bind_some, Option.bind_some]
  have ea := errI_zero A
  have eb := errI_zero B
  unfold newest
  cases hpa : par A with
  | none =>
    rw [hpa] at ea
    have ea' : ¬ errI A = 0 := fun h => ea.1 h rfl
    cases hpb : par B with
    | none =>
      rw [hpb] at eb
      have eb' : ¬ errI B = 0 := fun h => eb.1 h rfl
      simp only [sv]
      rw [if_neg ea']
      simp only [disk_newest.j0]
      rw [if_pos (by rw [bne_iff_ne]; exact eb')]
    | some b =>
      rw [hpb] at eb
      have eb' : errI B = 0 := eb.2 (by simp)
      simp only [sv]
      rw [if_neg ea', eb']
      simp only [disk_newest.j0]
      rw [if_neg (by simp), if_neg ea']
  | some a =>
    rw [hpa] at ea
    have ea' : errI A = 0 := ea.2 (by simp)
    cases hpb : par B with
    | none =>
      rw [hpb] at eb
      have eb' : ¬ errI B = 0 := fun h => eb.1 h rfl
      simp only [sv]
      rw [if_pos ea', ea']
      simp only [disk_newest.j0]
      rw [if_neg (by simp), if_pos trivial, if_neg eb']
    | some b =>
      rw [hpb] at eb
      have eb' : errI B = 0 := eb.2 (by simp)
      simp only [sv]
      rw [if_pos ea', ea', eb']
      simp only [disk_newest.j0]
      rw [if_neg (by simp), if_pos trivial, if_pos trivial]
      by_cases h : b.q > a.q
      · have hne : ((a.q : Int) == (b.q : Int)) = false := by rw [beq_eq_false_iff_ne]; omega
        rw [hne, if_pos (by simp), if_pos (by omega), if_pos h]
      · rw [if_neg h]
        by_cases hc : (!((a.q : Int) == (b.q : Int)) || (!((a.b : Int) == (b.b : Int)) || (!((a.i : Int) == (b.i : Int)) || (!((a.e : Int) == (b.e : Int)) || (!(a.o == b.o)))))) = true
        · rw [if_pos hc, if_neg (by omega)]
        · rw [if_neg hc]
noncomputable def readD (A B : ByteArray) : Option S := (newest A B).map (·.1)
theorem read_ev (A B : ByteArray) (hA : A.size < 4611686018427387904) (hB : B.size < 4611686018427387904) (k : Nat) (hk : 60 ≤ k) :
    disk_Read.f k A B = some ((sv (readD A B)).1, (sv (readD A B)).2.1, (sv (readD A B)).2.2.1, (sv (readD A B)).2.2.2.1, (sv (readD A B)).2.2.2.2, if (readD A B).isSome then 0 else 6) := by
  unfold disk_Read.f
  rw [newest_ev A B hA hB k hk, Option.bind_some]
  unfold readD
  cases newest A B with
  | none => rfl
  | some r => rfl
theorem newest_good {A B : ByteArray} {s : S} {c : Bool} (h : newest A B = some (s, c)) : good s := by
  unfold newest at h
  cases ha : par A with
  | none =>
    cases hb : par B with
    | none => rw [ha, hb] at h; simp at h
    | some b => rw [ha, hb] at h; simp only [Option.some.injEq, Prod.mk.injEq] at h; rw [← h.1]; exact par_good hb
  | some a =>
    cases hb : par B with
    | none => rw [ha, hb] at h; simp only [Option.some.injEq, Prod.mk.injEq] at h; rw [← h.1]; exact par_good ha
    | some b =>
      rw [ha, hb] at h
      simp only [] at h
      by_cases hc : b.q > a.q
      · rw [if_pos hc] at h; simp only [Option.some.injEq, Prod.mk.injEq] at h; rw [← h.1]; exact par_good hb
      · rw [if_neg hc] at h; simp only [Option.some.injEq, Prod.mk.injEq] at h; rw [← h.1]; exact par_good ha
/-- what is laid down next -/
def nextS (s : S) (o : Option S) : S := { s with q := (match o with | none => 0 | some w => w.q) + 1 }
/-- a disk that is written, as far as it goes -/
noncomputable def tear (A B : ByteArray) (s : S) (cut : Nat) : ByteArray × ByteArray :=
  match newest A B with
  | some (_, false) => (A, (lay (nextS s (readD A B))).extract 0 (min cut (lay (nextS s (readD A B))).size))
  | _ => ((lay (nextS s (readD A B))).extract 0 (min cut (lay (nextS s (readD A B))).size), B)
/-- is it full? -/
def full (o : Option S) : Prop := ∃ w, o = some w ∧ w.q = 18446744073709551615
theorem next_good (s : S) (hs : good s) (A B : ByteArray) (h : ¬ full (readD A B)) : good (nextS s (readD A B)) := by
  obtain ⟨h1, h2, h3, h4, h5, h6⟩ := hs
  refine ⟨?_, h2, h3, h4, h5, h6⟩
  show (match readD A B with | none => 0 | some w => w.q) + 1 < 18446744073709551616
  cases hr : readD A B with
  | none => simp
  | some w =>
    have hw : good w := by
      unfold readD at hr
      simp only [Option.map_eq_some_iff] at hr
      obtain ⟨⟨w', c⟩, e1, e2⟩ := hr
      simp only [] at e2
      subst e2
      exact newest_good e1
    have hw1 := hw.1
    have : w.q ≠ 18446744073709551615 := fun e => h ⟨w, hr, e⟩
    simp only []
    omega
theorem tear_ev (A B : ByteArray) (hA : A.size < 4611686018427387904) (hB : B.size < 4611686018427387904) (s : S) (hs : good s) (cut : Nat) (k : Nat) (hk : 200 ≤ k) (hf : ¬ full (readD A B)) :
    disk_Tear.f k A B (s.q : Int) (s.b : Int) (s.i : Int) (s.e : Int) s.o (cut : Int) = some ((tear A B s cut).1, (tear A B s cut).2, 0) := by
  obtain ⟨k, rfl⟩ : ∃ m, k = m + 1 := ⟨k - 1, by omega⟩
  have hg := next_good s hs A B hf
  have hlay := lay_ev _ hg k (by omega)
  obtain ⟨h1, h2, h3, h4, h5, h6⟩ := hs
  unfold disk_Tear.f
  rw [newest_ev A B hA hB (k + 1) (by omega), Option.bind_some, may_ev, Option.bind_some, if_pos (decide_eq_true ⟨h5, h6⟩), decide_eq_false (show ¬ (cut : Int) < 0 by omega)]
  simp only [disk_Tear.j0]
  rw [if_neg (by simp)]
  have hmn : ∀ z : Nat, mn (cut : Int) (z : Int) = ((min cut z : Nat) : Int) := by intro z; unfold mn; split <;> omega
  have hsz : ∀ z : ByteArray, (0 ≤ mn (cut : Int) (z.size : Int)) ∧ mn (cut : Int) (z.size : Int) ≤ (z.size : Int) := by intro z; rw [hmn]; omega
  unfold tear
  unfold readD at hf hlay ⊢
  cases hn : newest A B with
  | none =>
    rw [hn] at hlay hf
    simp only []
    have hq : IntKind.u64.wrap ((0 : Int) + 1) = (((nextS s none).q : Nat) : Int) := rfl
    rw [if_neg (by omega), hq]
    have hl2 : disk_Lay.f k (((nextS s none).q : Nat) : Int) (s.b : Int) (s.i : Int) (s.e : Int) s.o = some (lay (nextS s none), 0) := hlay
    rw [hl2, Option.bind_some]
    simp only []
    rw [if_pos trivial, if_pos (hsz _).1, if_pos (hsz _).2, if_neg (by simp), hmn, Int.toNat_natCast]; rfl
  | some r =>
    obtain ⟨w, c⟩ := r
    rw [hn] at hlay hf
    have hw := (newest_good hn).1
    have hfull : ¬ w.q = 18446744073709551615 := fun e => hf ⟨w, rfl, e⟩
    simp only []
    have hq : IntKind.u64.wrap ((w.q : Int) + 1) = (((nextS s (some w)).q : Nat) : Int) := by
      show IntKind.u64.wrap ((w.q : Int) + 1) = ((w.q + 1 : Nat) : Int)
      rw [wrap_u64]; omega
    rw [if_neg (by omega), hq]
    have hl2 : disk_Lay.f k (((nextS s (some w)).q : Nat) : Int) (s.b : Int) (s.i : Int) (s.e : Int) s.o = some (lay (nextS s (some w)), 0) := hlay
    rw [hl2, Option.bind_some]
    simp only []
    rw [if_pos trivial, if_pos (hsz _).1, if_pos (hsz _).2, if_pos trivial, hmn, Int.toNat_natCast]
    cases c with
    | true => rw [if_pos rfl]; rfl
    | false => rw [if_neg (by simp)]; rfl
theorem tear_full (A B : ByteArray) (hA : A.size < 4611686018427387904) (hB : B.size < 4611686018427387904) (a b c d e : Int) (he : -1 ≤ e ∧ e ≤ 63) (cut : Int) (hc : 0 ≤ cut) (k : Nat) (hk : 200 ≤ k) (hf : full (readD A B)) :
    disk_Tear.f k A B a b c d e cut = some (A, B, 4) := by
  obtain ⟨k, rfl⟩ : ∃ m, k = m + 1 := ⟨k - 1, by omega⟩
  unfold disk_Tear.f
  rw [newest_ev A B hA hB (k + 1) (by omega), Option.bind_some, may_ev, Option.bind_some, if_pos (decide_eq_true he), decide_eq_false (show ¬ cut < 0 by omega)]
  simp only [disk_Tear.j0]
  rw [if_neg (by simp)]
  obtain ⟨w, hw, hq⟩ := hf
  unfold readD at hw
  simp only [Option.map_eq_some_iff] at hw
  obtain ⟨⟨w', c'⟩, e1, e2⟩ := hw
  simp only [] at e2
  subst e2
  rw [e1]
  simp only []
  rw [if_pos (by omega)]
theorem tear_not (A B : ByteArray) (hA : A.size < 4611686018427387904) (hB : B.size < 4611686018427387904) (a b c d e : Int) (cut : Int) (he : ¬ (-1 ≤ e ∧ e ≤ 63) ∨ cut < 0) (k : Nat) (hk : 200 ≤ k) :
    disk_Tear.f k A B a b c d e cut = some (A, B, 1) := by
  obtain ⟨k, rfl⟩ : ∃ m, k = m + 1 := ⟨k - 1, by omega⟩
  unfold disk_Tear.f
  rw [newest_ev A B hA hB (k + 1) (by omega), Option.bind_some, may_ev, Option.bind_some]
  by_cases h : -1 ≤ e ∧ e ≤ 63
  · have hc : cut < 0 := by rcases he with he | he; exact absurd h he; exact he
    rw [if_pos (decide_eq_true h), decide_eq_true hc]
    simp only [disk_Tear.j0]
    rw [if_pos trivial]
  · rw [if_neg (by simpa using h)]
    simp only [disk_Tear.j0]
    rw [if_pos trivial]
theorem write_ev (A B : ByteArray) (a b c d e : Int) (k : Nat) : disk_Write.f k A B a b c d e = disk_Tear.f k A B a b c d e 9223372036854775807 := by
  unfold disk_Write.f
  cases disk_Tear.f k A B a b c d e 9223372036854775807 with
  | none => rfl
  | some r => rfl
/-- the whole of it -/
theorem extract_all (x : ByteArray) (n : Nat) (h : x.size ≤ n) : x.extract 0 n = x := by
  apply bl_inj
  rw [bl_extract, List.drop_zero, List.take_of_length_le (by rw [bl_length]; exact h)]

/-- torn, what is read is what was read; whole, it is what was written -/
theorem torn_reads (A B : ByteArray) (s : S) (hs : good s) (cut : Nat) (hf : ¬ full (readD A B)) :
    ((lay (nextS s (readD A B))).size ≤ cut → readD (tear A B s cut).1 (tear A B s cut).2 = some (nextS s (readD A B))) ∧
    (cut < (lay (nextS s (readD A B))).size → readD (tear A B s cut).1 (tear A B s cut).2 = readD A B) := by
  have hg := next_good s hs A B hf
  have hqn : (nextS s (readD A B)).q = (match readD A B with | none => 0 | some w => w.q) + 1 := rfl
  generalize hL : nextS s (readD A B) = L at *
  have whole : (lay L).size ≤ cut → par ((lay L).extract 0 (min cut (lay L).size)) = some L := by
    intro h; rw [extract_all _ _ (by omega)]; exact par_lay L hg
  have torn : cut < (lay L).size → par ((lay L).extract 0 (min cut (lay L).size)) = none := by
    intro h; exact par_torn L hg _ (by omega)
  unfold tear
  rw [hL]
  generalize (lay L).extract 0 (min cut (lay L).size) = X at *
  unfold readD at hqn ⊢
  cases hn : newest A B with
  | none =>
    rw [hn] at hqn
    simp only []
    have hAB : par A = none ∧ par B = none := by
      unfold newest at hn
      cases ha : par A <;> cases hb : par B <;> rw [ha, hb] at hn <;> simp only [] at hn
      · exact ⟨rfl, rfl⟩
      · simp at hn
      · simp at hn
      · split at hn <;> simp at hn
    constructor
    · intro h; unfold newest; rw [whole h, hAB.2] <;> rfl
    · intro h; unfold newest; rw [torn h, hAB.2] <;> rfl
  | some r =>
    obtain ⟨w, c⟩ := r
    rw [hn] at hqn
    have hqw : L.q = w.q + 1 := hqn
    cases c with
    | false =>
      simp only []
      have hA : par A = some w := by
        unfold newest at hn
        cases ha : par A <;> cases hb : par B <;> rw [ha, hb] at hn <;> simp only [] at hn
        · simp at hn
        · simp at hn
        · simp only [Option.some.injEq, Prod.mk.injEq, and_true] at hn; rw [hn]
        · split at hn
          · simp at hn
          · simp only [Option.some.injEq, Prod.mk.injEq, and_true] at hn; rw [hn]
      constructor
      · intro h; unfold newest; rw [whole h, hA]; simp only []; rw [if_pos (by omega)] <;> rfl
      · intro h; unfold newest; rw [torn h, hA] <;> rfl
    | true =>
      simp only []
      have hB : par B = some w := by
        unfold newest at hn
        cases ha : par A <;> cases hb : par B <;> rw [ha, hb] at hn <;> simp only [] at hn
        · simp at hn
        · simp only [Option.some.injEq, Prod.mk.injEq, and_true] at hn; rw [hn]
        · simp at hn
        · split at hn
          · simp only [Option.some.injEq, Prod.mk.injEq, and_true] at hn; rw [hn]
          · simp at hn
      constructor
      · intro h; unfold newest; rw [whole h, hB]; simp only []; rw [if_neg (by omega)] <;> rfl
      · intro h; unfold newest; rw [torn h, hB] <;> rfl
end

theorem newest_first {A B : ByteArray} {w : S} (hn : newest A B = some (w, false)) : par A = some w := by
  unfold newest at hn
  cases ha : par A <;> cases hb : par B <;> rw [ha, hb] at hn <;> simp only [] at hn
  · simp at hn
  · simp at hn
  · simp only [Option.some.injEq, Prod.mk.injEq, and_true] at hn; rw [hn]
  · split at hn
    · simp at hn
    · simp only [Option.some.injEq, Prod.mk.injEq, and_true] at hn; rw [hn]
theorem newest_second {A B : ByteArray} {w : S} (hn : newest A B = some (w, true)) : par B = some w := by
  unfold newest at hn
  cases ha : par A <;> cases hb : par B <;> rw [ha, hb] at hn <;> simp only [] at hn
  · simp at hn
  · simp only [Option.some.injEq, Prod.mk.injEq, and_true] at hn; rw [hn]
  · simp at hn
  · split at hn
    · simp only [Option.some.injEq, Prod.mk.injEq, and_true] at hn; rw [hn]
    · simp at hn
/-- a cut at or behind the end changes nothing -/
theorem tear_past (A B : ByteArray) (s : S) (c d : Nat) (hc : (lay (nextS s (readD A B))).size ≤ c) (hd : (lay (nextS s (readD A B))).size ≤ d) : tear A B s c = tear A B s d := by
  unfold tear
  rw [Nat.min_eq_right hc, Nat.min_eq_right hd]
theorem sv_next (s : S) (o : Option S) (h : ¬ full o) (hg : ∀ w, o = some w → good w) : IntKind.u64.wrap ((sv o).1 + 1) = ((nextS s o).q : Int) := by
  cases o with
  | none => rfl
  | some w =>
    have hw := (hg w rfl).1
    have hq : w.q ≠ 18446744073709551615 := fun e => h ⟨w, rfl, e⟩
    show IntKind.u64.wrap ((w.q : Int) + 1) = ((w.q + 1 : Nat) : Int)
    rw [wrap_u64]; omega
theorem read_good {A B : ByteArray} {w : S} (h : readD A B = some w) : good w := by
  unfold readD at h
  simp only [Option.map_eq_some_iff] at h
  obtain ⟨⟨w', c⟩, e1, e2⟩ := h
  simp only [] at e2
  subst e2
  exact newest_good e1

/-! the document's answer -/
section
open Go.Proofs.Ytldeanlnfhgjfaa.CMath
theorem rmay_ev (a b c d e : Int) : tattleref16_May.f a b c d e = some (decide (-1 ≤ e ∧ e ≤ 63)) := by
  unfold tattleref16_May.f
  by_cases h : -1 ≤ e
  · rw [if_pos h]; congr 1
    by_cases h2 : e ≤ 63
    · rw [decide_eq_true h2, decide_eq_true ⟨h, h2⟩]
    · rw [decide_eq_false h2, decide_eq_false (fun x => h2 x.2)]
  · rw [if_neg h, decide_eq_false (fun x => h x.1)]
theorem rlay_ev (s : S) (g : good s) (k : Nat) (hk : 2000 ≤ k) : tattleref16_Lay.f k (s.q : Int) (s.b : Int) (s.i : Int) (s.e : Int) s.o = some (lay s) := by
  have g' := g
  obtain ⟨h1, h2, h3, h4, h5, h6⟩ := g'
  unfold tattleref16_Lay.f
  have hw : IntKind.u64.wrap (wrap64 (s.o + 1)) = (((s.o + 1).toNat : Nat) : Int) := by
    have : wrap64 (s.o + 1) = s.o + 1 := by unfold wrap64; omega
    rw [this, wrap_u64]; omega
  rw [hw]
  have hl : [(s.q : Int), (s.b : Int), (s.i : Int), (s.e : Int), (((s.o + 1).toNat : Nat) : Int)] = ints (ns s) := rfl
  rw [hl]
  have hnats : nats (ints (ns s)) = ns s := nats_ints _
  obtain ⟨y, e1, e2⟩ := rnums_ev (ints (ns s)) (by simp [ints, ns]) (by
    intro x hx
    simp only [ints, List.mem_map] at hx
    obtain ⟨n, hn, rfl⟩ := hx
    exact wf_u64 (ns_lt s g n hn)) k (by simp [ints, ns]; omega)
  rw [hnats] at e2
  have hy : y.size = (encs (ns s)).length := by rw [← e2, bl_length]
  have hy2 := encs_len s g
  have henc : enc y.size = [UInt8.ofNat y.size] := enc_small (by omega)
  obtain ⟨z, e3, e4⟩ := rnum_ev y.size k (by omega) (by rw [henc]; simp; omega)
  have hz : z.size = 1 := by rw [← bl_length, e4, henc]; rfl
  have hzy : (z ++ y).size = z.size + y.size := ByteArray.size_append
  have y1 : (z ++ y).size < 1000000 := by omega
  have y2 : 10 * (z ++ y).size + 5 ≤ k := by omega
  have y3 : z.size + y.size ≤ 9223372036854775807 := by omega
  obtain ⟨x, e5, e6⟩ := rseal_ev (z ++ y) y1 k y2
  rw [e1, Option.bind_some, e3, Option.bind_some, if_pos y3, e5, Option.bind_some]
  have hx : x = lay s := by
    apply bl_inj
    rw [bl_lay, e6, bl_append, e4, e2, hy]; rfl
  rw [hx]
/-- six numbers, one behind the other -/
theorem rl0_succ (k : Nat) (t x : ByteArray) (n : Nat) (a : Int) (l : List Int) : tattleref16_Parse.l0 k t x (n + 1) a l = (tattleref01_TakeNum.f k x a).bind fun b => if b.2.2 = 0 then tattleref16_Parse.l0 k t x n b.2.1 (l ++ [b.1]) else some (0, 0, 0, 0, 0, 2) := by
  conv => lhs; unfold tattleref16_Parse.l0
theorem dnums_succ (d : Nat) (l : List UInt8) : dnums (d + 1) l = if (dec 0 0 l).2.2 = 0 then (dnums d (l.drop (dec 0 0 l).2.1)).map (fun r => ((dec 0 0 l).1 :: r.1, r.2)) else none := by
  conv => lhs; unfold dnums
theorem rl0_ev (t x : ByteArray) (hx : x.size < 1000000) (k : Nat) (hk : 35 ≤ k) (n : Nat) : ∀ (a : Nat) (l : List Int), a ≤ x.size →
    tattleref16_Parse.l0 k t x n (a : Int) l = match dnums n ((bl x).drop a) with
      | none => some (0, 0, 0, 0, 0, 2)
      | some r => tattleref16_Parse.l0 k t x 0 0 (l ++ ints r.1) := by
  induction n with
  | zero =>
    intro a l ha
    rw [show dnums 0 ((bl x).drop a) = some ([], (bl x).drop a) from rfl]
    simp only [ints, List.map_nil, List.append_nil]
    conv => lhs; unfold tattleref16_Parse.l0
    conv => rhs; unfold tattleref16_Parse.l0
  | succ n ih =>
    intro a l ha
    have hxs : x.size < 4611686018427387904 := by omega
    rw [rl0_succ, dnums_succ, rtake_ev x hxs _ k hk, Option.bind_some, takeI_at x a ha]
    rcases hdd : dec 0 0 ((bl x).drop a) with ⟨v, u, er⟩
    by_cases h0 : er = 0
    · subst h0
      have hb := dec_back hdd
      have hle := hb.2.2.1
      rw [List.length_drop, bl_length] at hle
      have ha' : a + u ≤ x.size := by omega
      have e1 : tri a (v, u, 0) = ((v : Int), ((a + u : Nat) : Int), 0) := rfl
      rw [e1]
      simp only []
      rw [if_pos trivial, if_pos trivial, ih (a + u) _ ha', List.drop_drop]
      cases hd : dnums n ((bl x).drop (a + u)) with
      | none => rfl
      | some r =>
        simp only [Option.map_some, ints, List.map_cons, List.append_assoc, List.cons_append, List.nil_append]
    · have e1 : (tri a (v, u, er)).2.2 = (er : Int) := rfl
      have e2 : ¬ (er : Int) = 0 := by omega
      rw [e1, if_neg e2]
      simp only []
      rw [if_neg h0]
theorem ord (n : Nat) (h : n ≤ 64) : -1 ≤ (n : Int) - 1 ∧ (n : Int) - 1 ≤ 63 := by omega
theorem six (m : List Nat) (h : m.length = 6) : ∃ a b c d e f, m = [a, b, c, d, e, f] := by
  match m, h with
  | [a, b, c, d, e, f], _ => exact ⟨a, b, c, d, e, f, rfl⟩
set_option maxHeartbeats 1000000 in
theorem rparse_ev (t : ByteArray) (ht : t.size < 4611686018427387904) (k : Nat) (hk : 50000 ≤ k) :
    tattleref16_Parse.f k t = some ((sv (par t)).1, (sv (par t)).2.1, (sv (par t)).2.2.1, (sv (par t)).2.2.2.1, (sv (par t)).2.2.2.2, errI t) := by
  unfold tattleref16_Parse.f
  rw [ropen_ev t ht k hk, Option.bind_some]
  have k35 : 35 ≤ k := by omega
  have k20 : 2000 ≤ k := by omega
  by_cases h : (openI t).2 = 0
  · obtain ⟨h1, h2, h3, h4⟩ := open_ok t h
    have he : errI t = if par t = none then 2 else 0 := by unfold errI; rw [if_pos h]
    have hpar : ∀ s, par t = some s → bl (openI t).1 = encs ((encs (ns s)).length :: ns s) ++ [] := by
      intro s hs
      obtain ⟨x, hx, hx2⟩ := par_open hs
      rw [hx, hx2, List.append_nil]; rfl
    have hpd : ∀ s, par t = some s → dnums 6 (bl (openI t).1) = some ((encs (ns s)).length :: ns s, []) := by
      intro s hs
      rw [hpar s hs]
      have hall : ∀ v ∈ (encs (ns s)).length :: ns s, v < 18446744073709551616 := by
        intro v hv
        rcases List.mem_cons.1 hv with hv | hv
        · have := encs_len s (par_good hs); omega
        · exact ns_lt s (par_good hs) v hv
      have := dnums_encs ((encs (ns s)).length :: ns s) [] hall
      exact this
    rw [if_pos h]
    generalize (openI t).1 = x at *
    have hl := rl0_ev t x (by omega) k k35 6 0 [] (Nat.zero_le _)
    rw [List.drop_zero] at hl
    have hl' : tattleref16_Parse.l0 k t x 6 0 [] = _ := hl
    rw [hl']
    have hok : ∀ m r, dnums 6 (bl x) = some (m, r) → m.length = 6 ∧ bl x = encs m ++ r ∧ ∀ v ∈ m, v < 18446744073709551616 := fun m r h => dnums_ok 6 _ _ _ h
    clear hl hl' h4 hpar
    generalize dnums 6 (bl x) = D at *
    cases D with
    | none =>
      have hp : par t = none := by
        cases hp : par t with
        | none => rfl
        | some s => exact absurd (hpd s hp) (by simp)
      rw [he, hp, if_pos rfl]; rfl
    | some r =>
      obtain ⟨m, rest⟩ := r
      obtain ⟨g1, g2, g3⟩ := hok m rest rfl
      obtain ⟨n0, n1, n2, n3, n4, n5, rfl⟩ := six m g1
      · clear hok g1 g2
        have b1 := g3 n1 (by simp)
        have b2 := g3 n2 (by simp)
        have b3 := g3 n3 (by simp)
        have b4 := g3 n4 (by simp)
        simp only [ints, List.map_cons, List.map_nil, List.nil_append]
        simp only [tattleref16_Parse.l0, List.getD_cons_zero, List.getD_cons_succ]
        by_cases h5 : n5 > 64
        · have hp : par t = none := by
            cases hp : par t with
            | none => rfl
            | some s =>
              have := hpd s hp
              have gs := par_good hp
              simp only [Option.some.injEq, Prod.mk.injEq, ns, List.cons.injEq] at this
              obtain ⟨⟨_, _, _, _, _, e5, _⟩, _⟩ := this
              have := gs.2.2.2.2.2
              omega
          have h5' : (n5 : Int) > 64 := by omega
          rw [if_pos h5', he, hp, if_pos rfl]; rfl
        · have h5' : ¬ (n5 : Int) > 64 := by omega
          have hw : wrap64 (wrap64 (n5 : Int) - 1) = (n5 : Int) - 1 := wrap_dec n5 (by omega)
          have gs : good ⟨n1, n2, n3, n4, (n5 : Int) - 1⟩ := ⟨b1, b2, b3, b4, (ord n5 (Nat.le_of_not_lt h5)).1, (ord n5 (Nat.le_of_not_lt h5)).2⟩
          have hly := rlay_ev ⟨n1, n2, n3, n4, (n5 : Int) - 1⟩ gs k k20
          simp only [] at hly
          rw [if_neg h5', hw, hly, Option.bind_some]
          by_cases ht2 : lay ⟨n1, n2, n3, n4, (n5 : Int) - 1⟩ = t
          · have hp : par t = some ⟨n1, n2, n3, n4, (n5 : Int) - 1⟩ := by rw [← ht2]; exact par_lay _ gs
            rw [if_pos (by rw [ht2]), he, hp, if_neg (by simp)]; rfl
          · have hp : par t = none := by
              cases hp : par t with
              | none => rfl
              | some s =>
                exfalso
                have := hpd s hp
                have gs' := par_good hp
                simp only [Option.some.injEq, Prod.mk.injEq, ns, List.cons.injEq] at this
                obtain ⟨⟨_, e1, e2, e3, e4, e5, _⟩, _⟩ := this
                have lo := gs'.2.2.2.2.1
                have hs : s = ⟨n1, n2, n3, n4, (n5 : Int) - 1⟩ := by
                  obtain ⟨a, b, c, d, e⟩ := s
                  simp only [] at e1 e2 e3 e4 e5 lo
                  subst e1; subst e2; subst e3; subst e4
                  congr 1
                  clear he hpd hw hly gs gs' ht2 hp
                  omega
                apply ht2
                apply bl_inj
                rw [bl_lay, ← hs]
                exact (((par_iff t s).1 hp).2).symm
            have hne : ¬ (lay ⟨n1, n2, n3, n4, (n5 : Int) - 1⟩).toList = t.toList := by
              intro hh
              rw [toList_eq, toList_eq] at hh
              exact ht2 (bl_inj hh)
            rw [if_neg hne, he, hp, if_pos rfl]; rfl
  · rw [if_neg h]
    have hp : par t = none := by
      cases hp : par t with
      | none => rfl
      | some s => obtain ⟨x, hx, _⟩ := par_open hp; rw [hx] at h; simp at h
    rw [hp]
    unfold errI
    rw [if_neg h]; rfl
/-- does the second place have it? -/
theorem rsecond_ev (A B : ByteArray) (hA : A.size < 4611686018427387904) (hB : B.size < 4611686018427387904) (k : Nat) (hk : 50000 ≤ k) :
    tattleref16_Second.f k A B = some (match newest A B with | some (_, c) => c | none => false) := by
  unfold tattleref16_Second.f
  rw [rparse_ev A hA k hk, rparse_ev B hB k hk, Option.bind_some, Option.bind_some]
  have ea := errI_zero A
  have eb := errI_zero B
  unfold newest
  cases hpa : par A with
  | none =>
    rw [hpa] at ea
    have ea' : ¬ errI A = 0 := fun h => ea.1 h rfl
    cases hpb : par B with
    | none =>
      rw [hpb] at eb
      have eb' : ¬ errI B = 0 := fun h => eb.1 h rfl
      simp only []
      rw [if_neg eb']
    | some b =>
      rw [hpb] at eb
      have eb' : errI B = 0 := eb.2 (by simp)
      simp only []
      rw [if_pos eb', if_neg ea']
  | some a =>
    rw [hpa] at ea
    have ea' : errI A = 0 := ea.2 (by simp)
    cases hpb : par B with
    | none =>
      rw [hpb] at eb
      have eb' : ¬ errI B = 0 := fun h => eb.1 h rfl
      simp only []
      rw [if_neg eb']
    | some b =>
      rw [hpb] at eb
      have eb' : errI B = 0 := eb.2 (by simp)
      simp only [sv]
      rw [if_pos eb', if_pos ea']
      by_cases h : b.q > a.q
      · have h' : (b.q : Int) > (a.q : Int) := Int.ofNat_lt.2 h
        simp only [h, h', if_true, decide_true]
      · have h' : ¬ (b.q : Int) > (a.q : Int) := fun e => h (Int.ofNat_lt.1 e)
        simp only [h, h', if_false, decide_false]
theorem rread_ev (A B : ByteArray) (hA : A.size < 4611686018427387904) (hB : B.size < 4611686018427387904) (k : Nat) (hk : 50000 ≤ k) :
    tattleref16_Read.f k A B = some ((sv (readD A B)).1, (sv (readD A B)).2.1, (sv (readD A B)).2.2.1, (sv (readD A B)).2.2.2.1, (sv (readD A B)).2.2.2.2, if (readD A B).isSome then 0 else 6) := by
  unfold tattleref16_Read.f
  rw [rsecond_ev A B hA hB k hk, Option.bind_some, rparse_ev A hA k hk, rparse_ev B hB k hk, Option.bind_some, Option.bind_some]
  have ea := errI_zero A
  have eb := errI_zero B
  unfold readD newest
  cases hpa : par A with
  | none =>
    rw [hpa] at ea
    have ea' : ¬ errI A = 0 := fun h => ea.1 h rfl
    cases hpb : par B with
    | none =>
      simp only []
      rw [if_neg (by simp), if_neg ea']; rfl
    | some b =>
      rw [hpb] at eb
      have eb' : errI B = 0 := eb.2 (by simp)
      simp only []
      rw [if_pos trivial, if_pos eb']; rfl
  | some a =>
    rw [hpa] at ea
    have ea' : errI A = 0 := ea.2 (by simp)
    cases hpb : par B with
    | none =>
      simp only []
      rw [if_neg (by simp), if_pos ea']; rfl
    | some b =>
      rw [hpb] at eb
      have eb' : errI B = 0 := eb.2 (by simp)
      simp only []
      by_cases h : b.q > a.q
      · simp only [h, if_true]
        rw [if_pos eb']; rfl
      · simp only [h, if_false]
        rw [if_neg (by simp), if_pos ea']; rfl
end

section
open Go.Proofs.Ytldeanlnfhgjfaa.CMath
theorem rtear_ev (A B : ByteArray) (hA : A.size < 4611686018427387904) (hB : B.size < 4611686018427387904) (s : S) (hs : good s) (cut : Nat) (k : Nat) (hk : 50001 ≤ k) (hf : ¬ full (readD A B)) :
    tattleref16_Tear.f k A B (s.q : Int) (s.b : Int) (s.i : Int) (s.e : Int) s.o (cut : Int) = some ((tear A B s cut).1, (tear A B s cut).2, 0) := by
  obtain ⟨k, rfl⟩ : ∃ m, k = m + 1 := ⟨k - 1, by omega⟩
  have k1 : 50000 ≤ k := by omega
  have k2 : 2000 ≤ k := by omega
  have hg := next_good s hs A B hf
  have hlay := rlay_ev _ hg k k2
  have hnq := sv_next s (readD A B) hf (fun w hw => read_good hw)
  obtain ⟨h1, h2, h3, h4, h5, h6⟩ := hs
  have hc0 : ¬ (cut : Int) < 0 := by omega
  have hc1 : (0 : Int) ≤ (cut : Int) := by omega
  unfold tattleref16_Tear.f
  rw [rmay_ev, Option.bind_some, if_pos (decide_eq_true ⟨h5, h6⟩), decide_eq_false hc0]
  simp only [tattleref16_Tear.j0]
  rw [if_neg (by simp), rread_ev A B hA hB k k1, Option.bind_some]
  have hq1 : ¬ (sv (readD A B)).1 = 18446744073709551615 := by
    intro hh
    cases hr : readD A B with
    | none => rw [hr] at hh; simp [sv] at hh
    | some w =>
      rw [hr] at hh hf
      have hh' : (w.q : Int) = 18446744073709551615 := hh
      exact hf ⟨w, rfl, by omega⟩
  simp only []
  rw [if_neg hq1, hnq]
  have hl2 : tattleref16_Lay.f k (((nextS s (readD A B)).q : Nat) : Int) (s.b : Int) (s.i : Int) (s.e : Int) s.o = some (lay (nextS s (readD A B))) := hlay
  rw [hl2, Option.bind_some, rsecond_ev A B hA hB k k1, Option.bind_some, Option.bind_some]
  unfold tear
  generalize lay (nextS s (readD A B)) = t
  have hcut : t.extract 0 (min cut t.size) = if (cut : Int) < (t.size : Int) then t.extract 0 cut else t := by
    by_cases h : cut < t.size
    · rw [if_pos (by omega), Nat.min_eq_left (Nat.le_of_lt h)]
    · rw [if_neg (by omega), Nat.min_eq_right (by omega)]; exact extract_all t _ (Nat.le_refl _)
  rw [hcut]
  unfold readD
  cases hn : newest A B with
  | none =>
    simp only [Option.map_none, Option.isSome_none]
    by_cases h : (cut : Int) < (t.size : Int)
    · have h' : (cut : Int) ≤ (t.size : Int) := by omega
      rw [if_pos h, if_pos h, if_pos hc1, if_pos h', if_neg (by simp), Int.toNat_natCast]
    · rw [if_neg h, if_neg h, if_neg (by simp)]
  | some r =>
    obtain ⟨w, c⟩ := r
    simp only [Option.map_some, Option.isSome_some]
    by_cases h : (cut : Int) < (t.size : Int)
    · have h' : (cut : Int) ≤ (t.size : Int) := by omega
      rw [if_pos h, if_pos hc1, if_pos h', if_pos (by simp), Int.toNat_natCast]
      cases c with
      | true => rw [if_pos rfl]; simp only []; rw [if_pos h]
      | false => rw [if_neg (by simp)]; simp only []; rw [if_pos h]
    · rw [if_neg h, if_pos (by simp)]
      cases c with
      | true => rw [if_pos rfl]; simp only []; rw [if_neg h]
      | false => rw [if_neg (by simp)]; simp only []; rw [if_neg h]
theorem rtear_full (A B : ByteArray) (hA : A.size < 4611686018427387904) (hB : B.size < 4611686018427387904) (a b c d e : Int) (he : -1 ≤ e ∧ e ≤ 63) (cut : Int) (hc : 0 ≤ cut) (k : Nat) (hk : 50001 ≤ k) (hf : full (readD A B)) :
    tattleref16_Tear.f k A B a b c d e cut = some (A, B, 4) := by
  obtain ⟨k, rfl⟩ : ∃ m, k = m + 1 := ⟨k - 1, by omega⟩
  have k1 : 50000 ≤ k := by omega
  have hc0 : ¬ cut < 0 := by omega
  unfold tattleref16_Tear.f
  rw [rmay_ev, Option.bind_some, if_pos (decide_eq_true he), decide_eq_false hc0]
  simp only [tattleref16_Tear.j0]
  rw [if_neg (by simp), rread_ev A B hA hB k k1, Option.bind_some]
  obtain ⟨w, hw, hq⟩ := hf
  rw [hw]
  have e1 : (sv (some w)).1 = 18446744073709551615 := by show (w.q : Int) = _; omega
  simp only []
  rw [if_pos e1]
theorem rtear_not (A B : ByteArray) (a b c d e : Int) (cut : Int) (he : ¬ (-1 ≤ e ∧ e ≤ 63) ∨ cut < 0) (k : Nat) (hk : 50001 ≤ k) :
    tattleref16_Tear.f k A B a b c d e cut = some (A, B, 1) := by
  obtain ⟨k, rfl⟩ : ∃ m, k = m + 1 := ⟨k - 1, by omega⟩
  unfold tattleref16_Tear.f
  rw [rmay_ev, Option.bind_some]
  by_cases h : -1 ≤ e ∧ e ≤ 63
  · have hc : cut < 0 := by rcases he with he | he; exact absurd h he; exact he
    rw [if_pos (decide_eq_true h), decide_eq_true hc]
    simp only [tattleref16_Tear.j0]
    rw [if_pos trivial]
  · rw [if_neg (by simpa using h)]
    simp only [tattleref16_Tear.j0]
    rw [if_pos trivial]
end

def few2 (s : ByteArray) : ByteArray := if s.size > 200 then s.extract 0 200 else s
theorem few2_size (s : ByteArray) : (few2 s).size ≤ 200 := by
  unfold few2; split
  · simp; omega
  · omega
theorem few2_ev (a b : ByteArray) : tattlelaw16_Few.f a b = some (few2 a, few2 b) := by
  unfold tattlelaw16_Few.f few2
  by_cases h : a.size > 200
  · rw [if_pos (by omega), if_pos (by omega), if_pos (by omega), if_pos h]
    by_cases h2 : b.size > 200
    · rw [if_pos (by omega), if_pos (by omega), if_pos h2]
    · rw [if_neg (by omega), if_neg h2]
  · rw [if_neg (by omega), if_neg h]
    by_cases h2 : b.size > 200
    · rw [if_pos (by omega), if_pos (by omega), if_pos (by omega), if_pos h2]
    · rw [if_neg (by omega), if_neg h2]

theorem awake_ev (k : Nat) (hk : 100 ≤ k) : tattlelaw16_awake.f k = some true :=
  at_rounds (g := fun k => tattlelaw16_awake.f k) (fun k => tattlelaw16_awake.mono k) hk (by decide +kernel)
theorem i64_nat8 (n : Int) (h : (Lit.int .u8 n).wf = true) : ∃ x : Nat, n = (x : Int) ∧ x < 256 := u8_nat n h
theorem u16_nat (n : Int) (h : (Lit.int .u16 n).wf = true) : ∃ x : Nat, n = (x : Int) ∧ x < 65536 := by
  have : IntKind.u16.min ≤ n ∧ n ≤ IntKind.u16.max := by simpa [Lit.wf] using h
  have e : 0 ≤ n ∧ n ≤ 65535 := by simpa [IntKind.min, IntKind.max, IntKind.bits, IntKind.signed] using this
  exact ⟨n.toNat, by omega, by omega⟩
theorem u32_nat (n : Int) (h : (Lit.int .u32 n).wf = true) : ∃ x : Nat, n = (x : Int) := by
  have : IntKind.u32.min ≤ n ∧ n ≤ IntKind.u32.max := by simpa [Lit.wf] using h
  have e : 0 ≤ n ∧ n ≤ 4294967295 := by simpa [IntKind.min, IntKind.max, IntKind.bits, IntKind.signed] using this
  exact ⟨n.toNat, by omega⟩
theorem tl_eq {a b : ByteArray} : a.toList = b.toList ↔ a = b := by
  rw [toList_eq, toList_eq]; exact ⟨bl_inj, fun h => by rw [h]⟩
theorem pair_eq (a b c d : ByteArray) : ((a.toList == c.toList && (b.toList == d.toList)) = true) ↔ (a, b) = (c, d) := by
  rw [Bool.and_eq_true, beq_iff_eq, beq_iff_eq, tl_eq, tl_eq, Prod.mk.injEq]

end Go.Proofs.Ytldeanlnfhgjfaa.FnsDiskWrites
