/- For any texts, any number and any text: the sums are the document's. No condition beyond the row's own. -/
import Derived.Test.YtcdfpombcogpfaaFnsFnvSums
namespace Go.Proofs.Ytcdfpombcogpfaa.Pure
open Go.RowKit Go.Proofs.Ytcdfpombcogpfaa.PFnvSums Go.Proofs.YtcdfpombcogpfaaW.PrintWords Go.Proofs.YtcdfpombcogpfaaW.PrintLast Go.Proofs.Ytcdfpombcogpfaa.FnvMath Go.Proofs.Ytcdfpombcogpfaa.FnsFnvSums
set_option linter.unusedVariables false

theorem wrap_add (a b : BitVec 64) : IntKind.u64.wrap (U a + U b) = U (a + b) := by
  rw [wrap_ofInt, BitVec.ofInt_add, ofInt_U, ofInt_U]

theorem times_l0 (n : BitVec 64) (d : Nat) : ∀ (k i : Nat) (x : BitVec 64), i + d = 435 → d < k → tattleref12_times.l0 k (U n) (U x) (i : Int) = some (U (x + BitVec.ofNat 64 d * n)) := by
  induction d with
  | zero =>
    intro k i x hi hk
    obtain ⟨k, rfl⟩ : ∃ m, k = m + 1 := ⟨k - 1, by omega⟩
    simp only [tattleref12_times.l0]; rw [if_neg (by omega)]; simp
  | succ d ih =>
    intro k i x hi hk
    obtain ⟨k, rfl⟩ : ∃ m, k = m + 1 := ⟨k - 1, by omega⟩
    simp only [tattleref12_times.l0]; rw [if_pos (by omega), wrap_add, wrap_nat (by omega), ih k (i + 1) _ (by omega) (by omega)]
    have e : BitVec.ofNat 64 (d + 1) * n = n + BitVec.ofNat 64 d * n := by
      rw [show BitVec.ofNat 64 (d + 1) = BitVec.ofNat 64 d + 1#64 from BitVec.ofNat_add .., BitVec.add_mul, BitVec.one_mul, BitVec.add_comm]
    rw [e, BitVec.add_assoc]

theorem U_shift : U (1099511627776#64) = 1099511627776 := by decide +kernel
theorem times_ev (n : BitVec 64) (k : Nat) (hk : 435 < k) : tattleref12_times.f k (U n) = some (U (n * P)) := by
  have := times_l0 n 435 k 0 (n * 1099511627776#64) (by omega) hk
  unfold tattleref12_times.f
  rw [← U_shift, wrap_mul]
  rw [Int.natCast_zero] at this
  rw [this]
  congr 2
  rw [BitVec.mul_comm (BitVec.ofNat 64 435) n, ← BitVec.mul_add]
  congr 1

theorem ron_l0 (s : ByteArray) (hs : s.size < 4611686018427387904) (d : Nat) : ∀ (k : Nat) (h : BitVec 64) (i : Nat), i + d = s.size → d + 436 < k →
    tattleref12_On.l0 k (U h) s (i : Int) = some (U (on h ((bl s).drop i))) := by
  induction d with
  | zero =>
    intro k h i hi hk
    obtain ⟨k, rfl⟩ : ∃ m, k = m + 1 := ⟨k - 1, by omega⟩
    simp only [tattleref12_On.l0]; rw [if_neg (by omega), List.drop_of_length_le (by rw [bl_length]; omega)]; rfl
  | succ d ih =>
    intro k h i hi hk
    obtain ⟨k, rfl⟩ : ∃ m, k = m + 1 := ⟨k - 1, by omega⟩
    have hlt : i < s.size := by omega
    simp only [tattleref12_On.l0]
    rw [if_pos (by omega), if_pos (by omega), bt_nat s i hlt, byte_U, xor_U, times_ev _ k (by omega), Option.bind_some, wrap_nat (by omega), ih k _ (i + 1) (by omega) (by omega)]
    have hd := List.drop_eq_getElem_cons (l := bl s) (i := i) (by rw [bl_length]; exact hlt)
    rw [hd, on_cons]
theorem ron_ev (s : ByteArray) (hs : s.size < 4611686018427387904) (k : Nat) (hk : s.size + 436 < k) (h : BitVec 64) : tattleref12_On.f k (U h) s = some (U (on h (bl s))) := by
  have := ron_l0 s hs s.size k h 0 (by omega) hk
  rw [Int.natCast_zero, List.drop_zero] at this
  exact this

theorem rsum_l0 (l : List ByteArray) (hn : l.length ≤ 8) (hl : ∀ x ∈ l, x.size ≤ 300) (d : Nat) : ∀ (k : Nat) (x : ByteArray) (i : Nat), i + d = l.length → d + 4000 < k → x.size ≤ 300 * i →
    tattleref12_Sum.l0 k l x (i : Int) = some (U (on F (bl x ++ all (l.drop i)))) := by
  induction d with
  | zero =>
    intro k x i hi hk hx
    obtain ⟨k, rfl⟩ : ∃ m, k = m + 1 := ⟨k - 1, by omega⟩
    simp only [tattleref12_Sum.l0]; rw [if_neg (by omega), ← U_F, ron_ev x (by omega) k (by omega), Option.bind_some, List.drop_of_length_le (by omega)]; simp [all]
  | succ d ih =>
    intro k x i hi hk hx
    obtain ⟨k, rfl⟩ : ∃ m, k = m + 1 := ⟨k - 1, by omega⟩
    have hlt : i < l.length := by omega
    have hr : rdOf ByteArray.empty l (i : Int) = l[i] := by simp [rdOf, List.getD, hlt]
    have hx2 := hl l[i] (List.getElem_mem hlt)
    simp only [tattleref12_Sum.l0]
    rw [hr, if_pos (by omega), if_pos (by omega), if_pos (by omega), wrap_nat (by omega), ih k _ (i + 1) (by omega) (by omega) (by rw [ByteArray.size_append]; omega), bl_append, List.append_assoc, List.drop_eq_getElem_cons hlt]
    rfl
theorem rsum_ev (l : List ByteArray) (hn : l.length ≤ 8) (hl : ∀ x ∈ l, x.size ≤ 300) (k : Nat) (hk : 5000 < k) : tattleref12_Sum.f k l = some (U (on F (all l))) := by
  have := rsum_l0 l hn hl l.length k ⟨#[]⟩ 0 (by omega) (by omega) (by simp [ByteArray.size])
  rw [Int.natCast_zero, List.drop_zero] at this
  exact this

theorem sums_j1 (h : BitVec 64) (s : ByteArray) (l : List ByteArray) (hn : l.length ≤ 8) (hl : ∀ x ∈ l, x.size ≤ 300) (k : Nat) (hk : 6000 < k) :
    tattlelaw12_FnvSums.j1 k (U h) s l = some true := by
  obtain ⟨k, rfl⟩ : ∃ m, k = m + 1 := ⟨k - 1, by omega⟩
  have s1 := few_size s
  simp only [tattlelaw12_FnvSums.j1]
  rw [few_ev, Option.bind_some]
  generalize few s = t at *
  rw [sum_ev l 300 (by omega) hl (by omega) k (by omega), rsum_ev l hn hl k (by omega), Option.bind_some, Option.bind_some, if_pos rfl, on_ev t (by omega) k (by omega), ron_ev t (by omega) k (by omega), Option.bind_some, Option.bind_some, if_pos rfl,
    back_ev t (by omega) k (by omega) (by omega), Option.bind_some, ron_ev t (by omega) k (by omega), Option.bind_some, on_back, if_pos rfl, awake_ev k (by omega), Option.bind_some]

theorem sums_l0 (l : List ByteArray) (hl : l.length ≤ maxLen) (h : BitVec 64) (s : ByteArray) (d : Nat) : ∀ (k i : Nat) (x : List ByteArray), i + d = 8 → d + 6001 < k → x.length = i → (∀ y ∈ x, y.size ≤ 300) →
    tattlelaw12_FnvSums.l0 k l (U h) s x (i : Int) = some true := by
  induction d with
  | zero =>
    intro k i x hi hk hx hy
    obtain ⟨k, rfl⟩ : ∃ m, k = m + 1 := ⟨k - 1, by omega⟩
    have hj := sums_j1 h s x (by omega) hy k (by omega)
    simp only [tattlelaw12_FnvSums.l0]
    by_cases h1 : (i : Int) < (l.length : Int)
    · rw [if_pos h1, if_neg (by omega)]; exact hj
    · rw [if_neg h1]; exact hj
  | succ d ih =>
    intro k i x hi hk hx hy
    obtain ⟨k, rfl⟩ : ∃ m, k = m + 1 := ⟨k - 1, by omega⟩
    simp only [tattlelaw12_FnvSums.l0]
    by_cases h1 : (i : Int) < (l.length : Int)
    · rw [if_pos h1, if_pos (by omega), if_pos (by omega), few_ev, Option.bind_some, if_pos (by omega), wrap_nat (by omega)]
      refine ih k (i + 1) _ (by omega) (by omega) (by simp [hx]) ?_
      intro y hy2
      rcases List.mem_append.1 hy2 with hy2 | hy2
      · exact hy y hy2
      · rw [List.mem_singleton.1 hy2]; exact few_size _
    · rw [if_neg h1]; exact sums_j1 h s x (by omega) hy k (by omega)

theorem FnvSums (l0 : List ByteArray) (a1 : Int) (a2 : ByteArray) (w0 : l0.length ≤ maxLen) (w1 : (Lit.int .u64 a1).wf = true) (w2 : a2.size ≤ 140737488351232) : ∃ k, tattlelaw12_FnvSums.f k l0 a1 a2 = some true := by
  suffices H : ∀ K, 7000 ≤ K → tattlelaw12_FnvSums.f K l0 a1 a2 = some true from ⟨7000, H 7000 (Nat.le_refl _)⟩
  intro K hK
  obtain ⟨h, rfl⟩ := U_of a1 w1
  have e := sums_l0 l0 w0 h a2 8 K 0 [] (by omega) (by omega) rfl (by simp)
  rw [Int.natCast_zero] at e
  exact e

end Go.Proofs.Ytcdfpombcogpfaa.Pure
