import Derived.Test.YtcdfpombcogpfaaPFnvDiffersx
import Derived.Test.YtcdfpombcogpfaaMath
namespace Go.Proofs.Ytcdfpombcogpfaa.FnsFnvDiffers
open Go.RowKit Go.Proofs.Ytcdfpombcogpfaa.PFnvDiffers Go.Proofs.YtcdfpombcogpfaaW.PrintWords Go.Proofs.YtcdfpombcogpfaaW.PrintLast Go.Proofs.Ytcdfpombcogpfaa.FnvMath

def bl (s : ByteArray) : List UInt8 := s.data.toList
theorem bl_length (s : ByteArray) : (bl s).length = s.size := data_length s
theorem bl_append (a b : ByteArray) : bl (a ++ b) = bl a ++ bl b := by simp [bl]
theorem bl_inj {a b : ByteArray} (h : bl a = bl b) : a = b := by
  cases a with | mk x => cases b with | mk y => congr 1; exact Array.toList_inj.1 h

def few (s : ByteArray) : ByteArray := if s.size > 300 then s.extract 0 300 else s
theorem few_size (s : ByteArray) : (few s).size ≤ 300 := by
  unfold few; split
  · simp; omega
  · omega
theorem few_ev (s : ByteArray) : tattlelaw12_Few.f s = some (few s) := by
  unfold tattlelaw12_Few.f few
  by_cases h : s.size > 300
  · rw [if_pos (by omega), if_pos (by omega), if_pos (by omega), if_pos h]
  · rw [if_neg (by omega), if_neg h]

theorem wrap_nat {i : Nat} (h : i < 4611686018427387904) : wrap64 ((i : Int) + 1) = ((i + 1 : Nat) : Int) := by unfold wrap64; omega

theorem bt_nat (s : ByteArray) (i : Nat) (h : i < s.size) : bt s (i : Int) = (((bl s)[i]'(by rw [bl_length]; exact h)).toNat : Int) := by
  have h' : ((i : Int)).toNat < s.size := by simpa using h
  rw [← bt_at s i h']; rfl

theorem on_l0 (s : ByteArray) (hs : s.size < 4611686018427387904) (d : Nat) : ∀ (k : Nat) (h : BitVec 64) (i : Nat), i + d = s.size → d < k →
    fnv_On.l0 k (U h) s (s.size : Int) (i : Int) = some (U (on h ((bl s).drop i))) := by
  induction d with
  | zero =>
    intro k h i hi hk
    obtain ⟨k, rfl⟩ : ∃ m, k = m + 1 := ⟨k - 1, by omega⟩
    simp only [fnv_On.l0]; rw [if_neg (by omega), List.drop_of_length_le (by rw [bl_length]; omega)]; rfl
  | succ d ih =>
    intro k h i hi hk
    obtain ⟨k, rfl⟩ : ∃ m, k = m + 1 := ⟨k - 1, by omega⟩
    have hlt : i < s.size := by omega
    simp only [fnv_On.l0]; rw [if_pos (by omega), if_pos (by omega), if_pos (by omega), wrap_nat (by omega), bt_nat s i hlt, byte_U, xor_U, ← U_P, wrap_mul,
      ih k _ (i + 1) (by omega) (by omega)]
    have hd := List.drop_eq_getElem_cons (l := bl s) (i := i) (by rw [bl_length]; exact hlt)
    rw [hd, on_cons]

theorem on_ev (s : ByteArray) (hs : s.size < 4611686018427387904) (k : Nat) (hk : s.size < k) (h : BitVec 64) : fnv_On.f k (U h) s = some (U (on h (bl s))) := by
  have := on_l0 s hs s.size k h 0 (by omega) hk
  simpa [fnv_On.f] using this

theorem inv_ev (k : Nat) (hk : 7 ≤ k) : fnv_inverse.f k 1099511628211 = some (U Q) :=
  at_rounds (g := fun k => fnv_inverse.f k 1099511628211) (fun k => fnv_inverse.mono _ k) hk (by decide +kernel)

theorem back_l0 (s : ByteArray) (hs : s.size < 4611686018427387904) (i : Nat) : ∀ (k : Nat) (h : BitVec 64), i ≤ s.size → i < k →
    fnv_Back.l0 k (U h) s (U Q) ((i : Int) - 1) = some (U (back h ((bl s).take i))) := by
  induction i with
  | zero =>
    intro k h hi hk
    obtain ⟨k, rfl⟩ : ∃ m, k = m + 1 := ⟨k - 1, by omega⟩
    simp only [fnv_Back.l0]; rw [if_neg (by omega)]; simp [back]
  | succ i ih =>
    intro k h hi hk
    obtain ⟨k, rfl⟩ : ∃ m, k = m + 1 := ⟨k - 1, by omega⟩
    have e : ((i + 1 : Nat) : Int) - 1 = (i : Int) := by omega
    have hlt : i < s.size := by omega
    simp only [fnv_Back.l0]
    rw [e, if_pos (by omega), if_pos (by omega), if_pos (by omega), bt_nat s i hlt, byte_U, wrap_mul, xor_U]
    rw [show wrap64 ((i : Int) - 1) = (i : Int) - 1 by unfold wrap64; omega, ih k _ (by omega) (by omega)]
    rw [List.take_succ_eq_append_getElem (by rw [bl_length]; exact hlt), back_append]; rfl

theorem back_ev (s : ByteArray) (hs : s.size < 4611686018427387904) (k : Nat) (hk : s.size < k) (h7 : 7 ≤ k) (h : BitVec 64) : fnv_Back.f k (U h) s = some (U (back h (bl s))) := by
  unfold fnv_Back.f
  rw [inv_ev k h7]; simp only [Option.bind_some]
  rw [show wrap64 ((s.size : Int) - 1) = (s.size : Int) - 1 by unfold wrap64; omega, back_l0 s hs s.size k h (Nat.le_refl _) hk]
  rw [List.take_of_length_le (by rw [bl_length]; omega)]

def F : BitVec 64 := 14695981039346656037#64
theorem U_F : U F = 14695981039346656037 := by decide +kernel
def all (l : List ByteArray) : List UInt8 := l.flatMap bl
theorem all_append (a b : List ByteArray) : all (a ++ b) = all a ++ all b := by simp [all]

theorem sum_l0 (l : List ByteArray) (m : Nat) (hm : m < 4611686018427387904) (hl : ∀ x ∈ l, x.size ≤ m) (hn : l.length < 4611686018427387904) (d : Nat) : ∀ (k : Nat) (h : BitVec 64) (i : Nat), i + d = l.length → d + m < k →
    fnv_Sum.l0 k (U h) l (l.length : Int) (i : Int) = some (U (on h (all (l.drop i)))) := by
  induction d with
  | zero =>
    intro k h i hi hk
    obtain ⟨k, rfl⟩ : ∃ m, k = m + 1 := ⟨k - 1, by omega⟩
    simp only [fnv_Sum.l0]; rw [if_neg (by omega), List.drop_of_length_le (by omega)]; rfl
  | succ d ih =>
    intro k h i hi hk
    obtain ⟨k, rfl⟩ : ∃ m, k = m + 1 := ⟨k - 1, by omega⟩
    have hlt : i < l.length := by omega
    have hr : rdOf ByteArray.empty l (i : Int) = l[i] := by simp [rdOf, List.getD, hlt]
    have hx := hl l[i] (List.getElem_mem hlt)
    simp only [fnv_Sum.l0]; rw [if_pos (by omega), if_pos (by omega), if_pos (by omega), wrap_nat (by omega), hr, on_ev _ (by omega) k (by omega)]
    simp only [Option.bind_some]
    rw [ih k _ (i + 1) (by omega) (by omega), List.drop_eq_getElem_cons hlt]
    simp only [all, List.flatMap_cons, on_append]

theorem sum_ev (l : List ByteArray) (m : Nat) (hm : m < 4611686018427387904) (hl : ∀ x ∈ l, x.size ≤ m) (hn : l.length < 4611686018427387904) (k : Nat) (hk : l.length + m < k) :
    fnv_Sum.f k l = some (U (on F (all l))) := by
  have := sum_l0 l m hm hl hn l.length k F 0 (by omega) hk
  rw [U_F] at this
  simpa [fnv_Sum.f] using this

theorem awake_ev (k : Nat) (hk : 20 ≤ k) : tattlelaw12_awake.f k = some true :=
  at_rounds (g := fun k => tattlelaw12_awake.f k) (fun k => tattlelaw12_awake.mono k) hk (by decide +kernel)

end Go.Proofs.Ytcdfpombcogpfaa.FnsFnvDiffers
