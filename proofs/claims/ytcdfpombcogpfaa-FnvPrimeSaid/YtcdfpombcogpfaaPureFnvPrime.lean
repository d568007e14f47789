/- For every number, text and count of octets 0: such octets multiply a number by the prime, and back. No condition beyond the row's own. -/
import Derived.Test.YtcdfpombcogpfaaFnsFnvPrime
namespace Go.Proofs.Ytcdfpombcogpfaa.Pure
open Go.RowKit Go.Proofs.Ytcdfpombcogpfaa.PFnvPrime Go.Proofs.YtcdfpombcogpfaaW.PrintWords Go.Proofs.YtcdfpombcogpfaaW.PrintLast Go.Proofs.Ytcdfpombcogpfaa.FnvMath Go.Proofs.Ytcdfpombcogpfaa.FnsFnvPrime
set_option linter.unusedVariables false

/-- a number times the prime, so often -/
def times (h : BitVec 64) : Nat → BitVec 64
  | 0 => h
  | n + 1 => times (h * P) n

theorem B8_zero : B8 0 = 0#64 := rfl
theorem on_zeros (n : Nat) : ∀ h, on h (List.replicate n 0) = times h n := by
  induction n with
  | zero => intro h; rfl
  | succ n ih => intro h; rw [List.replicate_succ, on_cons, B8_zero, BitVec.xor_zero, ih]; rfl

theorem bl_zeros (n : Nat) : bl (strOfNums (List.replicate n 0)) = List.replicate n 0 := by
  simp [bl, strOfNums]

theorem prime_l0 (s z : ByteArray) (hs : s.size ≤ 300) (hz : z.size ≤ 20) (x : BitVec 64) (d : Nat) : ∀ (k : Nat) (h : BitVec 64) (i : Nat), i + d = z.size → d + 1000 < k →
    on x (bl s ++ bl z) = times h d →
    tattlelaw12_FnvPrime.l0 k (U x) s z (U h) (i : Int) = some true := by
  induction d with
  | zero =>
    intro k h i hi hk e
    obtain ⟨k, rfl⟩ : ∃ m, k = m + 1 := ⟨k - 1, by omega⟩
    have sz : (s ++ z).size ≤ 600 := by rw [ByteArray.size_append]; omega
    have e' : h = on x (bl (s ++ z)) := by rw [bl_append, e]; rfl
    simp only [tattlelaw12_FnvPrime.l0]
    rw [if_neg (by omega), if_pos (by omega), on_ev _ (by omega) k (by omega), on_ev s (by omega) k (by omega)]
    simp only [Option.bind_some]
    rw [back_ev z (by omega) k (by omega) (by omega), back_ev _ (by omega) k (by omega) (by omega), e']
    simp only [Option.bind_some, if_true, back_on, awake_ev k (by omega)]
    rw [bl_append, on_append, back_on, if_pos rfl]
  | succ d ih =>
    intro k h i hi hk e
    obtain ⟨k, rfl⟩ : ∃ m, k = m + 1 := ⟨k - 1, by omega⟩
    simp only [tattlelaw12_FnvPrime.l0]
    rw [if_pos (by omega), ← U_P, wrap_mul, wrap_nat (by omega)]
    exact ih k _ (i + 1) (by omega) (by omega) e

theorem u8_range (n : Int) (h : (Lit.int .u8 n).wf = true) : 0 ≤ n ∧ n ≤ 255 := by
  have : IntKind.u8.min ≤ n ∧ n ≤ IntKind.u8.max := by simpa [Lit.wf] using h
  simpa [IntKind.min, IntKind.max, IntKind.bits, IntKind.signed] using this

theorem FnvPrime : tattlelaw12_FnvPrime.Pure := by
  intro a0 a1 a2 w0 w1 w2
  suffices H : ∀ K, 2000 ≤ K → tattlelaw12_FnvPrime.f K a0 a1 a2 = some true from ⟨2000, H 2000 (Nat.le_refl _)⟩
  intro K hK
  obtain ⟨h, rfl⟩ := U_of a0 w0
  obtain ⟨c0, c1⟩ := u8_range a2 w2
  obtain ⟨c, rfl⟩ := Int.eq_ofNat_of_zero_le c0
  have s1 := few_size a1
  have m20 : wrap64 (Int.tmod (c : Int) 20) = ((c % 20 : Nat) : Int) := by
    rw [Int.tmod_eq_emod_of_nonneg (by omega)]; unfold wrap64; omega
  have mlt : c % 20 < 20 := Nat.mod_lt _ (by omega)
  unfold tattlelaw12_FnvPrime.f
  rw [few_ev, Option.bind_some]
  rw [m20, if_pos (by omega), if_pos (by omega), Int.toNat_natCast]
  generalize few a1 = s at *
  generalize c % 20 = n at *
  rw [on_ev s (by omega) K (by omega)]
  simp only [Option.bind_some]
  have hb := bl_zeros n
  have hz : (strOfNums (List.replicate n 0)).size = n := by rw [← bl_length, hb, List.length_replicate]
  generalize strOfNums (List.replicate n 0) = z at *
  have e := prime_l0 s z s1 (by omega) h n K (on h (bl s)) 0 (by omega) (by omega) (by rw [on_append, hb, on_zeros])
  rw [Int.natCast_zero] at e
  exact e

end Go.Proofs.Ytcdfpombcogpfaa.Pure
