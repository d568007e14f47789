/- For every number, two octets and a text: a number turned in its lowest eight bits comes, by the octet turned by the same, to the same. No condition beyond the row's own. -/
import Derived.Test.YtcdfpombcogpfaaFnsFnvTurns
namespace Go.Proofs.Ytcdfpombcogpfaa.Pure
open Go.RowKit Go.Proofs.Ytcdfpombcogpfaa.PFnvTurns Go.Proofs.YtcdfpombcogpfaaW.PrintWords Go.Proofs.YtcdfpombcogpfaaW.PrintLast Go.Proofs.Ytcdfpombcogpfaa.FnvMath Go.Proofs.Ytcdfpombcogpfaa.FnsFnvTurns
set_option linter.unusedVariables false

theorem u8_of (n : Int) (h : (Lit.int .u8 n).wf = true) : ∃ c : UInt8, n = (c.toNat : Int) := by
  have : IntKind.u8.min ≤ n ∧ n ≤ IntKind.u8.max := by simpa [Lit.wf] using h
  have e : 0 ≤ n ∧ n ≤ 255 := by simpa [IntKind.min, IntKind.max, IntKind.bits, IntKind.signed] using this
  refine ⟨UInt8.ofNat n.toNat, ?_⟩
  rw [UInt8.toNat_ofNat', Nat.mod_eq_of_lt (by omega)]; omega

theorem xor_u8 (a b : UInt8) : Go.bits .xor .u8 (a.toNat : Int) (b.toNat : Int) = ((a ^^^ b).toNat : Int) := by
  show IntKind.u8.wrap (((BitVec.ofInt 8 (a.toNat : Int)) ^^^ (BitVec.ofInt 8 (b.toNat : Int))).toNat : Int) = _
  rw [BitVec.ofInt_natCast, BitVec.ofInt_natCast]
  have h1 : (BitVec.ofNat 8 a.toNat ^^^ BitVec.ofNat 8 b.toNat).toNat = (a ^^^ b).toNat := by
    rw [BitVec.toNat_xor, UInt8.toNat_xor]; simp
  rw [h1]
  have := (a ^^^ b).toNat_lt
  rw [Go.IntKind.wrap_u8]; omega

theorem B8_xor (a b : UInt8) : B8 (a ^^^ b) = B8 a ^^^ B8 b := by
  unfold B8
  apply BitVec.eq_of_toNat_eq
  have h1 := a.toNat_lt; have h2 := b.toNat_lt; have h3 := (a ^^^ b).toNat_lt
  rw [BitVec.toNat_xor, BitVec.toNat_ofNat, BitVec.toNat_ofNat, BitVec.toNat_ofNat, UInt8.toNat_xor, Nat.mod_eq_of_lt, Nat.mod_eq_of_lt, Nat.mod_eq_of_lt] <;> simp only [UInt8.toNat_xor] at h3 <;> omega

theorem bl_one (c : UInt8) : bl (strOfNums [(c.toNat : Int)]) = [c] := by
  simp [bl, strOfNums]

theorem FnvTurns (a0_0 a0_1 a0_2 : Int) (a0_3 : ByteArray) (w0 : (Lit.int .u64 a0_0).wf = true) (w1 : (Lit.int .u8 a0_1).wf = true) (w2 : (Lit.int .u8 a0_2).wf = true) (w3 : a0_3.size ≤ maxLen) : ∃ k, tattlelaw12_FnvTurns.f k a0_0 a0_1 a0_2 a0_3 = some true := by
  suffices H : ∀ K, 1000 ≤ K → tattlelaw12_FnvTurns.f K a0_0 a0_1 a0_2 a0_3 = some true from ⟨1000, H 1000 (Nat.le_refl _)⟩
  intro K hK
  obtain ⟨h, rfl⟩ := U_of a0_0 w0
  obtain ⟨a, rfl⟩ := u8_of a0_1 w1
  obtain ⟨b, rfl⟩ := u8_of a0_2 w2
  have s1 := few_size a0_3
  unfold tattlelaw12_FnvTurns.f
  rw [few_ev, Option.bind_some]
  generalize few a0_3 = s at *
  rw [Option.bind_some, xor_u8, byte_U, xor_U]
  have z1 : (strOfNums [((a ^^^ b).toNat : Int)]).size = 1 := by rw [← bl_length, bl_one]; rfl
  have z2 : (strOfNums [(a.toNat : Int)]).size = 1 := by rw [← bl_length, bl_one]; rfl
  have z3 : (strOfNums [((a ^^^ b).toNat : Int)] ++ s).size ≤ 301 := by rw [ByteArray.size_append]; omega
  have z4 : (strOfNums [(a.toNat : Int)] ++ s).size ≤ 301 := by rw [ByteArray.size_append]; omega
  rw [if_pos (by omega), on_ev _ (by omega) K (by omega), Option.bind_some, Option.bind_some, if_pos (by omega), on_ev _ (by omega) K (by omega), Option.bind_some, bl_append, bl_append, bl_one, bl_one,
    List.singleton_append, List.singleton_append, on_cons, on_cons, B8_xor]
  have e : h ^^^ B8 b ^^^ (B8 a ^^^ B8 b) = h ^^^ B8 a := by
    rw [BitVec.xor_comm (B8 a), BitVec.xor_assoc, ← BitVec.xor_assoc (B8 b), BitVec.xor_self, BitVec.zero_xor]
  rw [e, if_pos rfl, awake_ev K (by omega), Option.bind_some]

end Go.Proofs.Ytcdfpombcogpfaa.Pure
