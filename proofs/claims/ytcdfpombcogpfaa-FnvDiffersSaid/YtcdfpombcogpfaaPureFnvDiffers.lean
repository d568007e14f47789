/- For any text, place, octet and two numbers: texts that are as long, and differ in just one octet, have sums that differ; so have numbers that differ, by the same text. No condition beyond the row's own. -/
import Derived.Test.YtcdfpombcogpfaaFnsFnvDiffers
namespace Go.Proofs.Ytcdfpombcogpfaa.Pure
open Go.RowKit Go.Proofs.Ytcdfpombcogpfaa.PFnvDiffers Go.Proofs.YtcdfpombcogpfaaW.PrintWords Go.Proofs.YtcdfpombcogpfaaW.PrintLast Go.Proofs.Ytcdfpombcogpfaa.FnvMath Go.Proofs.Ytcdfpombcogpfaa.FnsFnvDiffers
set_option linter.unusedVariables false

theorem B8_inj {a b : UInt8} (h : B8 a = B8 b) : a = b := by
  have h1 := a.toNat_lt; have h2 := b.toNat_lt
  have := congrArg BitVec.toNat h
  unfold B8 at this
  rw [BitVec.toNat_ofNat, BitVec.toNat_ofNat, Nat.mod_eq_of_lt (by omega), Nat.mod_eq_of_lt (by omega)] at this
  exact UInt8.toNat_inj.1 this
theorem on_one (h : BitVec 64) (a : List UInt8) (x c : UInt8) (b : List UInt8) (e : on h (a ++ x :: b) = on h (a ++ c :: b)) : x = c := by
  rw [on_append, on_append, on_cons, on_cons] at e
  have e2 := on_inj e
  have e3 : on h a ^^^ B8 x = on h a ^^^ B8 c := by rw [← mulPQ (on h a ^^^ B8 x), e2, mulPQ]
  apply B8_inj
  have e4 : on h a ^^^ (on h a ^^^ B8 x) = on h a ^^^ (on h a ^^^ B8 c) := by rw [e3]
  rwa [← BitVec.xor_assoc, ← BitVec.xor_assoc, BitVec.xor_self, BitVec.zero_xor, BitVec.zero_xor] at e4
theorem bl_setb (s : ByteArray) (i : Nat) (c : Int) : bl (setb s i c) = (bl s).set i (UInt8.ofNat c.toNat) := by
  unfold setb bl strOfNums bytesOf
  simp only [List.map_set, List.map_map]
  have : ((fun n : Int => UInt8.ofNat n.toNat) ∘ fun b : UInt8 => (b.toNat : Int)) = id := by funext b; simp
  rw [this, List.map_id]
theorem tl (s : ByteArray) : s.toList = bl s := by rw [ByteArray.toList_eq]; rfl
theorem u16_nat (n : Int) (h : (Lit.int .u16 n).wf = true) : ∃ x : Nat, n = (x : Int) ∧ x < 65536 := by
  have : IntKind.u16.min ≤ n ∧ n ≤ IntKind.u16.max := by simpa [Lit.wf] using h
  have e : 0 ≤ n ∧ n ≤ 65535 := by simpa [IntKind.min, IntKind.max, IntKind.bits, IntKind.signed] using this
  exact ⟨n.toNat, by omega, by omega⟩

theorem FnvDiffers (a0_0 : ByteArray) (a0_1 a0_2 a0_3 a0_4 : Int) (w0 : a0_0.size ≤ maxLen) (w1 : (Lit.int .u16 a0_1).wf = true) (w2 : (Lit.int .u8 a0_2).wf = true) (w3 : (Lit.int .u64 a0_3).wf = true) (w4 : (Lit.int .u64 a0_4).wf = true) : ∃ k, tattlelaw12_FnvDiffers.f k a0_0 a0_1 a0_2 a0_3 a0_4 = some true := by
  suffices H : ∀ K, 1000 ≤ K → tattlelaw12_FnvDiffers.f K a0_0 a0_1 a0_2 a0_3 a0_4 = some true from ⟨1000, H 1000 (Nat.le_refl _)⟩
  intro K hK
  obtain ⟨at_, rfl, hat⟩ := u16_nat a0_1 w1
  obtain ⟨h, rfl⟩ := U_of a0_3 w3
  obtain ⟨k, rfl⟩ := U_of a0_4 w4
  have s1 := few_size a0_0
  unfold tattlelaw12_FnvDiffers.f
  rw [few_ev, Option.bind_some]
  generalize few a0_0 = s at *
  rw [on_ev s (by omega) K (by omega), on_ev s (by omega) K (by omega), Option.bind_some, Option.bind_some]
  have hb : ((U (on h (bl s)) == U (on k (bl s))) != (U h == U k)) = false := by
    rw [bne_eq_false_iff_eq]
    by_cases e : h = k
    · subst e; rw [beq_self_eq_true, beq_self_eq_true]
    · have e1 : ¬ U h = U k := fun x => e (U_inj.1 x)
      have e2 : ¬ U (on h (bl s)) = U (on k (bl s)) := fun x => e (on_inj (U_inj.1 x))
      rw [beq_eq_false_iff_ne.2 e1, beq_eq_false_iff_ne.2 e2]
  rw [hb, if_neg (by simp)]
  by_cases h0 : (s.size : Int) = 0
  · rw [if_pos h0, awake_ev K (by omega), Option.bind_some]
  · have wa : wrap64 (at_ : Int) = (at_ : Int) := by unfold wrap64; omega
    have wm : Int.tmod (at_ : Int) (s.size : Int) = ((at_ % s.size : Nat) : Int) := by
      rw [Int.tmod_eq_emod_of_nonneg (Int.natCast_nonneg at_)]; exact (Int.natCast_emod at_ s.size).symm
    have hlt : at_ % s.size < s.size := Nat.mod_lt _ (by omega)
    rw [if_neg h0, wa, wm, if_pos (by omega), if_pos (by omega), Int.toNat_natCast]
    generalize at_ % s.size = i at *
    have hz : (setb s i a0_2).size = s.size := by rw [← bl_length, bl_setb, List.length_set, bl_length]
    have e1 : all [setb s i a0_2] = bl (setb s i a0_2) := by simp [all]
    have e2 : all [s] = bl s := by simp [all]
    rw [sum_ev [setb s i a0_2] 300 (by omega) (by simp; omega) (by simp) K (by simp; omega), sum_ev [s] 300 (by omega) (by simp; omega) (by simp) K (by simp; omega), Option.bind_some, Option.bind_some, e1, e2]
    have hbl : i < (bl s).length := by rw [bl_length]; exact hlt
    have hsplit : bl s = (bl s).take i ++ (bl s)[i] :: (bl s).drop (i + 1) := by rw [← List.drop_eq_getElem_cons hbl, List.take_append_drop]
    have hset : bl (setb s i a0_2) = (bl s).take i ++ (UInt8.ofNat a0_2.toNat) :: (bl s).drop (i + 1) := by rw [bl_setb, List.set_eq_take_append_cons_drop, if_pos hbl]
    have hfin : ((U (on F (bl (setb s i a0_2))) == U (on F (bl s))) == (s.toList == (setb s i a0_2).toList)) = true := by
      by_cases e : (bl s)[i] = UInt8.ofNat a0_2.toNat
      · have e3 : bl (setb s i a0_2) = bl s := by rw [hset, ← e, ← hsplit]
        rw [tl, tl, e3, beq_self_eq_true, beq_self_eq_true]; rfl
      · have e4 : ¬ U (on F (bl (setb s i a0_2))) = U (on F (bl s)) := by
          intro x
          have x1 := U_inj.1 x
          rw [hset] at x1
          have x2 : on F (bl s) = on F ((bl s).take i ++ (bl s)[i] :: (bl s).drop (i + 1)) := congrArg (on F) hsplit
          rw [x2] at x1
          exact e (on_one F _ _ _ _ x1).symm
        have e5 : ¬ s.toList = (setb s i a0_2).toList := by
          intro x
          rw [tl, tl] at x
          exact e4 (by rw [x])
        rw [beq_eq_false_iff_ne.2 e4, beq_eq_false_iff_ne.2 e5]; rfl
    rw [if_pos hfin, awake_ev K (by omega), Option.bind_some]

end Go.Proofs.Ytcdfpombcogpfaa.Pure
