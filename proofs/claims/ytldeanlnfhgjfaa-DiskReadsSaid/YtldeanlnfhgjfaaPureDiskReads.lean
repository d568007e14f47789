/- For any text, any disk, and what is to be saved: the program's answer is the document's; what may be saved, laid down, is read as it was. No condition beyond the row's own. -/
import Derived.Test.YtldeanlnfhgjfaaFnsDiskReads
namespace Go.Proofs.Ytldeanlnfhgjfaa.Pure
open Go.RowKit Go.Proofs.Ytldeanlnfhgjfaa.PDiskReads Go.Proofs.YtldeanlnfhgjfaaW.PrintWords Go.Proofs.YtldeanlnfhgjfaaW.PrintLast Go.Proofs.YtldeanlnfhgjfaaW.PrintMore Go.Proofs.Ytldeanlnfhgjfaa.WMath Go.Proofs.Ytldeanlnfhgjfaa.FnsDiskReads
set_option linter.unusedVariables false

theorem reads_j1 (k : Nat) (hk : 50000 ≤ k) (q b i e : Nat) (o : Int) (hq : q < 18446744073709551616) (hb : b < 18446744073709551616) (hi : i < 18446744073709551616) (he : e < 18446744073709551616) :
    tattlelaw16_DiskReads.j1 (k + 1) false (q : Int) (b : Int) (i : Int) (e : Int) o = some true := by
  have ka : 100 ≤ k := by omega
  have kp : 60 ≤ k := by omega
  have kl : 2000 ≤ k := by omega
  simp only [tattlelaw16_DiskReads.j1]
  rw [if_neg (by simp), rmay_ev]
  by_cases hm : -1 ≤ o ∧ o ≤ 63
  · have hs : good ⟨q, b, i, e, o⟩ := ⟨hq, hb, hi, he, hm.1, hm.2⟩
    have e1 := lay_ev ⟨q, b, i, e, o⟩ hs k ka
    have e2 := rlay_ev ⟨q, b, i, e, o⟩ hs k kl
    have hl := lay_le _ hs
    have hl2 : (lay ⟨q, b, i, e, o⟩).size < 4611686018427387904 := by omega
    have hp := par_lay _ hs
    have h0 : errI (lay ⟨q, b, i, e, o⟩) = 0 := (errI_zero _).2 (by rw [hp]; simp)
    simp only [] at e1 e2
    rw [e1, Option.bind_some, Option.bind_some, if_pos (decide_eq_true hm)]
    simp only []
    rw [parse_ev _ hl2 k kp, Option.bind_some, e2, Option.bind_some, hp, h0]
    rw [show sv (some (⟨q, b, i, e, o⟩ : S)) = ((q : Int), (b : Int), (i : Int), (e : Int), o) from rfl]
    simp only []
    rw [if_pos trivial, if_pos trivial, if_pos (by simp), if_pos trivial, awake_ev k ka, Option.bind_some]
  · rw [lay_not _ _ _ _ _ hm, Option.bind_some, Option.bind_some, if_neg (by simpa using hm)]
    simp only []
    rw [if_pos (by rw [toList_eq]; rfl), if_pos trivial, awake_ev k ka, Option.bind_some]

theorem reads_j0 (k : Nat) (hk : 50000 ≤ k) (t A B : ByteArray) (ht : t.size ≤ 200) (hA : A.size ≤ 200) (hB : B.size ≤ 200) (q b i e : Nat) (o : Int) (hq : q < 18446744073709551616) (hb : b < 18446744073709551616) (hi : i < 18446744073709551616) (he : e < 18446744073709551616) :
    tattlelaw16_DiskReads.j0 (k + 2) t A B (q : Int) (b : Int) (i : Int) (e : Int) o = some true := by
  have k1 : 60 ≤ k + 1 := by omega
  have k2 : 50000 ≤ k + 1 := by omega
  have y1 : t.size < 4611686018427387904 := by omega
  have y2 : A.size < 4611686018427387904 := by omega
  have y3 : B.size < 4611686018427387904 := by omega
  simp only [tattlelaw16_DiskReads.j0]
  rw [parse_ev t y1 (k + 1) k1, rparse_ev t y1 (k + 1) k2, read_ev A B y2 y3 (k + 1) k1, rread_ev A B y2 y3 (k + 1) k2, Option.bind_some, Option.bind_some, Option.bind_some, Option.bind_some]
  generalize sv (par t) = x
  generalize errI t = y
  generalize sv (readD A B) = z
  generalize (if (readD A B).isSome = true then (0 : Int) else 6) = u
  simp only [beq_self_eq_true, Bool.not_true, Bool.or_self, bne_self_eq_false]
  rw [if_neg (by simp), if_pos trivial, if_neg (by simp)]
  exact reads_j1 k hk q b i e o hq hb hi he

theorem DiskReads (a0 a1_0 a1_1 : ByteArray) (a2_0 a2_1 a2_2 a2_3 a2_4 : Int) (w : a0.size ≤ 140737488351232) (w0 : a1_0.size ≤ maxLen) (w1 : a1_1.size ≤ maxLen)
    (w2 : (Lit.int .u64 a2_0).wf = true) (w3 : (Lit.int .u64 a2_1).wf = true) (w4 : (Lit.int .u64 a2_2).wf = true) (w5 : (Lit.int .u64 a2_3).wf = true) (w6 : (Lit.int .i64 a2_4).wf = true) :
    ∃ k, tattlelaw16_DiskReads.f k a0 a1_0 a1_1 a2_0 a2_1 a2_2 a2_3 a2_4 = some true := by
  suffices H : ∀ K, 60000 ≤ K → tattlelaw16_DiskReads.f K a0 a1_0 a1_1 a2_0 a2_1 a2_2 a2_3 a2_4 = some true from ⟨60000, H 60000 (Nat.le_refl _)⟩
  intro K hK
  obtain ⟨K, rfl⟩ : ∃ m, K = m + 2 := ⟨K - 2, by omega⟩
  have hK2 : 50000 ≤ K := by omega
  obtain ⟨q, rfl, hq⟩ := u64_nat a2_0 w2
  obtain ⟨b, rfl, hb⟩ := u64_nat a2_1 w3
  obtain ⟨i, rfl, hi⟩ := u64_nat a2_2 w4
  obtain ⟨e, rfl, he⟩ := u64_nat a2_3 w5
  have s1 := few2_size a1_0
  have s2 := few2_size a1_1
  unfold tattlelaw16_DiskReads.f
  rw [few2_ev, Option.bind_some]
  simp only []
  by_cases h : (a0.size : Int) > 200
  · have h2 : (200 : Int) ≤ (a0.size : Int) := by omega
    rw [if_pos h, if_pos (by decide), if_pos h2]
    exact reads_j0 K hK2 _ _ _ (by simp; omega) s1 s2 q b i e a2_4 hq hb hi he
  · rw [if_neg h]
    exact reads_j0 K hK2 _ _ _ (by omega) s1 s2 q b i e a2_4 hq hb hi he

end Go.Proofs.Ytldeanlnfhgjfaa.Pure
