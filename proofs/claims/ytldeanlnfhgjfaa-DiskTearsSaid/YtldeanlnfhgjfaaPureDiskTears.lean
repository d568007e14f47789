/- For any disk, what is to be saved, and any cut: torn ahead of its end, what is read is what was read; else it is what is written, one more. No condition beyond the row's own. -/
import Derived.Test.YtldeanlnfhgjfaaFnsDiskTears
namespace Go.Proofs.Ytldeanlnfhgjfaa.Pure
open Go.RowKit Go.Proofs.Ytldeanlnfhgjfaa.PDiskTears Go.Proofs.YtldeanlnfhgjfaaW.PrintWords Go.Proofs.YtldeanlnfhgjfaaW.PrintLast Go.Proofs.YtldeanlnfhgjfaaW.PrintMore Go.Proofs.Ytldeanlnfhgjfaa.WMath Go.Proofs.Ytldeanlnfhgjfaa.FnsDiskTears
set_option linter.unusedVariables false

theorem DiskTears (a0_0 a0_1 : ByteArray) (a1_0 a1_1 a1_2 a1_3 a1_4 a2 : Int) (w0 : a0_0.size ≤ maxLen) (w1 : a0_1.size ≤ maxLen)
    (w2 : (Lit.int .u64 a1_0).wf = true) (w3 : (Lit.int .u64 a1_1).wf = true) (w4 : (Lit.int .u64 a1_2).wf = true) (w5 : (Lit.int .u64 a1_3).wf = true) (w6 : (Lit.int .i64 a1_4).wf = true) (w7 : (Lit.int .u8 a2).wf = true) :
    ∃ k, tattlelaw16_DiskTears.f k a0_0 a0_1 a1_0 a1_1 a1_2 a1_3 a1_4 a2 = some true := by
  suffices H : ∀ K, 300 ≤ K → tattlelaw16_DiskTears.f K a0_0 a0_1 a1_0 a1_1 a1_2 a1_3 a1_4 a2 = some true from ⟨300, H 300 (Nat.le_refl _)⟩
  intro K hK
  obtain ⟨K, rfl⟩ : ∃ m, K = m + 2 := ⟨K - 2, by omega⟩
  obtain ⟨q, rfl, hq⟩ := u64_nat a1_0 w2
  obtain ⟨b, rfl, hb⟩ := u64_nat a1_1 w3
  obtain ⟨i, rfl, hi⟩ := u64_nat a1_2 w4
  obtain ⟨e, rfl, he⟩ := u64_nat a1_3 w5
  obtain ⟨cut, rfl, hcut⟩ := u8_nat a2 w7
  have s1 := few2_size a0_0
  have s2 := few2_size a0_1
  unfold tattlelaw16_DiskTears.f
  rw [few2_ev, Option.bind_some]
  simp only []
  generalize few2 a0_0 = A at *
  generalize few2 a0_1 = B at *
  have hwc : wrap64 (cut : Int) = (cut : Int) := by unfold wrap64; omega
  have y0 : 60 ≤ K + 2 := by omega
  have y1 : 200 ≤ K + 2 := by omega
  have y2 : A.size < 4611686018427387904 := by omega
  have y3 : B.size < 4611686018427387904 := by omega
  have y4 : (0 : Int) ≤ (cut : Int) := Int.natCast_nonneg cut
  have y5 : (0 : Int) ≤ 9223372036854775807 := by decide
  have k0 : 100 ≤ K := by omega
  have k1 : 100 ≤ K + 1 := by omega
  have k2 : 100 ≤ K + 2 := by omega
  have k3 : 60 ≤ K + 1 := by omega
  have k4 : 200 ≤ K + 1 := by omega
  rw [read_ev A B y2 y3 (K + 2) y0, Option.bind_some, hwc, write_ev]
  simp only []
  by_cases hm : -1 ≤ a1_4 ∧ a1_4 ≤ 63
  · by_cases hf : full (readD A B)
    · rw [tear_full A B y2 y3 (q : Int) (b : Int) (i : Int) (e : Int) a1_4 hm (cut : Int) y4 (K + 2) y1 hf, tear_full A B y2 y3 (q : Int) (b : Int) (i : Int) (e : Int) a1_4 hm 9223372036854775807 y5 (K + 2) y1 hf, Option.bind_some, Option.bind_some]
      simp only []
      rw [if_neg (by decide)]
      simp only [tattlelaw16_DiskTears.j0]
      rw [if_pos trivial, if_pos trivial, if_pos ((pair_eq _ _ _ _).2 rfl), if_pos ((pair_eq _ _ _ _).2 rfl), awake_ev (K + 1) k1, Option.bind_some]
    · have hs : good ⟨q, b, i, e, a1_4⟩ := ⟨hq, hb, hi, he, hm.1, hm.2⟩
      have t1 := tear_ev A B y2 y3 ⟨q, b, i, e, a1_4⟩ hs cut (K + 2) y1 hf
      have t2 := tear_ev A B y2 y3 ⟨q, b, i, e, a1_4⟩ hs 9223372036854775807 (K + 2) y1 hf
      have hg := next_good _ hs A B hf
      have hl := lay_le _ hg
      have c1 := torn_reads A B _ hs cut hf
      have c2 := (torn_reads A B _ hs 9223372036854775807 hf).1 (by omega)
      have hpast : (lay (nextS ⟨q, b, i, e, a1_4⟩ (readD A B))).size ≤ cut → tear A B ⟨q, b, i, e, a1_4⟩ cut = tear A B ⟨q, b, i, e, a1_4⟩ 9223372036854775807 := fun h => tear_past A B _ _ _ h (by omega)
      have hsz : ∀ c, (tear A B ⟨q, b, i, e, a1_4⟩ c).1.size < 1000 ∧ (tear A B ⟨q, b, i, e, a1_4⟩ c).2.size < 1000 := by
        intro c
        unfold tear
        split <;> simp only [] <;> constructor <;> first | omega | (simp; omega)
      have z1 := hsz cut
      have z2 := hsz 9223372036854775807
      have hnq := sv_next ⟨q, b, i, e, a1_4⟩ (readD A B) hf (fun w hw => read_good hw)
      have hn : sv (some (nextS ⟨q, b, i, e, a1_4⟩ (readD A B))) = (((nextS ⟨q, b, i, e, a1_4⟩ (readD A B)).q : Int), (b : Int), (i : Int), (e : Int), a1_4) := rfl
      simp only [] at t1 t2
      have t2' : disk_Tear.f (K + 2) A B (q : Int) (b : Int) (i : Int) (e : Int) a1_4 9223372036854775807 = some ((tear A B ⟨q, b, i, e, a1_4⟩ 9223372036854775807).1, (tear A B ⟨q, b, i, e, a1_4⟩ 9223372036854775807).2, 0) := t2
      rw [t1, t2', Option.bind_some, Option.bind_some]
      simp only []
      rw [if_pos trivial]
      generalize tear A B ⟨q, b, i, e, a1_4⟩ cut = X at *
      generalize tear A B ⟨q, b, i, e, a1_4⟩ 9223372036854775807 = Y at *
      generalize hL : nextS ⟨q, b, i, e, a1_4⟩ (readD A B) = L at *
      simp only [tattlelaw16_DiskTears.j0]
      rw [if_neg (by simp), read_ev X.1 X.2 (by omega) (by omega) (K + 1) k3, read_ev Y.1 Y.2 (by omega) (by omega) (K + 1) k3, Option.bind_some, Option.bind_some, c2, hn, hnq]
      simp only []
      rw [if_neg (by simp)]
      simp only [tattlelaw16_DiskTears.j1]
      rw [if_neg (by simp)]
      by_cases hxy : X = Y
      · subst hxy
        rw [if_pos ((pair_eq _ _ _ _).2 rfl), c2, hn]
        simp only []
        rw [if_pos (by simp), if_pos (by simp), awake_ev K k0, Option.bind_some]
      · have hlt : cut < (lay L).size := by
          rcases Nat.lt_or_ge cut (lay L).size with h | h
          · exact h
          · exact absurd (hpast h) hxy
        have hne : ¬ ((X.1.toList == Y.1.toList && (X.2.toList == Y.2.toList)) = true) := fun h => hxy ((pair_eq _ _ _ _).1 h)
        rw [if_neg hne, c1.2 hlt, if_pos (by simp), if_pos rfl, awake_ev K k0, Option.bind_some]
  · rw [tear_not A B y2 y3 (q : Int) (b : Int) (i : Int) (e : Int) a1_4 (cut : Int) (Or.inl hm) (K + 2) y1, tear_not A B y2 y3 (q : Int) (b : Int) (i : Int) (e : Int) a1_4 9223372036854775807 (Or.inl hm) (K + 2) y1, Option.bind_some, Option.bind_some]
    simp only []
    rw [if_neg (by decide)]
    simp only [tattlelaw16_DiskTears.j0]
    rw [if_pos trivial, if_pos trivial, if_pos ((pair_eq _ _ _ _).2 rfl), if_pos ((pair_eq _ _ _ _).2 rfl), awake_ev (K + 1) k1, Option.bind_some]

end Go.Proofs.Ytldeanlnfhgjfaa.Pure
