/- For any disk, what is to be saved, and any cut: the place that has what is read stays. No condition beyond the row's own. -/
import Derived.Test.YtldeanlnfhgjfaaFnsDiskTurnsAbout
namespace Go.Proofs.Ytldeanlnfhgjfaa.Pure
open Go.RowKit Go.Proofs.Ytldeanlnfhgjfaa.PDiskTurnsAbout Go.Proofs.YtldeanlnfhgjfaaW.PrintWords Go.Proofs.YtldeanlnfhgjfaaW.PrintLast Go.Proofs.YtldeanlnfhgjfaaW.PrintMore Go.Proofs.Ytldeanlnfhgjfaa.WMath Go.Proofs.Ytldeanlnfhgjfaa.FnsDiskTurnsAbout
set_option linter.unusedVariables false

theorem about_j1 (x A B X Y : ByteArray) (w : S) (hx : x.size < 1000) (h : (X, Y) = (A, B) ∨ par x = some w) (k : Nat) (hk : 200 ≤ k) :
    tattlelaw16_DiskTurnsAbout.j1 k x A B (w.q : Int) (w.b : Int) (w.i : Int) (w.e : Int) w.o X Y = some true := by
  obtain ⟨k, rfl⟩ : ∃ m, k = m + 1 := ⟨k - 1, by omega⟩
  simp only [tattlelaw16_DiskTurnsAbout.j1]
  by_cases hp : (X, Y) = (A, B)
  · rw [if_pos ((pair_eq _ _ _ _).2 hp), awake_ev k (by omega), Option.bind_some]
  · have hpar : par x = some w := by rcases h with h | h; exact absurd h hp; exact h
    have he : errI x = 0 := (errI_zero x).2 (by rw [hpar]; simp)
    rw [if_neg (fun h => hp ((pair_eq _ _ _ _).1 h)), parse_ev x (by omega) k (by omega), Option.bind_some, hpar, he]
    simp only [sv]
    rw [if_pos (by simp), if_pos trivial, awake_ev k (by omega), Option.bind_some]

theorem DiskTurnsAbout (a0_0 a0_1 : ByteArray) (a1_0 a1_1 a1_2 a1_3 a1_4 a2 : Int) (w0 : a0_0.size ≤ maxLen) (w1 : a0_1.size ≤ maxLen)
    (w2 : (Lit.int .u64 a1_0).wf = true) (w3 : (Lit.int .u64 a1_1).wf = true) (w4 : (Lit.int .u64 a1_2).wf = true) (w5 : (Lit.int .u64 a1_3).wf = true) (w6 : (Lit.int .i64 a1_4).wf = true) (w7 : (Lit.int .u8 a2).wf = true) :
    ∃ k, tattlelaw16_DiskTurnsAbout.f k a0_0 a0_1 a1_0 a1_1 a1_2 a1_3 a1_4 a2 = some true := by
  suffices H : ∀ K, 300 ≤ K → tattlelaw16_DiskTurnsAbout.f K a0_0 a0_1 a1_0 a1_1 a1_2 a1_3 a1_4 a2 = some true from ⟨300, H 300 (Nat.le_refl _)⟩
  intro K hK
  obtain ⟨K, rfl⟩ : ∃ m, K = m + 2 := ⟨K - 2, by omega⟩
  obtain ⟨q, rfl, hq⟩ := u64_nat a1_0 w2
  obtain ⟨b, rfl, hb⟩ := u64_nat a1_1 w3
  obtain ⟨i, rfl, hi⟩ := u64_nat a1_2 w4
  obtain ⟨e, rfl, he⟩ := u64_nat a1_3 w5
  obtain ⟨cut, rfl, hcut⟩ := u8_nat a2 w7
  have s1 := few2_size a0_0
  have s2 := few2_size a0_1
  unfold tattlelaw16_DiskTurnsAbout.f
  rw [few2_ev, Option.bind_some]
  simp only []
  generalize few2 a0_0 = A at *
  generalize few2 a0_1 = B at *
  have hwc : wrap64 (cut : Int) = (cut : Int) := by unfold wrap64; omega
  have y0 : 60 ≤ K + 2 := by omega
  have y1 : 200 ≤ K + 2 := by omega
  have y2 : A.size < 4611686018427387904 := by omega
  have y3 : B.size < 4611686018427387904 := by omega
  have y4 : (0 : Int) ≤ (cut : Int) := Int.natCast_nonneg cut
  have y5 : (0 : Int) ≤ 9223372036854775807 := by decide
  have k0 : 100 ≤ K := by omega
  have k1 : 100 ≤ K + 1 := by omega
  have k2 : 100 ≤ K + 2 := by omega
  have k3 : 60 ≤ K + 1 := by omega
  have k4 : 200 ≤ K + 1 := by omega
  rw [read_ev A B y2 y3 (K + 2) y0, Option.bind_some, hwc]
  simp only []
  by_cases hm : -1 ≤ a1_4 ∧ a1_4 ≤ 63
  · by_cases hf : full (readD A B)
    · rw [tear_full A B y2 y3 (q : Int) (b : Int) (i : Int) (e : Int) a1_4 hm (cut : Int) y4 (K + 2) y1 hf, Option.bind_some]
      simp only []
      rw [if_neg (by decide), if_pos ((pair_eq _ _ _ _).2 rfl), awake_ev (K + 2) k2, Option.bind_some]
    · have hs : good ⟨q, b, i, e, a1_4⟩ := ⟨hq, hb, hi, he, hm.1, hm.2⟩
      have t1 := tear_ev A B y2 y3 ⟨q, b, i, e, a1_4⟩ hs cut (K + 2) y1 hf
      have hg := next_good _ hs A B hf
      have hl := lay_le _ hg
      simp only [] at t1
      rw [t1, Option.bind_some]
      simp only []
      rw [if_pos trivial]
      unfold readD
      cases hn : newest A B with
      | none =>
        obtain ⟨X, hX⟩ : ∃ X, tear A B ⟨q, b, i, e, a1_4⟩ cut = (X, B) := by unfold tear; rw [hn]; exact ⟨_, rfl⟩
        rw [hX]
        simp only [Option.map_none, sv, Option.isSome_none]
        have h6 : (if false = true then (0 : Int) else 6) = 6 := by decide
        rw [h6]
        by_cases hXA : X.toList = A.toList
        · rw [if_pos hXA]
          simp only [tattlelaw16_DiskTurnsAbout.j0]
          rw [if_neg (by simp), if_neg (by decide), if_pos trivial, awake_ev (K + 1) k1, Option.bind_some]
        · have hbb : (B.toList != B.toList) = false := by rw [bne_eq_false_iff_eq]
          rw [if_neg hXA, hbb]
          simp only [tattlelaw16_DiskTurnsAbout.j0]
          rw [if_neg (by simp), if_neg (by decide), if_pos trivial, awake_ev (K + 1) k1, Option.bind_some]
      | some r =>
        obtain ⟨w, c⟩ := r
        cases c with
        | false =>
          have hA := newest_first hn
          obtain ⟨X, hX⟩ : ∃ X, tear A B ⟨q, b, i, e, a1_4⟩ cut = (A, X) := by unfold tear; rw [hn]; exact ⟨_, rfl⟩
          rw [hX]
          simp only [Option.map_some, sv, Option.isSome_some, if_true]
          simp only [tattlelaw16_DiskTurnsAbout.j0]
          rw [if_neg (by simp), if_pos trivial, if_pos trivial]
          exact about_j1 A A B A X w (by omega) (Or.inr hA) (K + 1) k4
        | true =>
          have hB := newest_second hn
          obtain ⟨X, hX⟩ : ∃ X, tear A B ⟨q, b, i, e, a1_4⟩ cut = (X, B) := by unfold tear; rw [hn]; exact ⟨_, rfl⟩
          rw [hX]
          simp only [Option.map_some, sv, Option.isSome_some, if_true]
          by_cases hXA : X.toList = A.toList
          · obtain rfl := tl_eq.1 hXA
            rw [if_pos hXA]
            simp only [tattlelaw16_DiskTurnsAbout.j0]
            rw [if_neg (by simp), if_pos trivial, if_pos trivial]
            exact about_j1 X X B X B w (by omega) (Or.inl rfl) (K + 1) k4
          · have hbb : (B.toList != B.toList) = false := by rw [bne_eq_false_iff_eq]
            rw [if_neg hXA, hbb]
            simp only [tattlelaw16_DiskTurnsAbout.j0]
            rw [if_neg (by simp), if_pos trivial, if_neg hXA]
            exact about_j1 B A B X B w (by omega) (Or.inr hB) (K + 1) k4
  · rw [tear_not A B y2 y3 (q : Int) (b : Int) (i : Int) (e : Int) a1_4 (cut : Int) (Or.inl hm) (K + 2) y1, Option.bind_some]
    simp only []
    rw [if_neg (by decide), if_pos ((pair_eq _ _ _ _).2 rfl), awake_ev (K + 2) k2, Option.bind_some]

end Go.Proofs.Ytldeanlnfhgjfaa.Pure
