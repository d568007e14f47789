/- For any disk, what is to be saved, and any cut: the program's disk then is the document's, whole, and torn, or why not. No condition beyond the row's own. -/
import Derived.Test.YtldeanlnfhgjfaaFnsDiskWrites
namespace Go.Proofs.Ytldeanlnfhgjfaa.Pure
open Go.RowKit Go.Proofs.Ytldeanlnfhgjfaa.PDiskWrites Go.Proofs.YtldeanlnfhgjfaaW.PrintWords Go.Proofs.YtldeanlnfhgjfaaW.PrintLast Go.Proofs.YtldeanlnfhgjfaaW.PrintMore Go.Proofs.Ytldeanlnfhgjfaa.WMath Go.Proofs.Ytldeanlnfhgjfaa.FnsDiskWrites
set_option linter.unusedVariables false

/-- the same, whatever the cut -/
theorem same_tear (A B : ByteArray) (hA : A.size ≤ 200) (hB : B.size ≤ 200) (q b i e : Nat) (o : Int) (hq : q < 18446744073709551616) (hb : b < 18446744073709551616) (hi : i < 18446744073709551616) (he : e < 18446744073709551616) (cut : Int) (k : Nat) (hk : 50001 ≤ k) :
    ∃ r, disk_Tear.f k A B (q : Int) (b : Int) (i : Int) (e : Int) o cut = some r ∧ tattleref16_Tear.f k A B (q : Int) (b : Int) (i : Int) (e : Int) o cut = some r := by
  have y2 : A.size < 4611686018427387904 := by omega
  have y3 : B.size < 4611686018427387904 := by omega
  have y1 : 200 ≤ k := by omega
  by_cases hm : ¬ (-1 ≤ o ∧ o ≤ 63) ∨ cut < 0
  · exact ⟨_, tear_not A B y2 y3 _ _ _ _ _ _ hm k y1, rtear_not A B _ _ _ _ _ _ hm k hk⟩
  · have hc : 0 ≤ cut := by rcases Int.lt_or_le cut 0 with h | h; exact absurd (Or.inr h) hm; exact h
    have ho : -1 ≤ o ∧ o ≤ 63 := by
      by_cases h : -1 ≤ o ∧ o ≤ 63
      · exact h
      · exact absurd (Or.inl h) hm
    obtain ⟨c, rfl⟩ : ∃ c : Nat, cut = (c : Int) := ⟨cut.toNat, by omega⟩
    by_cases hf : full (readD A B)
    · exact ⟨_, tear_full A B y2 y3 _ _ _ _ _ ho _ hc k y1 hf, rtear_full A B y2 y3 _ _ _ _ _ ho _ hc k hk hf⟩
    · have hs : good ⟨q, b, i, e, o⟩ := ⟨hq, hb, hi, he, ho.1, ho.2⟩
      exact ⟨_, tear_ev A B y2 y3 ⟨q, b, i, e, o⟩ hs c k y1 hf, rtear_ev A B y2 y3 ⟨q, b, i, e, o⟩ hs c k hk hf⟩
/-- whole: 1000 octets are as good as all -/
theorem whole_tear (A B : ByteArray) (hA : A.size ≤ 200) (hB : B.size ≤ 200) (q b i e : Nat) (o : Int) (hq : q < 18446744073709551616) (hb : b < 18446744073709551616) (hi : i < 18446744073709551616) (he : e < 18446744073709551616) (k : Nat) (hk : 50001 ≤ k) :
    disk_Tear.f k A B (q : Int) (b : Int) (i : Int) (e : Int) o 9223372036854775807 = disk_Tear.f k A B (q : Int) (b : Int) (i : Int) (e : Int) o 1000 := by
  have y2 : A.size < 4611686018427387904 := by omega
  have y3 : B.size < 4611686018427387904 := by omega
  have y1 : 200 ≤ k := by omega
  by_cases ho : -1 ≤ o ∧ o ≤ 63
  · by_cases hf : full (readD A B)
    · rw [tear_full A B y2 y3 _ _ _ _ _ ho _ (by decide) k y1 hf, tear_full A B y2 y3 _ _ _ _ _ ho _ (by decide) k y1 hf]
    · have hs : good ⟨q, b, i, e, o⟩ := ⟨hq, hb, hi, he, ho.1, ho.2⟩
      have hl := lay_le _ (next_good _ hs A B hf)
      have e1 := tear_ev A B y2 y3 ⟨q, b, i, e, o⟩ hs 9223372036854775807 k y1 hf
      have e2 := tear_ev A B y2 y3 ⟨q, b, i, e, o⟩ hs 1000 k y1 hf
      rw [tear_past A B ⟨q, b, i, e, o⟩ 9223372036854775807 1000 (by omega) (by omega)] at e1
      exact e1.trans e2.symm
  · rw [tear_not A B y2 y3 _ _ _ _ _ _ (Or.inl ho) k y1, tear_not A B y2 y3 _ _ _ _ _ _ (Or.inl ho) k y1]

theorem DiskWrites (a0_0 a0_1 : ByteArray) (a1_0 a1_1 a1_2 a1_3 a1_4 a2 : Int) (w0 : a0_0.size ≤ maxLen) (w1 : a0_1.size ≤ maxLen)
    (w2 : (Lit.int .u64 a1_0).wf = true) (w3 : (Lit.int .u64 a1_1).wf = true) (w4 : (Lit.int .u64 a1_2).wf = true) (w5 : (Lit.int .u64 a1_3).wf = true) (w6 : (Lit.int .i64 a1_4).wf = true) (w7 : (Lit.int .i64 a2).wf = true) :
    ∃ k, tattlelaw16_DiskWrites.f k a0_0 a0_1 a1_0 a1_1 a1_2 a1_3 a1_4 a2 = some true := by
  suffices H : ∀ K, 50001 ≤ K → tattlelaw16_DiskWrites.f K a0_0 a0_1 a1_0 a1_1 a1_2 a1_3 a1_4 a2 = some true from ⟨50001, H 50001 (Nat.le_refl _)⟩
  intro K hK
  have ka : 100 ≤ K := by omega
  obtain ⟨q, rfl, hq⟩ := u64_nat a1_0 w2
  obtain ⟨b, rfl, hb⟩ := u64_nat a1_1 w3
  obtain ⟨i, rfl, hi⟩ := u64_nat a1_2 w4
  obtain ⟨e, rfl, he⟩ := u64_nat a1_3 w5
  have s1 := few2_size a0_0
  have s2 := few2_size a0_1
  unfold tattlelaw16_DiskWrites.f
  rw [few2_ev, Option.bind_some]
  simp only []
  generalize few2 a0_0 = A at *
  generalize few2 a0_1 = B at *
  rw [write_ev, whole_tear A B s1 s2 q b i e a1_4 hq hb hi he K hK]
  obtain ⟨r, e1, e2⟩ := same_tear A B s1 s2 q b i e a1_4 hq hb hi he 1000 K hK
  obtain ⟨v, e3, e4⟩ := same_tear A B s1 s2 q b i e a1_4 hq hb hi he a2 K hK
  rw [e1, e2, e3, e4, Option.bind_some, Option.bind_some, Option.bind_some, Option.bind_some, if_pos (by simp), if_pos rfl, if_pos (by simp), if_pos rfl, awake_ev K ka, Option.bind_some]

end Go.Proofs.Ytldeanlnfhgjfaa.Pure
