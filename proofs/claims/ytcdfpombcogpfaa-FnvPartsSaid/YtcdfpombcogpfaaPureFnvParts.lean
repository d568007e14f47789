/- For every text and any cuts, the sum of the parts is the text's sum. No condition beyond the row's own. -/
import Derived.Test.YtcdfpombcogpfaaFnsFnvParts
namespace Go.Proofs.Ytcdfpombcogpfaa.Pure
open Go.RowKit Go.Proofs.Ytcdfpombcogpfaa.PFnvParts Go.Proofs.YtcdfpombcogpfaaW.PrintWords Go.Proofs.YtcdfpombcogpfaaW.PrintLast Go.Proofs.Ytcdfpombcogpfaa.FnvMath Go.Proofs.Ytcdfpombcogpfaa.FnsFnvParts
set_option linter.unusedVariables false

theorem bl_cut (s : ByteArray) (k : Nat) : bl (s.extract 0 k) ++ bl (s.extract k s.size) = bl s := by
  rw [← bl_append]; congr 1; simp

theorem u8_rd (l : List Int) (h : ∀ x ∈ l, (Lit.int .u8 x).wf = true) (i : Nat) (hi : i < l.length) : ∃ c : Nat, c ≤ 255 ∧ rd l (i : Int) = (c : Int) := by
  have hr : rd l (i : Int) = l[i] := by simp [rd, List.getD, hi]
  have hw := h l[i] (List.getElem_mem hi)
  have : IntKind.u8.min ≤ l[i] ∧ l[i] ≤ IntKind.u8.max := by simpa [Lit.wf] using hw
  have : 0 ≤ l[i] ∧ l[i] ≤ 255 := by simpa [IntKind.min, IntKind.max, IntKind.bits, IntKind.signed] using this
  exact ⟨l[i].toNat, by omega, by rw [hr]; omega⟩

theorem parts_end (s : ByteArray) (hs : s.size ≤ 300) (k : Nat) (hk : 900 < k) (ps : List ByteArray) (r : ByteArray)
    (hp : ∀ x ∈ ps ++ [r], x.size ≤ 300) (hl : ps.length ≤ 10) (e : all (ps ++ [r]) = bl s) :
    fnv_Sum.f k (ps ++ [r]) = some (U (on F (bl s))) ∧ fnv_Sum.f k [s] = some (U (on F (bl s))) := by
  constructor
  · rw [sum_ev (ps ++ [r]) 300 (by omega) hp (by simp; omega) k (by simp; omega), e]
  · rw [sum_ev [s] 300 (by omega) (by simp; omega) (by simp) k (by simp; omega)]; simp [all]

theorem parts_l0 (s : ByteArray) (hs : s.size ≤ 300) (l : List Int) (hl : l.length < 4611686018427387904) (hw : ∀ x ∈ l, (Lit.int .u8 x).wf = true) (d : Nat) : ∀ (k : Nat) (ps : List ByteArray) (r : ByteArray) (i : Nat), i + d = 10 → d + 1000 < k →
    (∀ x ∈ ps ++ [r], x.size ≤ 300) → ps.length = i → all (ps ++ [r]) = bl s →
    tattlelaw12_FnvParts.l0 k s l ps r (i : Int) = some true := by
  induction d with
  | zero =>
    intro k ps r i hi hk hp hn e
    obtain ⟨k, rfl⟩ : ∃ m, k = m + 1 := ⟨k - 1, by omega⟩
    obtain ⟨g1, g2⟩ := parts_end s hs k (by omega) ps r hp (by omega) e
    simp only [tattlelaw12_FnvParts.l0]
    by_cases hlt : (i : Int) < (l.length : Int)
    · rw [if_pos hlt, if_neg (by omega), if_pos (by omega), g1, g2]
      simp only [Option.bind_some, if_true, awake_ev k (by omega)]
    · rw [if_neg hlt, if_pos (by omega), g1, g2]
      simp only [Option.bind_some, if_true, awake_ev k (by omega)]
  | succ d ih =>
    intro k ps r i hi hk hp hn e
    obtain ⟨k, rfl⟩ : ∃ m, k = m + 1 := ⟨k - 1, by omega⟩
    obtain ⟨g1, g2⟩ := parts_end s hs k (by omega) ps r hp (by omega) e
    have hr : r.size ≤ 300 := hp r (by simp)
    simp only [tattlelaw12_FnvParts.l0]
    by_cases hlt : (i : Int) < (l.length : Int)
    · obtain ⟨c, hc, ec⟩ := u8_rd l hw i (by omega)
      have w1 : wrap64 ((r.size : Int) + 1) = ((r.size + 1 : Nat) : Int) := by unfold wrap64; omega
      have w2 : wrap64 (c : Int) = (c : Int) := by unfold wrap64; omega
      have w3 : Int.tmod (c : Int) ((r.size + 1 : Nat) : Int) = ((c % (r.size + 1) : Nat) : Int) := by
        rw [Int.tmod_eq_emod_of_nonneg (Int.natCast_nonneg c)]; exact (Int.natCast_emod c (r.size + 1)).symm
      have hm : c % (r.size + 1) ≤ r.size := by have := Nat.mod_lt c (show r.size + 1 > 0 by omega); omega
      rw [ec, w1, w2, w3]
      generalize c % (r.size + 1) = m at *
      rw [if_pos hlt, if_pos (by omega), if_pos (by omega), if_neg (by omega), if_pos (by omega), if_pos (by omega), if_pos (by omega), Int.toNat_natCast, wrap_nat (by omega)]
      have hcut := bl_cut r m
      have e' : all (ps ++ [r.extract 0 m] ++ [r.extract m r.size]) = bl s := by
        rw [← e]; simp only [all, List.flatMap_append, List.flatMap_cons, List.flatMap_nil, List.append_nil, List.append_assoc, hcut]
      refine ih k _ _ (i + 1) (by omega) (by omega) ?_ (by simp [hn]) e'
      intro x hx
      simp only [List.mem_append, List.mem_singleton] at hx
      rcases hx with (hx | rfl) | rfl
      · exact hp x (by simp [hx])
      · simp; omega
      · simp; omega
    · rw [if_neg hlt, if_pos (by omega), g1, g2]
      simp only [Option.bind_some, if_true, awake_ev k (by omega)]

theorem FnvParts : tattlelaw12_FnvParts.Pure := by
  intro a0 l1 w0 w1 w2 w3
  suffices H : ∀ K, 2000 ≤ K → tattlelaw12_FnvParts.f K a0 l1 = some true from ⟨2000, H 2000 (Nat.le_refl _)⟩
  intro K hK
  have s1 := few_size a0
  unfold tattlelaw12_FnvParts.f
  simp only [few_ev, Option.bind_some]
  generalize few a0 = s at *
  have h := parts_l0 s s1 l1 (by unfold maxLen at w1; omega) w3 10 K [] s 0 (by omega) (by omega) (by simpa using s1) rfl (by simp [all])
  rw [Int.natCast_zero] at h
  exact h

end Go.Proofs.Ytcdfpombcogpfaa.Pure
