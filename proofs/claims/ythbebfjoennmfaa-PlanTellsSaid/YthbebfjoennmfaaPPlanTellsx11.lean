-- Written by a program of this session (see NOTES.md) out of the print of Lean's own loaded functions; Lean checks it.
import Derived.Test.YthbebfjoennmfaaPPlanTellsx0
import Derived.Test.YthbebfjoennmfaaPPlanTellsx9
namespace Go.Proofs.Ythbebfjoennmfaa.PPlanTells
open Go.RowKit Go.Proofs.YthbebfjoennmfaaW.PrintWords Go.Proofs.YthbebfjoennmfaaW.PrintLast Go.Proofs.YthbebfjoennmfaaW.PrintMore
attribute [local go_sem] max2_int min2_int max_two min_two max_three min_three max_four min_four   -- for this text's walks alone
set_option linter.unusedVariables false
set_option linter.unusedSimpArgs false

/-! ### tattleref15_Apply: function 21 -/
mutual
def tattleref15_Apply.l0 : Nat → List (S52) → List (S36) → List (S52) → List ByteArray → Int → Option ((List (S52)) × Int)
  | 0, _, _, _, _, _ => none
  | k + 1, x0, x1, x6, x7, x8 => if x8 < (x7.length : Int) then (if 0 ≤ x8 then ((tattleref15_At.f k x0 (rdOf ByteArray.empty x7 x8)).bind fun t224 => (tattleref15_Apply.l1 k x0 x1 x6 x7 x8 t224 0)) else (none)) else (if (x6.length : Int) > 100 then (some (([] : List (S52)), 9)) else (some (x6, 0)))
def tattleref15_Apply.l1 : Nat → List (S52) → List (S36) → List (S52) → List ByteArray → Int → Int → Int → Option ((List (S52)) × Int)
  | 0, _, _, _, _, _, _, _ => none
  | k + 1, x0, x1, x6, x7, x8, x9, x10 => if x10 < (x1.length : Int) then (if 0 ≤ x10 then (if 0 ≤ x8 then (if x8 < (x7.length : Int) then (if ((rd_T36 x1 x10).f0).toList = (rdOf ByteArray.empty x7 x8).toList then ((tattleref15_At.f k x0 (rdOf ByteArray.empty x7 x8)).bind fun t233 => (if ((rd_T36 x1 x10).f1) = t233 then (tattleref15_Apply.l1 k x0 x1 x6 x7 x8 ((rd_T36 x1 x10).f2) (wrap64 (x10 + 1))) else (some (([] : List (S52)), 8)))) else (tattleref15_Apply.l1 k x0 x1 x6 x7 x8 x9 (wrap64 (x10 + 1)))) else (none)) else (none)) else (none)) else (if x9 ≥ 0 then (if 0 ≤ x8 then (if x8 < (x7.length : Int) then (if x6.length < 5864062014805 then (tattleref15_Apply.l0 k x0 x1 (x6 ++ [(⟨rdOf ByteArray.empty x7 x8, x9⟩ : S52)]) x7 (wrap64 (x8 + 1))) else (none)) else (none)) else (none)) else (tattleref15_Apply.l0 k x0 x1 x6 x7 (wrap64 (x8 + 1))))
end
def tattleref15_Apply.f (k : Nat) (l0 : List (S52)) (l1 : List (S36)) : Option ((List (S52)) × Int) := (tattleref15_names.f k l0 ([] : List (S52)) l1).bind fun t220 => (tattleref15_Apply.l0 k l0 l1 ([] : List (S52)) t220 0)
theorem tattleref15_Apply.mono_l : ∀ k, (∀ y0 y1 y2 y3 y4, LeO (tattleref15_Apply.l0 k y0 y1 y2 y3 y4) (tattleref15_Apply.l0 (k + 1) y0 y1 y2 y3 y4)) ∧ (∀ y0 y1 y2 y3 y4 y5 y6, LeO (tattleref15_Apply.l1 k y0 y1 y2 y3 y4 y5 y6) (tattleref15_Apply.l1 (k + 1) y0 y1 y2 y3 y4 y5 y6))
  | 0 => ⟨fun _ _ _ _ _ r h => by simp [tattleref15_Apply.l0] at h, fun _ _ _ _ _ _ _ r h => by simp [tattleref15_Apply.l1] at h⟩
  | k + 1 => by
    obtain ⟨ih0, ih1⟩ := tattleref15_Apply.mono_l k
    refine ⟨?_, ?_⟩
    · intro y0 y1 y2 y3 y4
      unfold tattleref15_Apply.l0
      repeat' first
      | (with_reducible exact ih0 _ _ _ _ _)
      | (with_reducible exact ih1 _ _ _ _ _ _ _)
      | (with_reducible exact tattleref15_At.mono _ _ _)
      | (with_reducible exact tattleref15_names.mono _ _ _ _)
      | (with_reducible exact LeO.refl _)
      | (with_reducible exact LeO.none _)
      | (with_reducible refine LeO.ite ?_ ?_)
      | (with_reducible refine LeO.bind ?_ (fun _ => ?_))
      | exact ih0 _ _ _ _ _
      | exact ih1 _ _ _ _ _ _ _
      | exact tattleref15_At.mono _ _ _
      | exact tattleref15_names.mono _ _ _ _
      | exact LeO.none _
      | refine LeO.ite ?_ ?_
      | refine LeO.bind ?_ (fun _ => ?_)
    · intro y0 y1 y2 y3 y4 y5 y6
      unfold tattleref15_Apply.l1
      repeat' first
      | (with_reducible exact ih0 _ _ _ _ _)
      | (with_reducible exact ih1 _ _ _ _ _ _ _)
      | (with_reducible exact tattleref15_At.mono _ _ _)
      | (with_reducible exact tattleref15_names.mono _ _ _ _)
      | (with_reducible exact LeO.refl _)
      | (with_reducible exact LeO.none _)
      | (with_reducible refine LeO.ite ?_ ?_)
      | (with_reducible refine LeO.bind ?_ (fun _ => ?_))
      | exact ih0 _ _ _ _ _
      | exact ih1 _ _ _ _ _ _ _
      | exact tattleref15_At.mono _ _ _
      | exact tattleref15_names.mono _ _ _ _
      | exact LeO.none _
      | refine LeO.ite ?_ ?_
      | refine LeO.bind ?_ (fun _ => ?_)
theorem tattleref15_Apply.mono : ∀ a0 a1 k, LeO (tattleref15_Apply.f k a0 a1) (tattleref15_Apply.f (k + 1) a0 a1) := by
  intro a0 a1 k
  obtain ⟨ih0, ih1⟩ := tattleref15_Apply.mono_l k
  unfold tattleref15_Apply.f
  repeat' first
      | (with_reducible exact ih0 _ _ _ _ _)
      | (with_reducible exact ih1 _ _ _ _ _ _ _)
      | (with_reducible exact tattleref15_At.mono _ _ _)
      | (with_reducible exact tattleref15_names.mono _ _ _ _)
      | (with_reducible exact LeO.refl _)
      | (with_reducible exact LeO.none _)
      | (with_reducible refine LeO.ite ?_ ?_)
      | (with_reducible refine LeO.bind ?_ (fun _ => ?_))
      | exact ih0 _ _ _ _ _
      | exact ih1 _ _ _ _ _ _ _
      | exact tattleref15_At.mono _ _ _
      | exact tattleref15_names.mono _ _ _ _
      | exact LeO.none _
      | refine LeO.ite ?_ ?_
      | refine LeO.bind ?_ (fun _ => ?_)
set_option maxHeartbeats 8000000 in
set_option maxRecDepth 100000 in
theorem tattleref15_Apply.calls (k : Nat) (A0 : Option Addr) (c0 : Nat) (l0 : List (S52)) (A1 : Option Addr) (c1 : Nat) (l1 : List (S36)) (r1 : List (S52)) (r2 : Int) (w : World) (hr0 : Kd.C k52 w A0 l0.length l0) (hc0 : l0.length ≤ c0) (hr1 : Kd.C k36 w A1 l1.length l1) (hc1 : l1.length ≤ c1) (h : tattleref15_Apply.f k l0 l1 = some (r1, r2)) :
    Calls Try.prog 21 #[.slice A0 l0.length c0, .slice A1 l1.length c1] w fun e w' => ∃ v0_ : Value, e = .returned (.tuple #[v0_, .int .i64 r2]) ∧ Kd.R k52 52 w' w.heap.size (fun _ => True) v0_ r1 ∧ Below w.heap.size w w' := by
  have hu52 := Try.underlying52
  have HR0 := Aside0.mk hr0
  have HC0 := Aside0.mk hc0
  clear hr0 hc0
  have HR1 := Aside0.mk hr1
  have HC1 := Aside0.mk hc1
  clear hr1 hc1
  have HB := Aside0.mk (Below.refl w.heap.size w)
  have H : ((tattleref15_names.f k l0 ([] : List (S52)) l1).bind fun t220 => (tattleref15_Apply.l0 k l0 l1 ([] : List (S52)) t220 0)) = some (r1, r2) := h
  clear h
  replace H := Option.bind_eq_some_iff.mp H
  obtain ⟨t220, A30, H⟩ := H
  replace H : (tattleref15_Apply.l0 k l0 l1 ([] : List (S52)) t220 0) = some (r1, r2) := H
  have A3 := Aside0.mk A30
  clear A30
  have H' := Aside0.mk H
  clear H
  go_enter Try.func21, Try.ntmps21
  go_wp2_with (first | (go_at_call 27; (refine (tattleref15_names.calls k _ _ l0 _ _ ([] : List (S52)) _ _ l1 t220 _ ?side1 ?side2 ?side3 ?side4 ?side5 ?side6 A3.out).mono ?_); (case side1 => repeat (first | exact HR0.out | (with_reducible refine Kd.C_alloc ?_ _) | (with_reducible refine Kd.C_drewN ?_ _) | (with_reducible refine Kd.C_drew ?_))); (case side2 => exact HC0.out); (case side3 => exact Kd.C_nil _ _); (case side4 => exact Nat.le_refl _); (case side5 => repeat (first | exact HR1.out | (with_reducible refine Kd.C_alloc ?_ _) | (with_reducible refine Kd.C_drewN ?_ _) | (with_reducible refine Kd.C_drew ?_))); (case side6 => exact HC1.out); rintro e w4 ⟨v221, rfl, ho0, hb⟩; have n0_ := Aside0.mk (Kd.R_lower ho0 (below_size (by repeat (first | (with_reducible first | exact HB.out | apply below_alloc | apply pw_below_drewN | apply below_drew1) | exact HB.out)))); have n1_ := Aside0.mk (below_step (by repeat (first | (with_reducible first | exact HB.out | apply below_alloc | apply pw_below_drewN | apply below_drew1) | exact HB.out)) hb); clear HB; have HO222 := n0_; have HB := n1_; clear n0_ n1_; (try clear hb); (try clear hb2); (try clear hk); (try clear hi); (try clear ho0)))
  repeat (go_quiet (first | (go_at_call 27; (refine (tattleref15_names.calls k _ _ l0 _ _ ([] : List (S52)) _ _ l1 t220 _ ?side1 ?side2 ?side3 ?side4 ?side5 ?side6 A3.out).mono ?_); (case side1 => repeat (first | exact HR0.out | (with_reducible refine Kd.C_alloc ?_ _) | (with_reducible refine Kd.C_drewN ?_ _) | (with_reducible refine Kd.C_drew ?_))); (case side2 => exact HC0.out); (case side3 => exact Kd.C_nil _ _); (case side4 => exact Nat.le_refl _); (case side5 => repeat (first | exact HR1.out | (with_reducible refine Kd.C_alloc ?_ _) | (with_reducible refine Kd.C_drewN ?_ _) | (with_reducible refine Kd.C_drew ?_))); (case side6 => exact HC1.out); rintro e w4 ⟨v221, rfl, ho0, hb⟩; have n0_ := Aside0.mk (Kd.R_lower ho0 (below_size (by repeat (first | (with_reducible first | exact HB.out | apply below_alloc | apply pw_below_drewN | apply below_drew1) | exact HB.out)))); have n1_ := Aside0.mk (below_step (by repeat (first | (with_reducible first | exact HB.out | apply below_alloc | apply pw_below_drewN | apply below_drew1) | exact HB.out)) hb); clear HB; have HO222 := n0_; have HB := n1_; clear n0_ n1_; (try clear hb); (try clear hb2); (try clear hk); (try clear hi); (try clear ho0))); try go_wp2_with (first | (go_at_call 27; (refine (tattleref15_names.calls k _ _ l0 _ _ ([] : List (S52)) _ _ l1 t220 _ ?side1 ?side2 ?side3 ?side4 ?side5 ?side6 A3.out).mono ?_); (case side1 => repeat (first | exact HR0.out | (with_reducible refine Kd.C_alloc ?_ _) | (with_reducible refine Kd.C_drewN ?_ _) | (with_reducible refine Kd.C_drew ?_))); (case side2 => exact HC0.out); (case side3 => exact Kd.C_nil _ _); (case side4 => exact Nat.le_refl _); (case side5 => repeat (first | exact HR1.out | (with_reducible refine Kd.C_alloc ?_ _) | (with_reducible refine Kd.C_drewN ?_ _) | (with_reducible refine Kd.C_drew ?_))); (case side6 => exact HC1.out); rintro e w4 ⟨v221, rfl, ho0, hb⟩; have n0_ := Aside0.mk (Kd.R_lower ho0 (below_size (by repeat (first | (with_reducible first | exact HB.out | apply below_alloc | apply pw_below_drewN | apply below_drew1) | exact HB.out)))); have n1_ := Aside0.mk (below_step (by repeat (first | (with_reducible first | exact HB.out | apply below_alloc | apply pw_below_drewN | apply below_drew1) | exact HB.out)) hb); clear HB; have HO222 := n0_; have HB := n1_; clear n0_ n1_; (try clear hb); (try clear hb2); (try clear hk); (try clear hi); (try clear ho0))))
  go_loopg [6, 8] k (fun kq v6 v8 w' => ∃ (x6_1 : List (S52)) (x8_1 : Int), v8 = .int .i64 x8_1 ∧ Aside0 (tattleref15_Apply.l0 kq l0 l1 x6_1 t220 x8_1 = some (r1, r2)) ∧ Aside0 (kq ≤ k) ∧ Aside0 (Kd.R k52 52 w' w.heap.size (fun _ => True) v6 x6_1) ∧ Aside0 (Kd.R Kd.string 9 w' w.heap.size (fun _ => True) v221 t220) ∧ Aside0 (Below w.heap.size w w'))
  case atStart => exact ⟨(([] : List (S52))), (0), (by first | rfl | (simp; done) | (simp [*]; done)), H', ⟨Nat.le_refl _⟩, ⟨by first | exact Kd.R_nil _ _ _ _ _ | exact Kd.N_nil _ _ _ _ _ | exact Kd.V_nil _ _ _ _ _ | exact Kd.Q_nil _ _ _ _ _ | exact Kd.S_nil _ _ _ _ _⟩, ⟨by (with_reducible repeat (first | apply Kd.R_alloc | apply Kd.R_drewN | apply Kd.R_drew)); exact HO222.out⟩, ⟨by repeat (first | (with_reducible first | exact HB.out | apply below_alloc | apply pw_below_drewN | apply below_drew1) | exact HB.out)⟩⟩
  case round =>
    clear H'
    try clear c1
    try clear c2
    try clear p2
    obtain ⟨x6_1, x8_1, rfl, HA, HK1, HO_6, HO_7, HB⟩ := hrel
    cases gk with
    | zero => exact absurd HA.out (by simp [tattleref15_Apply.l0])
    | succ k1 =>
      have H := HA.out
      clear HA
      simp only [tattleref15_Apply.l0] at H
      by_cases c5 : x8_1 < (t220.length : Int)
      · rw [if_pos c5] at H
        have c5b0 : decide (x8_1 < (t220.length : Int)) = true := decide_eq_true c5
        clear c5
        by_cases c6 : 0 ≤ x8_1
        · rw [if_pos c6] at H
          have c6b0 : decide (0 ≤ x8_1) = true := decide_eq_true c6
          clear c6
          replace H := Option.bind_eq_some_iff.mp H
          obtain ⟨t224, A70, H⟩ := H
          replace H : (tattleref15_Apply.l1 k1 l0 l1 x6_1 t220 x8_1 t224 0) = some (r1, r2) := H
          have A7 := Aside0.mk A70
          clear A70
          have H' := Aside0.mk H
          clear H
          obtain ⟨Ao8, co8, eo8⟩ := Kd.R_slice HO_7.out
          subst eo8
          have p223 : 0 ≤ (x8_1 : Int) := of_decide_eq_true (by first | (with_reducible assumption) | assumption)
          have q223 : x8_1 < (t220.length : Int) := of_decide_eq_true (by first | (with_reducible assumption) | assumption)
          obtain ⟨ad223, e223, hx223_0⟩ := Kd.at_string (Kd.R_reads' HO_7.out).2.2 x8_1 p223 q223
          cases e223
          replace p223 := eq_true p223
          replace q223 := eq_true q223
          go_wp2_with (first | (go_at_call 28; (with_reducible refine (tattleref15_At.calls k1 _ _ l0 (rdOf ByteArray.empty t220 x8_1) t224 _ ?side1 ?side2 A7.out).mono ?_); (case side1 => repeat (first | exact (Kd.C_below HR0.out HB.out) | (with_reducible refine Kd.C_alloc ?_ _) | (with_reducible refine Kd.C_drewN ?_ _) | (with_reducible refine Kd.C_drew ?_))); (case side2 => exact HC0.out); rintro e w' ⟨rfl, ⟨nd, rfl⟩⟩; (try first | exact ⟨rfl, _, World.drewN_drewN _ _ _⟩ | exact ⟨rfl, _, Eq.trans (World.drewN_drewN _ _ _) (congrArg (World.drewN _) (Nat.add_assoc _ _ _))⟩)))
          repeat (go_quiet (first | (go_at_call 28; (with_reducible refine (tattleref15_At.calls k1 _ _ l0 (rdOf ByteArray.empty t220 x8_1) t224 _ ?side1 ?side2 A7.out).mono ?_); (case side1 => repeat (first | exact (Kd.C_below HR0.out HB.out) | (with_reducible refine Kd.C_alloc ?_ _) | (with_reducible refine Kd.C_drewN ?_ _) | (with_reducible refine Kd.C_drew ?_))); (case side2 => exact HC0.out); rintro e w' ⟨rfl, ⟨nd, rfl⟩⟩; (try first | exact ⟨rfl, _, World.drewN_drewN _ _ _⟩ | exact ⟨rfl, _, Eq.trans (World.drewN_drewN _ _ _) (congrArg (World.drewN _) (Nat.add_assoc _ _ _))⟩))); try go_wp2_with (first | (go_at_call 28; (with_reducible refine (tattleref15_At.calls k1 _ _ l0 (rdOf ByteArray.empty t220 x8_1) t224 _ ?side1 ?side2 A7.out).mono ?_); (case side1 => repeat (first | exact (Kd.C_below HR0.out HB.out) | (with_reducible refine Kd.C_alloc ?_ _) | (with_reducible refine Kd.C_drewN ?_ _) | (with_reducible refine Kd.C_drew ?_))); (case side2 => exact HC0.out); rintro e w' ⟨rfl, ⟨nd, rfl⟩⟩; (try first | exact ⟨rfl, _, World.drewN_drewN _ _ _⟩ | exact ⟨rfl, _, Eq.trans (World.drewN_drewN _ _ _) (congrArg (World.drewN _) (Nat.add_assoc _ _ _))⟩))))
          go_loopg [9, 10] k1 (fun kq v9 v10 w' => ∃ (x9_2 : Int) (x10_2 : Int), v9 = .int .i64 x9_2 ∧ v10 = .int .i64 x10_2 ∧ Aside0 (tattleref15_Apply.l1 kq l0 l1 x6_1 t220 x8_1 x9_2 x10_2 = some (r1, r2)) ∧ Aside0 (kq ≤ k1) ∧ Aside0 (Kd.R k52 52 w' w.heap.size (fun _ => True) u6 x6_1) ∧ Aside0 (Kd.R Kd.string 9 w' w.heap.size (fun _ => True) (.slice (some ad223) t220.length co8) t220) ∧ Aside0 (Below w.heap.size w w'))
          case atStart => exact ⟨(t224), (0), (by first | rfl | (simp; done) | (simp [*]; done)), (by first | rfl | (simp; done) | (simp [*]; done)), H', ⟨Nat.le_refl _⟩, ⟨by (with_reducible repeat (first | apply Kd.R_alloc | apply Kd.R_drewN | apply Kd.R_drew)); exact HO_6.out⟩, ⟨by (with_reducible repeat (first | apply Kd.R_alloc | apply Kd.R_drewN | apply Kd.R_drew)); exact HO_7.out⟩, ⟨by repeat (first | (with_reducible first | exact HB.out | apply below_alloc | apply pw_below_drewN | apply below_drew1) | exact HB.out)⟩⟩
          case round =>
            clear H'
            try clear c1
            try clear c2
            try clear p2
            try clear q2
            try clear hx2
            try clear c5
            try clear c5b0
            try clear c6
            try clear c6b0
            try clear hx223_0
            try clear p2
            try clear p223
            try clear q223
            obtain ⟨x9_2, x10_2, rfl, rfl, HA, HK2, HO_6, HO_7, HB⟩ := hrel
            cases gk with
            | zero => exact absurd HA.out (by simp [tattleref15_Apply.l1])
            | succ k2 =>
              have H := HA.out
              clear HA
              simp only [tattleref15_Apply.l1] at H
              by_cases c9 : x10_2 < (l1.length : Int)
              · rw [if_pos c9] at H
                have c9b0 : decide (x10_2 < (l1.length : Int)) = true := decide_eq_true c9
                clear c9
                by_cases c10 : 0 ≤ x10_2
                · rw [if_pos c10] at H
                  have c10b0 : decide (0 ≤ x10_2) = true := decide_eq_true c10
                  clear c10
                  by_cases c11 : 0 ≤ x8_1
                  · rw [if_pos c11] at H
                    have c11b0 : decide (0 ≤ x8_1) = true := decide_eq_true c11
                    clear c11
                    by_cases c12 : x8_1 < (t220.length : Int)
                    · rw [if_pos c12] at H
                      have c12b0 : decide (x8_1 < (t220.length : Int)) = true := decide_eq_true c12
                      clear c12
                      by_cases c13 : ((rd_T36 l1 x10_2).f0).toList = (rdOf ByteArray.empty t220 x8_1).toList
                      · rw [if_pos c13] at H
                        have c13b0 : (((rd_T36 l1 x10_2).f0).toList == (rdOf ByteArray.empty t220 x8_1).toList) = true := beq_iff_eq.mpr c13
                        have c13b1 : (((rd_T36 l1 x10_2).f0).toList != (rdOf ByteArray.empty t220 x8_1).toList) = false := bne_eq_false_iff_eq.mpr c13
                        clear c13
                        replace H := Option.bind_eq_some_iff.mp H
                        obtain ⟨t233, A140, H⟩ := H
                        replace H : (if ((rd_T36 l1 x10_2).f1) = t233 then (tattleref15_Apply.l1 k2 l0 l1 x6_1 t220 x8_1 ((rd_T36 l1 x10_2).f2) (wrap64 (x10_2 + 1))) else (some (([] : List (S52)), 8))) = some (r1, r2) := H
                        have A14 := Aside0.mk A140
                        clear A140
                        by_cases c15 : ((rd_T36 l1 x10_2).f1) = t233
                        · rw [if_pos c15] at H
                          have c15b0 : (((rd_T36 l1 x10_2).f1) == t233) = true := beq_iff_eq.mpr c15
                          have c15b1 : (((rd_T36 l1 x10_2).f1) != t233) = false := bne_eq_false_iff_eq.mpr c15
                          clear c15
                          have H' := Aside0.mk H
                          clear H
                          have p229 : 0 ≤ (x10_2 : Int) := of_decide_eq_true (by first | (with_reducible assumption) | assumption)
                          have q229 : x10_2 < (l1.length : Int) := of_decide_eq_true (by first | (with_reducible assumption) | assumption)
                          obtain ⟨ad229, e229, hx229_0, hx229_1, hx229_2⟩ := at_T36 HR1.out x10_2 p229 q229
                          cases e229
                          replace hx229_0 := (HB.out.cell (World.block_lt_of_cell? w _ hx229_0)).trans hx229_0
                          replace hx229_1 := (HB.out.cell (World.block_lt_of_cell? w _ hx229_1)).trans hx229_1
                          replace hx229_2 := (HB.out.cell (World.block_lt_of_cell? w _ hx229_2)).trans hx229_2
                          replace p229 := eq_true p229
                          replace q229 := eq_true q229
                          have p230 : 0 ≤ (x8_1 : Int) := of_decide_eq_true (by first | (with_reducible assumption) | assumption)
                          have q230 : x8_1 < (t220.length : Int) := of_decide_eq_true (by first | (with_reducible assumption) | assumption)
                          obtain ⟨ad230, e230, hx230_0⟩ := Kd.at_string (Kd.R_reads' HO_7.out).2.2 x8_1 p230 q230
                          obtain rfl : ad223 = ad230 := (by injection e230)
                          replace p230 := eq_true p230
                          replace q230 := eq_true q230
                          have p231 : 0 ≤ (x10_2 : Int) := of_decide_eq_true (by first | (with_reducible assumption) | assumption)
                          have q231 : x10_2 < (l1.length : Int) := of_decide_eq_true (by first | (with_reducible assumption) | assumption)
                          obtain ⟨ad231, e231, hx231_0, hx231_1, hx231_2⟩ := at_T36 HR1.out x10_2 p231 q231
                          obtain rfl : ad229 = ad231 := (by injection e231)
                          replace hx231_0 := (HB.out.cell (World.block_lt_of_cell? w _ hx231_0)).trans hx231_0
                          replace hx231_1 := (HB.out.cell (World.block_lt_of_cell? w _ hx231_1)).trans hx231_1
                          replace hx231_2 := (HB.out.cell (World.block_lt_of_cell? w _ hx231_2)).trans hx231_2
                          replace p231 := eq_true p231
                          replace q231 := eq_true q231
                          have p232 : 0 ≤ (x8_1 : Int) := of_decide_eq_true (by first | (with_reducible assumption) | assumption)
                          have q232 : x8_1 < (t220.length : Int) := of_decide_eq_true (by first | (with_reducible assumption) | assumption)
                          obtain ⟨ad232, e232, hx232_0⟩ := Kd.at_string (Kd.R_reads' HO_7.out).2.2 x8_1 p232 q232
                          obtain rfl : ad223 = ad232 := (by injection e232)
                          replace p232 := eq_true p232
                          replace q232 := eq_true q232
                          go_wp2_with (first | (go_at_call 28; (with_reducible refine (tattleref15_At.calls k2 _ _ l0 (rdOf ByteArray.empty t220 x8_1) t233 _ ?side1 ?side2 A14.out).mono ?_); (case side1 => repeat (first | exact (Kd.C_below HR0.out HB.out) | (with_reducible refine Kd.C_alloc ?_ _) | (with_reducible refine Kd.C_drewN ?_ _) | (with_reducible refine Kd.C_drew ?_))); (case side2 => exact HC0.out); rintro e w' ⟨rfl, ⟨nd, rfl⟩⟩; (try first | exact ⟨rfl, _, World.drewN_drewN _ _ _⟩ | exact ⟨rfl, _, Eq.trans (World.drewN_drewN _ _ _) (congrArg (World.drewN _) (Nat.add_assoc _ _ _))⟩); have p234 : 0 ≤ (x10_2 : Int) := of_decide_eq_true (by first | (with_reducible assumption) | assumption); have q234 : x10_2 < (l1.length : Int) := of_decide_eq_true (by first | (with_reducible assumption) | assumption); obtain ⟨ad234, e234, hx234_0, hx234_1, hx234_2⟩ := at_T36 HR1.out x10_2 p234 q234; obtain rfl : ad229 = ad234 := (by injection e234); replace hx234_0 := (HB.out.cell (World.block_lt_of_cell? w _ hx234_0)).trans hx234_0; replace hx234_1 := (HB.out.cell (World.block_lt_of_cell? w _ hx234_1)).trans hx234_1; replace hx234_2 := (HB.out.cell (World.block_lt_of_cell? w _ hx234_2)).trans hx234_2; replace p234 := eq_true p234; replace q234 := eq_true q234))
                          repeat (go_quiet (first | (go_at_call 28; (with_reducible refine (tattleref15_At.calls k2 _ _ l0 (rdOf ByteArray.empty t220 x8_1) t233 _ ?side1 ?side2 A14.out).mono ?_); (case side1 => repeat (first | exact (Kd.C_below HR0.out HB.out) | (with_reducible refine Kd.C_alloc ?_ _) | (with_reducible refine Kd.C_drewN ?_ _) | (with_reducible refine Kd.C_drew ?_))); (case side2 => exact HC0.out); rintro e w' ⟨rfl, ⟨nd, rfl⟩⟩; (try first | exact ⟨rfl, _, World.drewN_drewN _ _ _⟩ | exact ⟨rfl, _, Eq.trans (World.drewN_drewN _ _ _) (congrArg (World.drewN _) (Nat.add_assoc _ _ _))⟩); have p234 : 0 ≤ (x10_2 : Int) := of_decide_eq_true (by first | (with_reducible assumption) | assumption); have q234 : x10_2 < (l1.length : Int) := of_decide_eq_true (by first | (with_reducible assumption) | assumption); obtain ⟨ad234, e234, hx234_0, hx234_1, hx234_2⟩ := at_T36 HR1.out x10_2 p234 q234; obtain rfl : ad229 = ad234 := (by injection e234); replace hx234_0 := (HB.out.cell (World.block_lt_of_cell? w _ hx234_0)).trans hx234_0; replace hx234_1 := (HB.out.cell (World.block_lt_of_cell? w _ hx234_1)).trans hx234_1; replace hx234_2 := (HB.out.cell (World.block_lt_of_cell? w _ hx234_2)).trans hx234_2; replace p234 := eq_true p234; replace q234 := eq_true q234)); try go_wp2_with (first | (go_at_call 28; (with_reducible refine (tattleref15_At.calls k2 _ _ l0 (rdOf ByteArray.empty t220 x8_1) t233 _ ?side1 ?side2 A14.out).mono ?_); (case side1 => repeat (first | exact (Kd.C_below HR0.out HB.out) | (with_reducible refine Kd.C_alloc ?_ _) | (with_reducible refine Kd.C_drewN ?_ _) | (with_reducible refine Kd.C_drew ?_))); (case side2 => exact HC0.out); rintro e w' ⟨rfl, ⟨nd, rfl⟩⟩; (try first | exact ⟨rfl, _, World.drewN_drewN _ _ _⟩ | exact ⟨rfl, _, Eq.trans (World.drewN_drewN _ _ _) (congrArg (World.drewN _) (Nat.add_assoc _ _ _))⟩); have p234 : 0 ≤ (x10_2 : Int) := of_decide_eq_true (by first | (with_reducible assumption) | assumption); have q234 : x10_2 < (l1.length : Int) := of_decide_eq_true (by first | (with_reducible assumption) | assumption); obtain ⟨ad234, e234, hx234_0, hx234_1, hx234_2⟩ := at_T36 HR1.out x10_2 p234 q234; obtain rfl : ad229 = ad234 := (by injection e234); replace hx234_0 := (HB.out.cell (World.block_lt_of_cell? w _ hx234_0)).trans hx234_0; replace hx234_1 := (HB.out.cell (World.block_lt_of_cell? w _ hx234_1)).trans hx234_1; replace hx234_2 := (HB.out.cell (World.block_lt_of_cell? w _ hx234_2)).trans hx234_2; replace p234 := eq_true p234; replace q234 := eq_true q234)))
                          go_roundg k2
                          case measure => have := HK1.out; have := HK2.out; omega
                          case rel => exact ⟨((rd_T36 l1 x10_2).f2), (wrap64 (x10_2 + 1)), (by first | rfl | (simp; done) | (simp [*]; done)), (by first | rfl | (simp; done) | (simp [*]; done)), H', ⟨by have := HK1.out; have := HK2.out; omega⟩, ⟨by (with_reducible repeat (first | apply Kd.R_alloc | apply Kd.R_drewN | apply Kd.R_drew)); exact HO_6.out⟩, ⟨by (with_reducible repeat (first | apply Kd.R_alloc | apply Kd.R_drewN | apply Kd.R_drew)); exact HO_7.out⟩, ⟨by repeat (first | (with_reducible first | exact HB.out | apply below_alloc | apply pw_below_drewN | apply below_drew1) | exact HB.out)⟩⟩
                        · rw [if_neg c15] at H
                          have c15b0 : (((rd_T36 l1 x10_2).f1) == t233) = false := beq_eq_false_iff_ne.mpr c15
                          have c15b1 : (((rd_T36 l1 x10_2).f1) != t233) = true := bne_iff_ne.mpr c15
                          simp only [Option.some.injEq, Prod.mk.injEq] at H
                          obtain ⟨rfl, rfl⟩ := H
                          have p229 : 0 ≤ (x10_2 : Int) := of_decide_eq_true (by first | (with_reducible assumption) | assumption)
                          have q229 : x10_2 < (l1.length : Int) := of_decide_eq_true (by first | (with_reducible assumption) | assumption)
                          obtain ⟨ad229, e229, hx229_0, hx229_1, hx229_2⟩ := at_T36 HR1.out x10_2 p229 q229
                          cases e229
                          replace hx229_0 := (HB.out.cell (World.block_lt_of_cell? w _ hx229_0)).trans hx229_0
                          replace hx229_1 := (HB.out.cell (World.block_lt_of_cell? w _ hx229_1)).trans hx229_1
                          replace hx229_2 := (HB.out.cell (World.block_lt_of_cell? w _ hx229_2)).trans hx229_2
                          replace p229 := eq_true p229
                          replace q229 := eq_true q229
                          have p230 : 0 ≤ (x8_1 : Int) := of_decide_eq_true (by first | (with_reducible assumption) | assumption)
                          have q230 : x8_1 < (t220.length : Int) := of_decide_eq_true (by first | (with_reducible assumption) | assumption)
                          obtain ⟨ad230, e230, hx230_0⟩ := Kd.at_string (Kd.R_reads' HO_7.out).2.2 x8_1 p230 q230
                          obtain rfl : ad223 = ad230 := (by injection e230)
                          replace p230 := eq_true p230
                          replace q230 := eq_true q230
                          have p231 : 0 ≤ (x10_2 : Int) := of_decide_eq_true (by first | (with_reducible assumption) | assumption)
                          have q231 : x10_2 < (l1.length : Int) := of_decide_eq_true (by first | (with_reducible assumption) | assumption)
                          obtain ⟨ad231, e231, hx231_0, hx231_1, hx231_2⟩ := at_T36 HR1.out x10_2 p231 q231
                          obtain rfl : ad229 = ad231 := (by injection e231)
                          replace hx231_0 := (HB.out.cell (World.block_lt_of_cell? w _ hx231_0)).trans hx231_0
                          replace hx231_1 := (HB.out.cell (World.block_lt_of_cell? w _ hx231_1)).trans hx231_1
                          replace hx231_2 := (HB.out.cell (World.block_lt_of_cell? w _ hx231_2)).trans hx231_2
                          replace p231 := eq_true p231
                          replace q231 := eq_true q231
                          have p232 : 0 ≤ (x8_1 : Int) := of_decide_eq_true (by first | (with_reducible assumption) | assumption)
                          have q232 : x8_1 < (t220.length : Int) := of_decide_eq_true (by first | (with_reducible assumption) | assumption)
                          obtain ⟨ad232, e232, hx232_0⟩ := Kd.at_string (Kd.R_reads' HO_7.out).2.2 x8_1 p232 q232
                          obtain rfl : ad223 = ad232 := (by injection e232)
                          replace p232 := eq_true p232
                          replace q232 := eq_true q232
                          go_wp2_with (first | (go_at_call 28; (with_reducible refine (tattleref15_At.calls k2 _ _ l0 (rdOf ByteArray.empty t220 x8_1) t233 _ ?side1 ?side2 A14.out).mono ?_); (case side1 => repeat (first | exact (Kd.C_below HR0.out HB.out) | (with_reducible refine Kd.C_alloc ?_ _) | (with_reducible refine Kd.C_drewN ?_ _) | (with_reducible refine Kd.C_drew ?_))); (case side2 => exact HC0.out); rintro e w' ⟨rfl, ⟨nd, rfl⟩⟩; (try first | exact ⟨rfl, _, World.drewN_drewN _ _ _⟩ | exact ⟨rfl, _, Eq.trans (World.drewN_drewN _ _ _) (congrArg (World.drewN _) (Nat.add_assoc _ _ _))⟩)))
                          repeat (go_quiet (first | (go_at_call 28; (with_reducible refine (tattleref15_At.calls k2 _ _ l0 (rdOf ByteArray.empty t220 x8_1) t233 _ ?side1 ?side2 A14.out).mono ?_); (case side1 => repeat (first | exact (Kd.C_below HR0.out HB.out) | (with_reducible refine Kd.C_alloc ?_ _) | (with_reducible refine Kd.C_drewN ?_ _) | (with_reducible refine Kd.C_drew ?_))); (case side2 => exact HC0.out); rintro e w' ⟨rfl, ⟨nd, rfl⟩⟩; (try first | exact ⟨rfl, _, World.drewN_drewN _ _ _⟩ | exact ⟨rfl, _, Eq.trans (World.drewN_drewN _ _ _) (congrArg (World.drewN _) (Nat.add_assoc _ _ _))⟩))); try go_wp2_with (first | (go_at_call 28; (with_reducible refine (tattleref15_At.calls k2 _ _ l0 (rdOf ByteArray.empty t220 x8_1) t233 _ ?side1 ?side2 A14.out).mono ?_); (case side1 => repeat (first | exact (Kd.C_below HR0.out HB.out) | (with_reducible refine Kd.C_alloc ?_ _) | (with_reducible refine Kd.C_drewN ?_ _) | (with_reducible refine Kd.C_drew ?_))); (case side2 => exact HC0.out); rintro e w' ⟨rfl, ⟨nd, rfl⟩⟩; (try first | exact ⟨rfl, _, World.drewN_drewN _ _ _⟩ | exact ⟨rfl, _, Eq.trans (World.drewN_drewN _ _ _) (congrArg (World.drewN _) (Nat.add_assoc _ _ _))⟩))))
                          go_ret2
                          exact ⟨_, by first | rfl | (simp [errW_none, errW_some] <;> rfl) | (simp [*, errW_none, errW_some] <;> rfl), by first | exact Kd.R_nil _ _ _ _ _ | exact Kd.N_nil _ _ _ _ _ | exact Kd.V_nil _ _ _ _ _ | exact Kd.Q_nil _ _ _ _ _ | exact Kd.S_nil _ _ _ _ _, by repeat (first | (with_reducible first | exact HB.out | apply below_alloc | apply pw_below_drewN | apply below_drew1) | exact HB.out)⟩
                      · rw [if_neg c13] at H
                        have c13b0 : (((rd_T36 l1 x10_2).f0).toList == (rdOf ByteArray.empty t220 x8_1).toList) = false := beq_eq_false_iff_ne.mpr c13
                        have c13b1 : (((rd_T36 l1 x10_2).f0).toList != (rdOf ByteArray.empty t220 x8_1).toList) = true := bne_iff_ne.mpr c13
                        have H' := Aside0.mk H
                        clear H
                        have p229 : 0 ≤ (x10_2 : Int) := of_decide_eq_true (by first | (with_reducible assumption) | assumption)
                        have q229 : x10_2 < (l1.length : Int) := of_decide_eq_true (by first | (with_reducible assumption) | assumption)
                        obtain ⟨ad229, e229, hx229_0, hx229_1, hx229_2⟩ := at_T36 HR1.out x10_2 p229 q229
                        cases e229
                        replace hx229_0 := (HB.out.cell (World.block_lt_of_cell? w _ hx229_0)).trans hx229_0
                        replace hx229_1 := (HB.out.cell (World.block_lt_of_cell? w _ hx229_1)).trans hx229_1
                        replace hx229_2 := (HB.out.cell (World.block_lt_of_cell? w _ hx229_2)).trans hx229_2
                        replace p229 := eq_true p229
                        replace q229 := eq_true q229
                        have p230 : 0 ≤ (x8_1 : Int) := of_decide_eq_true (by first | (with_reducible assumption) | assumption)
                        have q230 : x8_1 < (t220.length : Int) := of_decide_eq_true (by first | (with_reducible assumption) | assumption)
                        obtain ⟨ad230, e230, hx230_0⟩ := Kd.at_string (Kd.R_reads' HO_7.out).2.2 x8_1 p230 q230
                        obtain rfl : ad223 = ad230 := (by injection e230)
                        replace p230 := eq_true p230
                        replace q230 := eq_true q230
                        go_wp2
                        repeat (go_quiet (fail); try go_wp2)
                        go_roundg k2
                        case measure => have := HK1.out; have := HK2.out; omega
                        case rel => exact ⟨(x9_2), (wrap64 (x10_2 + 1)), (by first | rfl | (simp; done) | (simp [*]; done)), (by first | rfl | (simp; done) | (simp [*]; done)), H', ⟨by have := HK1.out; have := HK2.out; omega⟩, ⟨by (with_reducible repeat (first | apply Kd.R_alloc | apply Kd.R_drewN | apply Kd.R_drew)); exact HO_6.out⟩, ⟨by (with_reducible repeat (first | apply Kd.R_alloc | apply Kd.R_drewN | apply Kd.R_drew)); exact HO_7.out⟩, ⟨by repeat (first | (with_reducible first | exact HB.out | apply below_alloc | apply pw_below_drewN | apply below_drew1) | exact HB.out)⟩⟩
                    · rw [if_neg c12] at H
                      exact absurd H (by simp)
                  · rw [if_neg c11] at H
                    exact absurd H (by simp)
                · rw [if_neg c10] at H
                  exact absurd H (by simp)
              · rw [if_neg c9] at H
                have c9b0 : decide (x10_2 < (l1.length : Int)) = false := decide_eq_false c9
                clear c9
                by_cases c16 : x9_2 ≥ 0
                · rw [if_pos c16] at H
                  have c16b0 : decide (0 ≤ x9_2) = true := decide_eq_true c16
                  clear c16
                  by_cases c17 : 0 ≤ x8_1
                  · rw [if_pos c17] at H
                    have c17b0 : decide (0 ≤ x8_1) = true := decide_eq_true c17
                    clear c17
                    by_cases c18 : x8_1 < (t220.length : Int)
                    · rw [if_pos c18] at H
                      have c18b0 : decide (x8_1 < (t220.length : Int)) = true := decide_eq_true c18
                      clear c18
                      by_cases c19 : x6_1.length < 5864062014805
                      · rw [if_pos c19] at H
                        have LMc19 := Aside0.mk c19
                        clear c19
                        obtain ⟨y226, hy226⟩ : ∃ y_ : List (S52), y_ = (x6_1 ++ [(⟨rdOf ByteArray.empty t220 x8_1, x9_2⟩ : S52)]) := ⟨_, rfl⟩
                        replace H : (tattleref15_Apply.l0 k2 l0 l1 y226 t220 (wrap64 (x8_1 + 1))) = some (r1, r2) := by first | (rw [hy226]; with_reducible exact H) | (have H2_ := (Option.bind_some _ _).symm.trans H; rw [hy226]; with_reducible exact H2_) | (have H2_ := (Option.bind_some _ _).symm.trans H; with_reducible exact H2_) | with_reducible exact H | (rw [hy226]; exact H) | exact H
                        have Ny226 := Aside0.mk hy226
                        clear hy226
                        have H' := Aside0.mk H
                        clear H
                        have p225 : 0 ≤ (x8_1 : Int) := of_decide_eq_true (by first | (with_reducible assumption) | assumption)
                        have q225 : x8_1 < (t220.length : Int) := of_decide_eq_true (by first | (with_reducible assumption) | assumption)
                        obtain ⟨ad225, e225, hx225_0⟩ := Kd.at_string (Kd.R_reads' HO_7.out).2.2 x8_1 p225 q225
                        obtain rfl : ad223 = ad225 := (by injection e225)
                        replace p225 := eq_true p225
                        replace q225 := eq_true q225
                        go_wp2_with (first | ((with_reducible refine gate_builtin (b := .append) (xs := #[.tmp 61, .tmp 68]) rfl ?_); at_builtin; refine Kd.R_append k52 (w0 := w) w.heap.size rfl (.tmp 61) (.tmp 68) 22 52 (.agg #[(.string ⟨#[]⟩), (.int .i64 0)]) 24 rfl Try.underlying22 info52 rfl (by decide) (by omega) u6 x6_1 (⟨rdOf ByteArray.empty t220 x8_1, x9_2⟩ : S52) [.string (rdOf ByteArray.empty t220 x8_1), .int .i64 x9_2] (fun _ => True) (fun _ => False) rfl rfl ?aP (fun _ hk => hk.elim) ?aF ?aO ?aB ?aS ?aL ?_; (case aP => exact k52_mkM _ _ _ (⟨rdOf ByteArray.empty t220 x8_1, x9_2⟩ : S52)); (case aB => exact (by repeat (first | (with_reducible first | exact HB.out | apply below_alloc | apply pw_below_drewN | apply below_drew1) | exact HB.out))); (case aF => exact (fun _ _ => trivial)); (case aO => exact (by (with_reducible repeat (first | apply Kd.R_alloc | apply Kd.R_drewN | apply Kd.R_drew)); exact HO_6.out)); (case aS => exact (below_size (by repeat (first | (with_reducible first | exact HB.out | apply below_alloc | apply pw_below_drewN | apply below_drew1) | exact HB.out)))); (case aL => have := LMc19.out; omega); intro v227 w20 ho hb hg hat; rw [← Ny226.out] at ho; have n0_ := Aside0.mk (Kd.R_over' (by (with_reducible repeat (first | apply Kd.R_alloc | apply Kd.R_drewN | apply Kd.R_drew)); exact HO_7.out) (Kd.R_typed (by (with_reducible repeat (first | apply Kd.R_alloc | apply Kd.R_drewN | apply Kd.R_drew)); exact HO_6.out)) (by decide) hg); have n1_ := Aside0.mk (hb); have n2_ := Aside0.mk (ho); clear HO_7; clear HB; clear HO_6; have HO_7 := n0_; have HB := n1_; have HO228 := n2_; clear n0_ n1_ n2_; clear ho hb hg hat))
                        repeat (go_quiet (first | ((with_reducible refine gate_builtin (b := .append) (xs := #[.tmp 61, .tmp 68]) rfl ?_); at_builtin; refine Kd.R_append k52 (w0 := w) w.heap.size rfl (.tmp 61) (.tmp 68) 22 52 (.agg #[(.string ⟨#[]⟩), (.int .i64 0)]) 24 rfl Try.underlying22 info52 rfl (by decide) (by omega) u6 x6_1 (⟨rdOf ByteArray.empty t220 x8_1, x9_2⟩ : S52) [.string (rdOf ByteArray.empty t220 x8_1), .int .i64 x9_2] (fun _ => True) (fun _ => False) rfl rfl ?aP (fun _ hk => hk.elim) ?aF ?aO ?aB ?aS ?aL ?_; (case aP => exact k52_mkM _ _ _ (⟨rdOf ByteArray.empty t220 x8_1, x9_2⟩ : S52)); (case aB => exact (by repeat (first | (with_reducible first | exact HB.out | apply below_alloc | apply pw_below_drewN | apply below_drew1) | exact HB.out))); (case aF => exact (fun _ _ => trivial)); (case aO => exact (by (with_reducible repeat (first | apply Kd.R_alloc | apply Kd.R_drewN | apply Kd.R_drew)); exact HO_6.out)); (case aS => exact (below_size (by repeat (first | (with_reducible first | exact HB.out | apply below_alloc | apply pw_below_drewN | apply below_drew1) | exact HB.out)))); (case aL => have := LMc19.out; omega); intro v227 w20 ho hb hg hat; rw [← Ny226.out] at ho; have n0_ := Aside0.mk (Kd.R_over' (by (with_reducible repeat (first | apply Kd.R_alloc | apply Kd.R_drewN | apply Kd.R_drew)); exact HO_7.out) (Kd.R_typed (by (with_reducible repeat (first | apply Kd.R_alloc | apply Kd.R_drewN | apply Kd.R_drew)); exact HO_6.out)) (by decide) hg); have n1_ := Aside0.mk (hb); have n2_ := Aside0.mk (ho); clear HO_7; clear HB; clear HO_6; have HO_7 := n0_; have HB := n1_; have HO228 := n2_; clear n0_ n1_ n2_; clear ho hb hg hat)); try go_wp2_with (first | ((with_reducible refine gate_builtin (b := .append) (xs := #[.tmp 61, .tmp 68]) rfl ?_); at_builtin; refine Kd.R_append k52 (w0 := w) w.heap.size rfl (.tmp 61) (.tmp 68) 22 52 (.agg #[(.string ⟨#[]⟩), (.int .i64 0)]) 24 rfl Try.underlying22 info52 rfl (by decide) (by omega) u6 x6_1 (⟨rdOf ByteArray.empty t220 x8_1, x9_2⟩ : S52) [.string (rdOf ByteArray.empty t220 x8_1), .int .i64 x9_2] (fun _ => True) (fun _ => False) rfl rfl ?aP (fun _ hk => hk.elim) ?aF ?aO ?aB ?aS ?aL ?_; (case aP => exact k52_mkM _ _ _ (⟨rdOf ByteArray.empty t220 x8_1, x9_2⟩ : S52)); (case aB => exact (by repeat (first | (with_reducible first | exact HB.out | apply below_alloc | apply pw_below_drewN | apply below_drew1) | exact HB.out))); (case aF => exact (fun _ _ => trivial)); (case aO => exact (by (with_reducible repeat (first | apply Kd.R_alloc | apply Kd.R_drewN | apply Kd.R_drew)); exact HO_6.out)); (case aS => exact (below_size (by repeat (first | (with_reducible first | exact HB.out | apply below_alloc | apply pw_below_drewN | apply below_drew1) | exact HB.out)))); (case aL => have := LMc19.out; omega); intro v227 w20 ho hb hg hat; rw [← Ny226.out] at ho; have n0_ := Aside0.mk (Kd.R_over' (by (with_reducible repeat (first | apply Kd.R_alloc | apply Kd.R_drewN | apply Kd.R_drew)); exact HO_7.out) (Kd.R_typed (by (with_reducible repeat (first | apply Kd.R_alloc | apply Kd.R_drewN | apply Kd.R_drew)); exact HO_6.out)) (by decide) hg); have n1_ := Aside0.mk (hb); have n2_ := Aside0.mk (ho); clear HO_7; clear HB; clear HO_6; have HO_7 := n0_; have HB := n1_; have HO228 := n2_; clear n0_ n1_ n2_; clear ho hb hg hat)))
                        go_roundg k2
                        case measure => have := HK1.out; have := HK2.out; omega
                        case rel => exact ⟨(y226), (wrap64 (x8_1 + 1)), (by first | rfl | (simp; done) | (simp [*]; done)), H', ⟨by have := HK1.out; have := HK2.out; omega⟩, ⟨by (with_reducible repeat (first | apply Kd.R_alloc | apply Kd.R_drewN | apply Kd.R_drew)); exact HO228.out⟩, ⟨by (with_reducible repeat (first | apply Kd.R_alloc | apply Kd.R_drewN | apply Kd.R_drew)); exact HO_7.out⟩, ⟨by repeat (first | (with_reducible first | exact HB.out | apply below_alloc | apply pw_below_drewN | apply below_drew1) | exact HB.out)⟩⟩
                      · rw [if_neg c19] at H
                        exact absurd H (by simp)
                    · rw [if_neg c18] at H
                      exact absurd H (by simp)
                  · rw [if_neg c17] at H
                    exact absurd H (by simp)
                · rw [if_neg c16] at H
                  have c16b0 : decide (0 ≤ x9_2) = false := decide_eq_false c16
                  clear c16
                  have H' := Aside0.mk H
                  clear H
                  go_wp2
                  repeat (go_quiet (fail); try go_wp2)
                  go_roundg k2
                  case measure => have := HK1.out; have := HK2.out; omega
                  case rel => exact ⟨(x6_1), (wrap64 (x8_1 + 1)), (by first | rfl | (simp; done) | (simp [*]; done)), H', ⟨by have := HK1.out; have := HK2.out; omega⟩, ⟨by (with_reducible repeat (first | apply Kd.R_alloc | apply Kd.R_drewN | apply Kd.R_drew)); exact HO_6.out⟩, ⟨by (with_reducible repeat (first | apply Kd.R_alloc | apply Kd.R_drewN | apply Kd.R_drew)); exact HO_7.out⟩, ⟨by repeat (first | (with_reducible first | exact HB.out | apply below_alloc | apply pw_below_drewN | apply below_drew1) | exact HB.out)⟩⟩
        · rw [if_neg c6] at H
          exact absurd H (by simp)
      · rw [if_neg c5] at H
        have c5b0 : decide (x8_1 < (t220.length : Int)) = false := decide_eq_false c5
        clear c5
        by_cases c21 : (x6_1.length : Int) > 100
        · rw [if_pos c21] at H
          have c21b0 : decide (100 < (x6_1.length : Int)) = true := decide_eq_true c21
          have c21b1 : decide (100 < x6_1.length) = true := decide_eq_true (by omega)
          clear c21
          simp only [Option.some.injEq, Prod.mk.injEq] at H
          obtain ⟨rfl, rfl⟩ := H
          obtain ⟨Ao22, co22, eo22⟩ := Kd.R_slice HO_7.out
          subst eo22
          obtain ⟨Ao23, co23, eo23⟩ := Kd.R_slice HO_6.out
          subst eo23
          go_wp2
          repeat (go_quiet (fail); try go_wp2)
          go_ret2
          exact ⟨_, by first | rfl | (simp [errW_none, errW_some] <;> rfl) | (simp [*, errW_none, errW_some] <;> rfl), by first | exact Kd.R_nil _ _ _ _ _ | exact Kd.N_nil _ _ _ _ _ | exact Kd.V_nil _ _ _ _ _ | exact Kd.Q_nil _ _ _ _ _ | exact Kd.S_nil _ _ _ _ _, by repeat (first | (with_reducible first | exact HB.out | apply below_alloc | apply pw_below_drewN | apply below_drew1) | exact HB.out)⟩
        · rw [if_neg c21] at H
          have c21b0 : decide (100 < (x6_1.length : Int)) = false := decide_eq_false c21
          have c21b1 : decide (100 < x6_1.length) = false := decide_eq_false (by omega)
          clear c21
          simp only [Option.some.injEq, Prod.mk.injEq] at H
          obtain ⟨rfl, rfl⟩ := H
          obtain ⟨Ao24, co24, eo24⟩ := Kd.R_slice HO_7.out
          subst eo24
          obtain ⟨Ao25, co25, eo25⟩ := Kd.R_slice HO_6.out
          subst eo25
          go_wp2
          repeat (go_quiet (fail); try go_wp2)
          go_ret2
          exact ⟨_, by first | rfl | (simp [errW_none, errW_some] <;> rfl) | (simp [*, errW_none, errW_some] <;> rfl), by (with_reducible repeat (first | apply Kd.R_alloc | apply Kd.R_drewN | apply Kd.R_drew)); exact HO_6.out, by repeat (first | (with_reducible first | exact HB.out | apply below_alloc | apply pw_below_drewN | apply below_drew1) | exact HB.out)⟩

end Go.Proofs.Ythbebfjoennmfaa.PPlanTells
