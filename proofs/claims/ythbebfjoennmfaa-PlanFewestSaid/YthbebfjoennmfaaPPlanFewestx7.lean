-- Written by a program of this session (see NOTES.md) out of the print of Lean's own loaded functions; Lean checks it.
import Derived.Test.YthbebfjoennmfaaPPlanFewestx0
import Derived.Test.YthbebfjoennmfaaPPlanFewestx2
import Derived.Test.YthbebfjoennmfaaPPlanFewestx3
import Derived.Test.YthbebfjoennmfaaPPlanFewestx5
import Derived.Test.YthbebfjoennmfaaPPlanFewestx6
namespace Go.Proofs.Ythbebfjoennmfaa.PPlanFewest
open Go.RowKit Go.Proofs.YthbebfjoennmfaaW.PrintWords Go.Proofs.YthbebfjoennmfaaW.PrintLast Go.Proofs.YthbebfjoennmfaaW.PrintMore
attribute [local go_sem] max2_int min2_int max_two min_two max_three min_three max_four min_four   -- for this text's walks alone
set_option linter.unusedVariables false
set_option linter.unusedSimpArgs false

attribute [local go_sem high] eqA52
/-! ### tattleref14_Same: function 12 -/
def tattleref14_Same.l0 : Nat → List (S52) → List (S52) → Int → Option (Bool)
  | 0, _, _, _ => none
  | k + 1, x0, x1, x5 => if x5 < (x0.length : Int) then (if 0 ≤ x5 then (if x5 < (x1.length : Int) then (if (!((((rd_T52 x0 x5).f0).toList) == (((rd_T52 x1 x5).f0).toList)) || (!(((rd_T52 x0 x5).f1) == ((rd_T52 x1 x5).f1)))) = true then (some false) else (tattleref14_Same.l0 k x0 x1 (wrap64 (x5 + 1)))) else (none)) else (none)) else (some true)
def tattleref14_Same.f (k : Nat) (l0 : List (S52)) (l1 : List (S52)) : Option (Bool) := if (l0.length : Int) = (l1.length : Int) then (tattleref14_Same.l0 k l0 l1 0) else (some false)
theorem tattleref14_Same.mono_l : ∀ k, (∀ y0 y1 y2, LeO (tattleref14_Same.l0 k y0 y1 y2) (tattleref14_Same.l0 (k + 1) y0 y1 y2))
  | 0 => fun _ _ _ r h => by simp [tattleref14_Same.l0] at h
  | k + 1 => by
    have ih0 := tattleref14_Same.mono_l k
    · intro y0 y1 y2
      unfold tattleref14_Same.l0
      repeat' first
      | (with_reducible exact ih0 _ _ _)
      | (with_reducible exact LeO.refl _)
      | (with_reducible exact LeO.none _)
      | (with_reducible refine LeO.ite ?_ ?_)
      | (with_reducible refine LeO.bind ?_ (fun _ => ?_))
      | exact ih0 _ _ _
      | exact LeO.none _
      | refine LeO.ite ?_ ?_
      | refine LeO.bind ?_ (fun _ => ?_)
theorem tattleref14_Same.mono : ∀ a0 a1 k, LeO (tattleref14_Same.f k a0 a1) (tattleref14_Same.f (k + 1) a0 a1) := by
  intro a0 a1 k
  have ih0 := tattleref14_Same.mono_l k
  unfold tattleref14_Same.f
  repeat' first
      | (with_reducible exact ih0 _ _ _)
      | (with_reducible exact LeO.refl _)
      | (with_reducible exact LeO.none _)
      | (with_reducible refine LeO.ite ?_ ?_)
      | (with_reducible refine LeO.bind ?_ (fun _ => ?_))
      | exact ih0 _ _ _
      | exact LeO.none _
      | refine LeO.ite ?_ ?_
      | refine LeO.bind ?_ (fun _ => ?_)
set_option maxHeartbeats 8000000 in
set_option maxRecDepth 100000 in
theorem tattleref14_Same.calls (k : Nat) (A0 : Option Addr) (c0 : Nat) (l0 : List (S52)) (A1 : Option Addr) (c1 : Nat) (l1 : List (S52)) (r : Bool) (w : World) (hr0 : Kd.C k52 w A0 l0.length l0) (hc0 : l0.length ≤ c0) (hr1 : Kd.C k52 w A1 l1.length l1) (hc1 : l1.length ≤ c1) (h : tattleref14_Same.f k l0 l1 = some r) :
    Calls Try.prog 12 #[.slice A0 l0.length c0, .slice A1 l1.length c1] w fun e w' => e = .returned (.bool r) ∧ Drawn0 w w' := by
  have hu52 := Try.underlying52
  have HR0 := Aside0.mk hr0
  have HC0 := Aside0.mk hc0
  clear hr0 hc0
  have HR1 := Aside0.mk hr1
  have HC1 := Aside0.mk hc1
  clear hr1 hc1
  have H : (if (l0.length : Int) = (l1.length : Int) then (tattleref14_Same.l0 k l0 l1 0) else (some false)) = some r := h
  clear h
  by_cases c3 : (l0.length : Int) = (l1.length : Int)
  · rw [if_pos c3] at H
    have c3b0 : ((l0.length : Int) == (l1.length : Int)) = true := beq_iff_eq.mpr c3
    have c3b1 : ((l0.length : Int) != (l1.length : Int)) = false := bne_eq_false_iff_eq.mpr c3
    have c3b2 : (l0.length == l1.length) = true := by first | simpa using c3 | (simp at c3 ⊢; omega)
    clear c3
    have H' := Aside0.mk H
    clear H
    go_enter Try.func12, Try.ntmps12
    go_wp2
    repeat (go_quiet (fail); try go_wp2)
    go_loopg [5] k (fun kq v5 w' => ∃ (x5_1 : Int), v5 = .int .i64 x5_1 ∧ Aside0 (tattleref14_Same.l0 kq l0 l1 x5_1 = some r) ∧ Aside0 (kq ≤ k) ∧ Drawn0 w w')
    case atStart => exact ⟨(0), (by first | rfl | (simp; done) | (simp [*]; done)), H', ⟨Nat.le_refl _⟩, by repeat (first | exact Drawn0.refl _ | apply Drawn0.step)⟩
    case round =>
      clear H'
      try clear c1
      try clear p2
      try clear c3
      try clear c3b0
      try clear c3b1
      try clear c3b2
      obtain ⟨x5_1, rfl, HA, HK1, ⟨m1, rfl⟩⟩ := hrel
      cases gk with
      | zero => exact absurd HA.out (by simp [tattleref14_Same.l0])
      | succ k1 =>
        have H := HA.out
        clear HA
        simp only [tattleref14_Same.l0] at H
        by_cases c4 : x5_1 < (l0.length : Int)
        · rw [if_pos c4] at H
          have c4b0 : decide (x5_1 < (l0.length : Int)) = true := decide_eq_true c4
          clear c4
          by_cases c5 : 0 ≤ x5_1
          · rw [if_pos c5] at H
            have c5b0 : decide (0 ≤ x5_1) = true := decide_eq_true c5
            clear c5
            by_cases c6 : x5_1 < (l1.length : Int)
            · rw [if_pos c6] at H
              have c6b0 : decide (x5_1 < (l1.length : Int)) = true := decide_eq_true c6
              clear c6
              by_cases c7 : (!((((rd_T52 l0 x5_1).f0).toList) == (((rd_T52 l1 x5_1).f0).toList)) || (!(((rd_T52 l0 x5_1).f1) == ((rd_T52 l1 x5_1).f1)))) = true
              · rw [if_pos c7] at H
                have c7b0 : (!((((rd_T52 l0 x5_1).f0).toList) == (((rd_T52 l1 x5_1).f0).toList)) || (!(((rd_T52 l0 x5_1).f1) == ((rd_T52 l1 x5_1).f1)))) = true := c7
                clear c7
                obtain rfl := Option.some.inj H
                have p150 : 0 ≤ (x5_1 : Int) := of_decide_eq_true (by first | (with_reducible assumption) | assumption)
                have q150 : x5_1 < (l0.length : Int) := of_decide_eq_true (by first | (with_reducible assumption) | assumption)
                obtain ⟨ad150, e150, hx150_0, hx150_1⟩ := at_T52 HR0.out x5_1 p150 q150
                cases e150
                replace p150 := eq_true p150
                replace q150 := eq_true q150
                have p151 : 0 ≤ (x5_1 : Int) := of_decide_eq_true (by first | (with_reducible assumption) | assumption)
                have q151 : x5_1 < (l1.length : Int) := of_decide_eq_true (by first | (with_reducible assumption) | assumption)
                obtain ⟨ad151, e151, hx151_0, hx151_1⟩ := at_T52 HR1.out x5_1 p151 q151
                cases e151
                replace p151 := eq_true p151
                replace q151 := eq_true q151
                go_wp2
                repeat (go_quiet (fail); try go_wp2)
                go_ret
                exact ⟨by first | rfl | (simp; done) | (simp [*]; done), by repeat (first | exact Drawn0.refl _ | apply Drawn0.step)⟩
              · rw [if_neg c7] at H
                have c7b0 : (!((((rd_T52 l0 x5_1).f0).toList) == (((rd_T52 l1 x5_1).f0).toList)) || (!(((rd_T52 l0 x5_1).f1) == ((rd_T52 l1 x5_1).f1)))) = false := by simpa using c7
                clear c7
                have H' := Aside0.mk H
                clear H
                have p150 : 0 ≤ (x5_1 : Int) := of_decide_eq_true (by first | (with_reducible assumption) | assumption)
                have q150 : x5_1 < (l0.length : Int) := of_decide_eq_true (by first | (with_reducible assumption) | assumption)
                obtain ⟨ad150, e150, hx150_0, hx150_1⟩ := at_T52 HR0.out x5_1 p150 q150
                cases e150
                replace p150 := eq_true p150
                replace q150 := eq_true q150
                have p151 : 0 ≤ (x5_1 : Int) := of_decide_eq_true (by first | (with_reducible assumption) | assumption)
                have q151 : x5_1 < (l1.length : Int) := of_decide_eq_true (by first | (with_reducible assumption) | assumption)
                obtain ⟨ad151, e151, hx151_0, hx151_1⟩ := at_T52 HR1.out x5_1 p151 q151
                cases e151
                replace p151 := eq_true p151
                replace q151 := eq_true q151
                go_wp2
                repeat (go_quiet (fail); try go_wp2)
                go_roundg k1
                case measure => have := HK1.out; omega
                case rel => exact ⟨(wrap64 (x5_1 + 1)), (by first | rfl | (simp; done) | (simp [*]; done)), H', ⟨by have := HK1.out; omega⟩, by repeat (first | exact Drawn0.refl _ | apply Drawn0.step)⟩
            · rw [if_neg c6] at H
              exact absurd H (by simp)
          · rw [if_neg c5] at H
            exact absurd H (by simp)
        · rw [if_neg c4] at H
          have c4b0 : decide (x5_1 < (l0.length : Int)) = false := decide_eq_false c4
          clear c4
          obtain rfl := Option.some.inj H
          go_wp2
          repeat (go_quiet (fail); try go_wp2)
          go_ret
          exact ⟨by first | rfl | (simp; done) | (simp [*]; done), by repeat (first | exact Drawn0.refl _ | apply Drawn0.step)⟩
  · rw [if_neg c3] at H
    have c3b0 : ((l0.length : Int) == (l1.length : Int)) = false := beq_eq_false_iff_ne.mpr c3
    have c3b1 : ((l0.length : Int) != (l1.length : Int)) = true := bne_iff_ne.mpr c3
    have c3b2 : (l0.length == l1.length) = false := by first | simpa using c3 | (simp at c3 ⊢; omega)
    obtain rfl := Option.some.inj H
    go_enter Try.func12, Try.ntmps12
    go_wp2
    repeat (go_quiet (fail); try go_wp2)
    go_ret
    exact ⟨by first | rfl | (simp; done) | (simp [*]; done), by repeat (first | exact Drawn0.refl _ | apply Drawn0.step)⟩

/-! ### tattlelaw15_PlanFewest: function 3 -/
def tattlelaw15_PlanFewest.f (k : Nat) (l0 : List (S52)) (l1 : List (S52)) (a2 : Int) : Option (Bool) := (tattlelaw15_Puts.f l0).bind fun t152 => ((tattlelaw15_Puts.f l1).bind fun t155 => ((plan_Diff.f k t152 t155).bind fun bt158 => (if bt158.2 = 0 then (if (bt158.1.length : Int) = 0 then ((tattleref14_Same.f k t152 t155).bind fun t163 => (if t163 = true then ((tattlelaw15_awake.f k).bind fun t164 => (some t164)) else (none))) else ((some (([] : List (S36)) : List (S36))).bind fun y165 => (if 0 ≤ (Int.tmod (wrap64 (a2)) (bt158.1.length : Int)) then (if (Int.tmod (wrap64 (a2)) (bt158.1.length : Int)) ≤ (bt158.1.length : Int) then ((some (bt158.1.take ((Int.tmod (wrap64 (a2)) (bt158.1.length : Int)) : Int).toNat : List (S36))).bind fun y168 => (if y165.length + y168.length < 4398046511104 then ((some (y165 ++ y168 : List (S36))).bind fun y172 => (if 0 ≤ (wrap64 ((Int.tmod (wrap64 (a2)) (bt158.1.length : Int)) + 1)) then (if (wrap64 ((Int.tmod (wrap64 (a2)) (bt158.1.length : Int)) + 1)) ≤ (bt158.1.length : Int) then ((some (bt158.1.drop ((wrap64 ((Int.tmod (wrap64 (a2)) (bt158.1.length : Int)) + 1)) : Int).toNat : List (S36))).bind fun y175 => (if y172.length + y175.length < 4398046511104 then ((plan_Apply.f k t152 (y172 ++ y175)).bind fun bt182 => (if bt182.2 = 9 then ((tattleref14_Same.f k t152 t155).bind fun t186 => (if t186 = true then (none) else ((tattlelaw15_awake.f k).bind fun t187 => (some t187)))) else (if bt182.2 = 0 then ((tattleref14_Same.f k bt182.1 t155).bind fun t188 => (if t188 = true then (none) else ((tattleref14_Same.f k t152 t155).bind fun t189 => (if t189 = true then (none) else ((tattlelaw15_awake.f k).bind fun t190 => (some t190)))))) else (none)))) else (none))) else (none)) else (none))) else (none))) else (none)) else (none)))) else ((tattlelaw15_awake.f k).bind fun t162 => (some t162)))))
theorem tattlelaw15_PlanFewest.mono : ∀ a0 a1 a2 k, LeO (tattlelaw15_PlanFewest.f k a0 a1 a2) (tattlelaw15_PlanFewest.f (k + 1) a0 a1 a2) := by
  intro a0 a1 a2 k
  unfold tattlelaw15_PlanFewest.f
  repeat' first
      | (with_reducible exact plan_Apply.mono _ _ _)
      | (with_reducible exact plan_Diff.mono _ _ _)
      | (with_reducible exact tattlelaw15_awake.mono _)
      | (with_reducible exact tattleref14_Same.mono _ _ _)
      | (with_reducible exact LeO.refl _)
      | (with_reducible exact LeO.none _)
      | (with_reducible refine LeO.ite ?_ ?_)
      | (with_reducible refine LeO.bind ?_ (fun _ => ?_))
      | exact plan_Apply.mono _ _ _
      | exact plan_Diff.mono _ _ _
      | exact tattlelaw15_awake.mono _
      | exact tattleref14_Same.mono _ _ _
      | exact LeO.none _
      | refine LeO.ite ?_ ?_
      | refine LeO.bind ?_ (fun _ => ?_)
def tattlelaw15_PlanFewest.T8 : Bool × List (List Nat × List Nat) := (true, [([], []), ([], []), ([], []), ([1, 2], [1, 2]), ([0, 3], [0, 3]), ([], []), ([], []), ([6], [6]), ([5, 7], [5, 7]), ([4, 8, 4], [4, 8]), ([9, 9, 0, 1, 2, 3, 4, 5, 6, 7, 8, 9], [9])])
def tattlelaw15_PlanFewest.B8 : List Nat := [0, 0, 0, 6, 15, 0, 0, 64, 224, 511, 1023]
theorem tattlelaw15_PlanFewest.tab8 : rtab .any (opsOf Try.f3 8) = tattlelaw15_PlanFewest.T8 := by kernel_rfl
theorem tattlelaw15_PlanFewest.bits8 : waitsOk tattlelaw15_PlanFewest.T8.2 tattlelaw15_PlanFewest.B8 = true := by kernel_rfl
set_option maxHeartbeats 8000000 in
set_option maxRecDepth 100000 in
theorem tattlelaw15_PlanFewest.calls (k : Nat) (A0 : Option Addr) (c0 : Nat) (l0 : List (S52)) (A1 : Option Addr) (c1 : Nat) (l1 : List (S52)) (a2 : Int) (r : Bool) (w : World) (hr0 : Kd.C k52 w A0 l0.length l0) (hc0 : l0.length ≤ c0) (hr1 : Kd.C k52 w A1 l1.length l1) (hc1 : l1.length ≤ c1) (h : tattlelaw15_PlanFewest.f k l0 l1 a2 = some r) :
    Calls Try.prog 3 #[.slice A0 l0.length c0, .slice A1 l1.length c1, .int .u8 a2] w fun e w' => e = .returned (.bool r) ∧ Below w.heap.size w w' := by
  have HR0 := Aside0.mk hr0
  have HC0 := Aside0.mk hc0
  clear hr0 hc0
  have HR1 := Aside0.mk hr1
  have HC1 := Aside0.mk hc1
  clear hr1 hc1
  have HB := Aside0.mk (Below.refl w.heap.size w)
  have H : ((tattlelaw15_Puts.f l0).bind fun t152 => ((tattlelaw15_Puts.f l1).bind fun t155 => ((plan_Diff.f k t152 t155).bind fun bt158 => (if bt158.2 = 0 then (if (bt158.1.length : Int) = 0 then ((tattleref14_Same.f k t152 t155).bind fun t163 => (if t163 = true then ((tattlelaw15_awake.f k).bind fun t164 => (some t164)) else (none))) else ((some (([] : List (S36)) : List (S36))).bind fun y165 => (if 0 ≤ (Int.tmod (wrap64 (a2)) (bt158.1.length : Int)) then (if (Int.tmod (wrap64 (a2)) (bt158.1.length : Int)) ≤ (bt158.1.length : Int) then ((some (bt158.1.take ((Int.tmod (wrap64 (a2)) (bt158.1.length : Int)) : Int).toNat : List (S36))).bind fun y168 => (if y165.length + y168.length < 4398046511104 then ((some (y165 ++ y168 : List (S36))).bind fun y172 => (if 0 ≤ (wrap64 ((Int.tmod (wrap64 (a2)) (bt158.1.length : Int)) + 1)) then (if (wrap64 ((Int.tmod (wrap64 (a2)) (bt158.1.length : Int)) + 1)) ≤ (bt158.1.length : Int) then ((some (bt158.1.drop ((wrap64 ((Int.tmod (wrap64 (a2)) (bt158.1.length : Int)) + 1)) : Int).toNat : List (S36))).bind fun y175 => (if y172.length + y175.length < 4398046511104 then ((plan_Apply.f k t152 (y172 ++ y175)).bind fun bt182 => (if bt182.2 = 9 then ((tattleref14_Same.f k t152 t155).bind fun t186 => (if t186 = true then (none) else ((tattlelaw15_awake.f k).bind fun t187 => (some t187)))) else (if bt182.2 = 0 then ((tattleref14_Same.f k bt182.1 t155).bind fun t188 => (if t188 = true then (none) else ((tattleref14_Same.f k t152 t155).bind fun t189 => (if t189 = true then (none) else ((tattlelaw15_awake.f k).bind fun t190 => (some t190)))))) else (none)))) else (none))) else (none)) else (none))) else (none))) else (none)) else (none)))) else ((tattlelaw15_awake.f k).bind fun t162 => (some t162)))))) = some r := h
  clear h
  replace H := Option.bind_eq_some_iff.mp H
  obtain ⟨t152, A40, H⟩ := H
  replace H : ((tattlelaw15_Puts.f l1).bind fun t155 => ((plan_Diff.f k t152 t155).bind fun bt158 => (if bt158.2 = 0 then (if (bt158.1.length : Int) = 0 then ((tattleref14_Same.f k t152 t155).bind fun t163 => (if t163 = true then ((tattlelaw15_awake.f k).bind fun t164 => (some t164)) else (none))) else ((some (([] : List (S36)) : List (S36))).bind fun y165 => (if 0 ≤ (Int.tmod (wrap64 (a2)) (bt158.1.length : Int)) then (if (Int.tmod (wrap64 (a2)) (bt158.1.length : Int)) ≤ (bt158.1.length : Int) then ((some (bt158.1.take ((Int.tmod (wrap64 (a2)) (bt158.1.length : Int)) : Int).toNat : List (S36))).bind fun y168 => (if y165.length + y168.length < 4398046511104 then ((some (y165 ++ y168 : List (S36))).bind fun y172 => (if 0 ≤ (wrap64 ((Int.tmod (wrap64 (a2)) (bt158.1.length : Int)) + 1)) then (if (wrap64 ((Int.tmod (wrap64 (a2)) (bt158.1.length : Int)) + 1)) ≤ (bt158.1.length : Int) then ((some (bt158.1.drop ((wrap64 ((Int.tmod (wrap64 (a2)) (bt158.1.length : Int)) + 1)) : Int).toNat : List (S36))).bind fun y175 => (if y172.length + y175.length < 4398046511104 then ((plan_Apply.f k t152 (y172 ++ y175)).bind fun bt182 => (if bt182.2 = 9 then ((tattleref14_Same.f k t152 t155).bind fun t186 => (if t186 = true then (none) else ((tattlelaw15_awake.f k).bind fun t187 => (some t187)))) else (if bt182.2 = 0 then ((tattleref14_Same.f k bt182.1 t155).bind fun t188 => (if t188 = true then (none) else ((tattleref14_Same.f k t152 t155).bind fun t189 => (if t189 = true then (none) else ((tattlelaw15_awake.f k).bind fun t190 => (some t190)))))) else (none)))) else (none))) else (none)) else (none))) else (none))) else (none)) else (none)))) else ((tattlelaw15_awake.f k).bind fun t162 => (some t162))))) = some r := H
  have A4 := Aside0.mk A40
  clear A40
  replace H := Option.bind_eq_some_iff.mp H
  obtain ⟨t155, A50, H⟩ := H
  replace H : ((plan_Diff.f k t152 t155).bind fun bt158 => (if bt158.2 = 0 then (if (bt158.1.length : Int) = 0 then ((tattleref14_Same.f k t152 t155).bind fun t163 => (if t163 = true then ((tattlelaw15_awake.f k).bind fun t164 => (some t164)) else (none))) else ((some (([] : List (S36)) : List (S36))).bind fun y165 => (if 0 ≤ (Int.tmod (wrap64 (a2)) (bt158.1.length : Int)) then (if (Int.tmod (wrap64 (a2)) (bt158.1.length : Int)) ≤ (bt158.1.length : Int) then ((some (bt158.1.take ((Int.tmod (wrap64 (a2)) (bt158.1.length : Int)) : Int).toNat : List (S36))).bind fun y168 => (if y165.length + y168.length < 4398046511104 then ((some (y165 ++ y168 : List (S36))).bind fun y172 => (if 0 ≤ (wrap64 ((Int.tmod (wrap64 (a2)) (bt158.1.length : Int)) + 1)) then (if (wrap64 ((Int.tmod (wrap64 (a2)) (bt158.1.length : Int)) + 1)) ≤ (bt158.1.length : Int) then ((some (bt158.1.drop ((wrap64 ((Int.tmod (wrap64 (a2)) (bt158.1.length : Int)) + 1)) : Int).toNat : List (S36))).bind fun y175 => (if y172.length + y175.length < 4398046511104 then ((plan_Apply.f k t152 (y172 ++ y175)).bind fun bt182 => (if bt182.2 = 9 then ((tattleref14_Same.f k t152 t155).bind fun t186 => (if t186 = true then (none) else ((tattlelaw15_awake.f k).bind fun t187 => (some t187)))) else (if bt182.2 = 0 then ((tattleref14_Same.f k bt182.1 t155).bind fun t188 => (if t188 = true then (none) else ((tattleref14_Same.f k t152 t155).bind fun t189 => (if t189 = true then (none) else ((tattlelaw15_awake.f k).bind fun t190 => (some t190)))))) else (none)))) else (none))) else (none)) else (none))) else (none))) else (none)) else (none)))) else ((tattlelaw15_awake.f k).bind fun t162 => (some t162)))) = some r := H
  have A5 := Aside0.mk A50
  clear A50
  replace H := Option.bind_eq_some_iff.mp H
  obtain ⟨⟨t158, t159⟩, A60, H⟩ := H
  replace H : (if t159 = 0 then (if (t158.length : Int) = 0 then ((tattleref14_Same.f k t152 t155).bind fun t163 => (if t163 = true then ((tattlelaw15_awake.f k).bind fun t164 => (some t164)) else (none))) else ((some (([] : List (S36)) : List (S36))).bind fun y165 => (if 0 ≤ (Int.tmod (wrap64 (a2)) (t158.length : Int)) then (if (Int.tmod (wrap64 (a2)) (t158.length : Int)) ≤ (t158.length : Int) then ((some (t158.take ((Int.tmod (wrap64 (a2)) (t158.length : Int)) : Int).toNat : List (S36))).bind fun y168 => (if y165.length + y168.length < 4398046511104 then ((some (y165 ++ y168 : List (S36))).bind fun y172 => (if 0 ≤ (wrap64 ((Int.tmod (wrap64 (a2)) (t158.length : Int)) + 1)) then (if (wrap64 ((Int.tmod (wrap64 (a2)) (t158.length : Int)) + 1)) ≤ (t158.length : Int) then ((some (t158.drop ((wrap64 ((Int.tmod (wrap64 (a2)) (t158.length : Int)) + 1)) : Int).toNat : List (S36))).bind fun y175 => (if y172.length + y175.length < 4398046511104 then ((plan_Apply.f k t152 (y172 ++ y175)).bind fun bt182 => (if bt182.2 = 9 then ((tattleref14_Same.f k t152 t155).bind fun t186 => (if t186 = true then (none) else ((tattlelaw15_awake.f k).bind fun t187 => (some t187)))) else (if bt182.2 = 0 then ((tattleref14_Same.f k bt182.1 t155).bind fun t188 => (if t188 = true then (none) else ((tattleref14_Same.f k t152 t155).bind fun t189 => (if t189 = true then (none) else ((tattlelaw15_awake.f k).bind fun t190 => (some t190)))))) else (none)))) else (none))) else (none)) else (none))) else (none))) else (none)) else (none)))) else ((tattlelaw15_awake.f k).bind fun t162 => (some t162))) = some r := H
  have A6 := Aside0.mk A60
  clear A60
  by_cases c7 : t159 = 0
  · rw [if_pos c7] at H
    have c7b0 : (t159 == 0) = true := beq_iff_eq.mpr c7
    have c7b1 : (t159 != 0) = false := bne_eq_false_iff_eq.mpr c7
    clear c7
    by_cases c8 : (t158.length : Int) = 0
    · rw [if_pos c8] at H
      have c8b0 : ((t158.length : Int) == 0) = true := beq_iff_eq.mpr c8
      have c8b1 : ((t158.length : Int) != 0) = false := bne_eq_false_iff_eq.mpr c8
      clear c8
      replace H := Option.bind_eq_some_iff.mp H
      obtain ⟨t163, A90, H⟩ := H
      replace H : (if t163 = true then ((tattlelaw15_awake.f k).bind fun t164 => (some t164)) else (none)) = some r := H
      have A9 := Aside0.mk A90
      clear A90
      by_cases c10 : t163 = true
      · subst c10
        have H1 : ((tattlelaw15_awake.f k).bind fun t164 => (some t164)) = some r := by rw [if_pos rfl] at H; exact H
        clear H
        have H := H1
        clear H1
        replace H := Option.bind_eq_some_iff.mp H
        obtain ⟨t164, A110, H⟩ := H
        replace H : (some t164) = some r := H
        have A11 := Aside0.mk A110
        clear A110
        obtain rfl := Option.some.inj H
        go_enter Try.func3, Try.ntmps3
        go_wp2_with (first | ((with_reducible refine gate_callee (f := 9) rfl ?_); refine goesL_ (some 14) rfl rfl Try.func9 (by kernel_rfl) rfl #[.slice A0 l0.length c0] rfl (by (try simp only [List.map_toArray, List.map_cons, List.map_nil]); first | done | rfl | (simp only [List.length_drop, List.length_take]; rfl)) ?_; (with_reducible refine (tattlelaw15_Puts.calls (fun k_ => k_ < w.heap.size) _ _ l0 t152 _ ?side1 A4.out).mono ?_); (case side1 => exact Kd.V_mk HC0.out (Kd.F_below (Kd.C_F k52_heap HR0.out) (by repeat (first | (with_reducible first | exact HB.out | apply below_alloc | apply pw_below_drewN | apply below_drew1) | exact HB.out)))); rintro e w12 ⟨v153, rfl, ho0, hb⟩; refine ⟨_, rfl, ?_⟩; have n0_ := Aside0.mk (Kd.V_lower (Kd.V_mono (ok' := fun k_ => True) ho0 (fun k_ hk_ => trivial)) (below_size (by repeat (first | (with_reducible first | exact HB.out | apply below_alloc | apply pw_below_drewN | apply below_drew1) | exact HB.out)))); have n1_ := Aside0.mk (below_step (by repeat (first | (with_reducible first | exact HB.out | apply below_alloc | apply pw_below_drewN | apply below_drew1) | exact HB.out)) hb); clear HB; have HO154 := n0_; have HB := n1_; clear n0_ n1_; (try clear hb); (try clear hb2); (try clear hk); (try clear hi); (try clear ho0)) | ((with_reducible refine gate_callee (f := 9) rfl ?_); refine goesL_ (some 16) rfl rfl Try.func9 (by kernel_rfl) rfl #[.slice A1 l1.length c1] rfl (by (try simp only [List.map_toArray, List.map_cons, List.map_nil]); first | done | rfl | (simp only [List.length_drop, List.length_take]; rfl)) ?_; (with_reducible refine (tattlelaw15_Puts.calls (fun k_ => k_ < w.heap.size) _ _ l1 t155 _ ?side1 A5.out).mono ?_); (case side1 => exact Kd.V_mk HC1.out (Kd.F_below (Kd.C_F k52_heap HR1.out) (by repeat (first | (with_reducible first | exact HB.out | apply below_alloc | apply pw_below_drewN | apply below_drew1) | exact HB.out)))); rintro e w13 ⟨v156, rfl, ho0, hb⟩; refine ⟨_, rfl, ?_⟩; have n0_ := Aside0.mk (Kd.V_below (by (with_reducible repeat (first | apply Kd.V_alloc | apply Kd.V_drewN | apply Kd.V_drew)); exact HO154.out) hb); have n1_ := Aside0.mk (Kd.V_lower (Kd.V_mono (ok' := fun k_ => True) ho0 (fun k_ hk_ => trivial)) (below_size (by repeat (first | (with_reducible first | exact HB.out | apply below_alloc | apply pw_below_drewN | apply below_drew1) | exact HB.out)))); have n2_ := Aside0.mk (below_step (by repeat (first | (with_reducible first | exact HB.out | apply below_alloc | apply pw_below_drewN | apply below_drew1) | exact HB.out)) hb); clear HO154; clear HB; have HO154 := n0_; have HO157 := n1_; have HB := n2_; clear n0_ n1_ n2_; (try clear hb); (try clear hb2); (try clear hk); (try clear hi); (try clear ho0); obtain ⟨Ao14, co14, eo14⟩ := Kd.V_slice HO154.out; subst eo14; obtain ⟨Ao15, co15, eo15⟩ := Kd.V_slice HO157.out; subst eo15) | ((with_reducible refine gate_callee (f := 10) rfl ?_); refine goesL_ (some 20) rfl rfl Try.func10 (by kernel_rfl) rfl #[.slice Ao14 t152.length co14, .slice Ao15 t155.length co15] rfl (by (try simp only [List.map_toArray, List.map_cons, List.map_nil]); first | done | rfl | (simp only [List.length_drop, List.length_take]; rfl)) ?_; (with_reducible refine (plan_Diff.calls k _ _ t152 _ _ t155 t158 t159 _ ?side1 ?side2 ?side3 ?side4 A6.out).mono ?_); (case side1 => repeat (first | exact (Kd.V_reads' HO154.out).2.2 | (with_reducible refine Kd.C_alloc ?_ _) | (with_reducible refine Kd.C_drewN ?_ _) | (with_reducible refine Kd.C_drew ?_))); (case side2 => exact (Kd.V_reads' HO154.out).2.1); (case side3 => repeat (first | exact (Kd.V_reads' HO157.out).2.2 | (with_reducible refine Kd.C_alloc ?_ _) | (with_reducible refine Kd.C_drewN ?_ _) | (with_reducible refine Kd.C_drew ?_))); (case side4 => exact (Kd.V_reads' HO157.out).2.1); rintro e w16 ⟨v160, rfl, ho0, hb⟩; refine ⟨_, rfl, ?_⟩; have n0_ := Aside0.mk (Kd.V_elder' (by (with_reducible repeat (first | apply Kd.V_alloc | apply Kd.V_drewN | apply Kd.V_drew)); exact HO154.out) (Kd.R_base ho0) hb); have n1_ := Aside0.mk (Kd.V_elder' (by (with_reducible repeat (first | apply Kd.V_alloc | apply Kd.V_drewN | apply Kd.V_drew)); exact HO157.out) (Kd.R_base ho0) hb); have n2_ := Aside0.mk (Kd.R_lower ho0 (below_size (by repeat (first | (with_reducible first | exact HB.out | apply below_alloc | apply pw_below_drewN | apply below_drew1) | exact HB.out)))); have n3_ := Aside0.mk (below_step (by repeat (first | (with_reducible first | exact HB.out | apply below_alloc | apply pw_below_drewN | apply below_drew1) | exact HB.out)) hb); clear HO154; clear HO157; clear HB; have HO154 := n0_; have HO157 := n1_; have HO161 := n2_; have HB := n3_; clear n0_ n1_ n2_ n3_; (try clear hb); (try clear hb2); (try clear hk); (try clear hi); (try clear ho0); obtain ⟨Ao17, co17, eo17⟩ := Kd.R_slice HO161.out; subst eo17) | ((with_reducible refine gate_callee (f := 12) rfl ?_); refine goesL_ (some 31) rfl rfl Try.func12 (by kernel_rfl) rfl #[.slice Ao14 t152.length co14, .slice Ao15 t155.length co15] rfl (by (try simp only [List.map_toArray, List.map_cons, List.map_nil]); first | done | rfl | (simp only [List.length_drop, List.length_take]; rfl)) ?_; (with_reducible refine (tattleref14_Same.calls k _ _ t152 _ _ t155 true _ ?side1 ?side2 ?side3 ?side4 A9.out).mono ?_); (case side1 => repeat (first | exact (Kd.V_reads' HO154.out).2.2 | (with_reducible refine Kd.C_alloc ?_ _) | (with_reducible refine Kd.C_drewN ?_ _) | (with_reducible refine Kd.C_drew ?_))); (case side2 => exact (Kd.V_reads' HO154.out).2.1); (case side3 => repeat (first | exact (Kd.V_reads' HO157.out).2.2 | (with_reducible refine Kd.C_alloc ?_ _) | (with_reducible refine Kd.C_drewN ?_ _) | (with_reducible refine Kd.C_drew ?_))); (case side4 => exact (Kd.V_reads' HO157.out).2.1); rintro e w' ⟨rfl, ⟨nd, rfl⟩⟩; refine ⟨_, rfl, ?_⟩) | (go_at_call 11; (with_reducible refine (tattlelaw15_awake.calls k  t164 _ A11.out).mono ?_); rintro e w18 ⟨rfl, hb⟩; have n0_ := Aside0.mk (Kd.V_below (by (with_reducible repeat (first | apply Kd.V_alloc | apply Kd.V_drewN | apply Kd.V_drew)); exact HO154.out) hb); have n1_ := Aside0.mk (Kd.V_below (by (with_reducible repeat (first | apply Kd.V_alloc | apply Kd.V_drewN | apply Kd.V_drew)); exact HO157.out) hb); have n2_ := Aside0.mk (Kd.R_below (by (with_reducible repeat (first | apply Kd.R_alloc | apply Kd.R_drewN | apply Kd.R_drew)); exact HO161.out) hb); have n3_ := Aside0.mk (below_step (by repeat (first | (with_reducible first | exact HB.out | apply below_alloc | apply pw_below_drewN | apply below_drew1) | exact HB.out)) hb); clear HO154; clear HO157; clear HO161; clear HB; have HO154 := n0_; have HO157 := n1_; have HO161 := n2_; have HB := n3_; clear n0_ n1_ n2_ n3_; (try clear hb); (try clear hb2); (try clear hk); (try clear hi)))
        go_ret
        exact ⟨by first | rfl | (simp [errW_none, errW_some] <;> rfl) | (simp [*, errW_none, errW_some] <;> rfl), by repeat (first | (with_reducible first | exact HB.out | apply below_alloc | apply pw_below_drewN | apply below_drew1) | exact HB.out)⟩
      · replace c10 := Bool.eq_false_iff.mpr c10
        subst c10
        have H1 : (none) = some r := by rw [if_neg (show ¬ (false = true) by decide)] at H; exact H
        clear H
        have H := H1
        clear H1
        exact absurd H (by simp)
    · rw [if_neg c8] at H
      have c8b0 : ((t158.length : Int) == 0) = false := beq_eq_false_iff_ne.mpr c8
      have c8b1 : ((t158.length : Int) != 0) = true := bne_iff_ne.mpr c8
      have c8b2 : ¬ (t158 = []) := fun h_ => c8 (by rw [h_]; rfl)
      obtain ⟨y165, hy165⟩ : ∃ y_ : List (S36), y_ = (([] : List (S36))) := ⟨_, rfl⟩
      replace H : (if 0 ≤ (Int.tmod (wrap64 (a2)) (t158.length : Int)) then (if (Int.tmod (wrap64 (a2)) (t158.length : Int)) ≤ (t158.length : Int) then ((some (t158.take ((Int.tmod (wrap64 (a2)) (t158.length : Int)) : Int).toNat : List (S36))).bind fun y168 => (if y165.length + y168.length < 4398046511104 then ((some (y165 ++ y168 : List (S36))).bind fun y172 => (if 0 ≤ (wrap64 ((Int.tmod (wrap64 (a2)) (t158.length : Int)) + 1)) then (if (wrap64 ((Int.tmod (wrap64 (a2)) (t158.length : Int)) + 1)) ≤ (t158.length : Int) then ((some (t158.drop ((wrap64 ((Int.tmod (wrap64 (a2)) (t158.length : Int)) + 1)) : Int).toNat : List (S36))).bind fun y175 => (if y172.length + y175.length < 4398046511104 then ((plan_Apply.f k t152 (y172 ++ y175)).bind fun bt182 => (if bt182.2 = 9 then ((tattleref14_Same.f k t152 t155).bind fun t186 => (if t186 = true then (none) else ((tattlelaw15_awake.f k).bind fun t187 => (some t187)))) else (if bt182.2 = 0 then ((tattleref14_Same.f k bt182.1 t155).bind fun t188 => (if t188 = true then (none) else ((tattleref14_Same.f k t152 t155).bind fun t189 => (if t189 = true then (none) else ((tattlelaw15_awake.f k).bind fun t190 => (some t190)))))) else (none)))) else (none))) else (none)) else (none))) else (none))) else (none)) else (none)) = some r := by first | (rw [hy165]; with_reducible exact H) | (have H2_ := (Option.bind_some _ _).symm.trans H; rw [hy165]; with_reducible exact H2_) | (have H2_ := (Option.bind_some _ _).symm.trans H; with_reducible exact H2_) | with_reducible exact H | (rw [hy165]; exact H) | exact H
      have Ny165 := Aside0.mk hy165
      clear hy165
      obtain ⟨ji19, hji19⟩ : ∃ j_ : Int, (Int.tmod (wrap64 (a2)) (t158.length : Int)) = j_ := ⟨_, rfl⟩
      replace H : (if 0 ≤ (ji19) then (if (ji19) ≤ (t158.length : Int) then ((some (t158.take ((ji19) : Int).toNat : List (S36))).bind fun y168 => (if y165.length + y168.length < 4398046511104 then ((some (y165 ++ y168 : List (S36))).bind fun y172 => (if 0 ≤ (wrap64 ((ji19) + 1)) then (if (wrap64 ((ji19) + 1)) ≤ (t158.length : Int) then ((some (t158.drop ((wrap64 ((ji19) + 1)) : Int).toNat : List (S36))).bind fun y175 => (if y172.length + y175.length < 4398046511104 then ((plan_Apply.f k t152 (y172 ++ y175)).bind fun bt182 => (if bt182.2 = 9 then ((tattleref14_Same.f k t152 t155).bind fun t186 => (if t186 = true then (none) else ((tattlelaw15_awake.f k).bind fun t187 => (some t187)))) else (if bt182.2 = 0 then ((tattleref14_Same.f k bt182.1 t155).bind fun t188 => (if t188 = true then (none) else ((tattleref14_Same.f k t152 t155).bind fun t189 => (if t189 = true then (none) else ((tattlelaw15_awake.f k).bind fun t190 => (some t190)))))) else (none)))) else (none))) else (none)) else (none))) else (none))) else (none)) else (none)) = some r := by first | (rw [hji19] at H; exact H) | (simp only [hji19] at H ⊢; exact H)
      (try rw [hji19] at A4)
      (try rw [hji19] at A5)
      (try rw [hji19] at A6)
      by_cases c20 : 0 ≤ (ji19)
      · rw [if_pos c20] at H
        have c20b0 := eq_true c20
        have c20b1 : decide (0 ≤ (ji19)) = true := decide_eq_true c20
        clear c20
        by_cases c21 : (ji19) ≤ (t158.length : Int)
        · rw [if_pos c21] at H
          have c21b0 := eq_true c21
          have c21b1 : decide ((ji19) ≤ (t158.length : Int)) = true := decide_eq_true c21
          clear c21
          obtain ⟨y168, hy168⟩ : ∃ y_ : List (S36), y_ = (t158.take ((ji19) : Int).toNat) := ⟨_, rfl⟩
          replace H : (if y165.length + y168.length < 4398046511104 then ((some (y165 ++ y168 : List (S36))).bind fun y172 => (if 0 ≤ (wrap64 ((ji19) + 1)) then (if (wrap64 ((ji19) + 1)) ≤ (t158.length : Int) then ((some (t158.drop ((wrap64 ((ji19) + 1)) : Int).toNat : List (S36))).bind fun y175 => (if y172.length + y175.length < 4398046511104 then ((plan_Apply.f k t152 (y172 ++ y175)).bind fun bt182 => (if bt182.2 = 9 then ((tattleref14_Same.f k t152 t155).bind fun t186 => (if t186 = true then (none) else ((tattlelaw15_awake.f k).bind fun t187 => (some t187)))) else (if bt182.2 = 0 then ((tattleref14_Same.f k bt182.1 t155).bind fun t188 => (if t188 = true then (none) else ((tattleref14_Same.f k t152 t155).bind fun t189 => (if t189 = true then (none) else ((tattlelaw15_awake.f k).bind fun t190 => (some t190)))))) else (none)))) else (none))) else (none)) else (none))) else (none)) = some r := by first | (rw [hy168]; with_reducible exact H) | (have H2_ := (Option.bind_some _ _).symm.trans H; rw [hy168]; with_reducible exact H2_) | (have H2_ := (Option.bind_some _ _).symm.trans H; with_reducible exact H2_) | with_reducible exact H | (rw [hy168]; exact H) | exact H
          have Ny168 := Aside0.mk hy168
          clear hy168
          by_cases c22 : y165.length + y168.length < 4398046511104
          · rw [if_pos c22] at H
            have LMc22 := Aside0.mk c22
            clear c22
            obtain ⟨y172, hy172⟩ : ∃ y_ : List (S36), y_ = (y165 ++ y168) := ⟨_, rfl⟩
            replace H : (if 0 ≤ (wrap64 ((ji19) + 1)) then (if (wrap64 ((ji19) + 1)) ≤ (t158.length : Int) then ((some (t158.drop ((wrap64 ((ji19) + 1)) : Int).toNat : List (S36))).bind fun y175 => (if y172.length + y175.length < 4398046511104 then ((plan_Apply.f k t152 (y172 ++ y175)).bind fun bt182 => (if bt182.2 = 9 then ((tattleref14_Same.f k t152 t155).bind fun t186 => (if t186 = true then (none) else ((tattlelaw15_awake.f k).bind fun t187 => (some t187)))) else (if bt182.2 = 0 then ((tattleref14_Same.f k bt182.1 t155).bind fun t188 => (if t188 = true then (none) else ((tattleref14_Same.f k t152 t155).bind fun t189 => (if t189 = true then (none) else ((tattlelaw15_awake.f k).bind fun t190 => (some t190)))))) else (none)))) else (none))) else (none)) else (none)) = some r := by first | (rw [hy172]; with_reducible exact H) | (have H2_ := (Option.bind_some _ _).symm.trans H; rw [hy172]; with_reducible exact H2_) | (have H2_ := (Option.bind_some _ _).symm.trans H; with_reducible exact H2_) | with_reducible exact H | (rw [hy172]; exact H) | exact H
            have Ny172 := Aside0.mk hy172
            clear hy172
            obtain ⟨ji23, hji23⟩ : ∃ j_ : Int, (wrap64 ((ji19) + 1)) = j_ := ⟨_, rfl⟩
            replace H : (if 0 ≤ (ji23) then (if (ji23) ≤ (t158.length : Int) then ((some (t158.drop ((ji23) : Int).toNat : List (S36))).bind fun y175 => (if y172.length + y175.length < 4398046511104 then ((plan_Apply.f k t152 (y172 ++ y175)).bind fun bt182 => (if bt182.2 = 9 then ((tattleref14_Same.f k t152 t155).bind fun t186 => (if t186 = true then (none) else ((tattlelaw15_awake.f k).bind fun t187 => (some t187)))) else (if bt182.2 = 0 then ((tattleref14_Same.f k bt182.1 t155).bind fun t188 => (if t188 = true then (none) else ((tattleref14_Same.f k t152 t155).bind fun t189 => (if t189 = true then (none) else ((tattlelaw15_awake.f k).bind fun t190 => (some t190)))))) else (none)))) else (none))) else (none)) else (none)) = some r := by first | (rw [hji23] at H; exact H) | (simp only [hji23] at H ⊢; exact H)
            (try rw [hji23] at A4)
            (try rw [hji23] at A5)
            (try rw [hji23] at A6)
            have hji23w : (IntKind.i64.wrap ((ji19) + 1)) = ji23 := (i64_w _).trans hji23
            by_cases c24 : 0 ≤ (ji23)
            · rw [if_pos c24] at H
              have c24b0 := eq_true c24
              have c24b1 : decide (0 ≤ (ji23)) = true := decide_eq_true c24
              clear c24
              by_cases c25 : (ji23) ≤ (t158.length : Int)
              · rw [if_pos c25] at H
                have c25b0 := eq_true c25
                have c25b1 : decide ((ji23) ≤ (t158.length : Int)) = true := decide_eq_true c25
                clear c25
                obtain ⟨y175, hy175⟩ : ∃ y_ : List (S36), y_ = (t158.drop ((ji23) : Int).toNat) := ⟨_, rfl⟩
                replace H : (if y172.length + y175.length < 4398046511104 then ((plan_Apply.f k t152 (y172 ++ y175)).bind fun bt182 => (if bt182.2 = 9 then ((tattleref14_Same.f k t152 t155).bind fun t186 => (if t186 = true then (none) else ((tattlelaw15_awake.f k).bind fun t187 => (some t187)))) else (if bt182.2 = 0 then ((tattleref14_Same.f k bt182.1 t155).bind fun t188 => (if t188 = true then (none) else ((tattleref14_Same.f k t152 t155).bind fun t189 => (if t189 = true then (none) else ((tattlelaw15_awake.f k).bind fun t190 => (some t190)))))) else (none)))) else (none)) = some r := by first | (rw [hy175]; with_reducible exact H) | (have H2_ := (Option.bind_some _ _).symm.trans H; rw [hy175]; with_reducible exact H2_) | (have H2_ := (Option.bind_some _ _).symm.trans H; with_reducible exact H2_) | with_reducible exact H | (rw [hy175]; exact H) | exact H
                have Ny175 := Aside0.mk hy175
                clear hy175
                by_cases c26 : y172.length + y175.length < 4398046511104
                · rw [if_pos c26] at H
                  have LMc26 := Aside0.mk c26
                  clear c26
                  obtain ⟨y179, hy179⟩ : ∃ y_ : List (S36), y_ = (y172 ++ y175) := ⟨_, rfl⟩
                  replace H : ((plan_Apply.f k t152 y179).bind fun bt182 => (if bt182.2 = 9 then ((tattleref14_Same.f k t152 t155).bind fun t186 => (if t186 = true then (none) else ((tattlelaw15_awake.f k).bind fun t187 => (some t187)))) else (if bt182.2 = 0 then ((tattleref14_Same.f k bt182.1 t155).bind fun t188 => (if t188 = true then (none) else ((tattleref14_Same.f k t152 t155).bind fun t189 => (if t189 = true then (none) else ((tattlelaw15_awake.f k).bind fun t190 => (some t190)))))) else (none)))) = some r := by first | (rw [hy179]; with_reducible exact H) | (have H2_ := (Option.bind_some _ _).symm.trans H; rw [hy179]; with_reducible exact H2_) | (have H2_ := (Option.bind_some _ _).symm.trans H; with_reducible exact H2_) | with_reducible exact H | (rw [hy179]; exact H) | exact H
                  have Ny179 := Aside0.mk hy179
                  clear hy179
                  replace H := Option.bind_eq_some_iff.mp H
                  obtain ⟨⟨t182, t183⟩, A270, H⟩ := H
                  replace H : (if t183 = 9 then ((tattleref14_Same.f k t152 t155).bind fun t186 => (if t186 = true then (none) else ((tattlelaw15_awake.f k).bind fun t187 => (some t187)))) else (if t183 = 0 then ((tattleref14_Same.f k t182 t155).bind fun t188 => (if t188 = true then (none) else ((tattleref14_Same.f k t152 t155).bind fun t189 => (if t189 = true then (none) else ((tattlelaw15_awake.f k).bind fun t190 => (some t190)))))) else (none))) = some r := H
                  have A27 := Aside0.mk A270
                  clear A270
                  by_cases c28 : t183 = 9
                  · rw [if_pos c28] at H
                    have c28b0 : (t183 == 9) = true := beq_iff_eq.mpr c28
                    have c28b1 : (t183 != 9) = false := bne_eq_false_iff_eq.mpr c28
                    clear c28
                    replace H := Option.bind_eq_some_iff.mp H
                    obtain ⟨t186, A290, H⟩ := H
                    replace H : (if t186 = true then (none) else ((tattlelaw15_awake.f k).bind fun t187 => (some t187))) = some r := H
                    have A29 := Aside0.mk A290
                    clear A290
                    by_cases c30 : t186 = true
                    · subst c30
                      have H1 : (none) = some r := by rw [if_pos rfl] at H; exact H
                      clear H
                      have H := H1
                      clear H1
                      exact absurd H (by simp)
                    · replace c30 := Bool.eq_false_iff.mpr c30
                      subst c30
                      have H1 : ((tattlelaw15_awake.f k).bind fun t187 => (some t187)) = some r := by rw [if_neg (show ¬ (false = true) by decide)] at H; exact H
                      clear H
                      have H := H1
                      clear H1
                      replace H := Option.bind_eq_some_iff.mp H
                      obtain ⟨t187, A310, H⟩ := H
                      replace H : (some t187) = some r := H
                      have A31 := Aside0.mk A310
                      clear A310
                      obtain rfl := Option.some.inj H
                      go_enter Try.func3, Try.ntmps3
                      try go_wp2_with (first | ((with_reducible refine gate_callee (f := 9) rfl ?_); refine goesL_ (some 14) rfl rfl Try.func9 (by kernel_rfl) rfl #[.slice A0 l0.length c0] rfl (by (try simp only [List.map_toArray, List.map_cons, List.map_nil]); first | done | rfl | (simp only [List.length_drop, List.length_take]; rfl)) ?_; (with_reducible refine (tattlelaw15_Puts.calls (fun k_ => k_ < w.heap.size) _ _ l0 t152 _ ?side1 A4.out).mono ?_); (case side1 => exact Kd.V_mk HC0.out (Kd.F_below (Kd.C_F k52_heap HR0.out) (by repeat (first | (with_reducible first | exact HB.out | apply below_alloc | apply pw_below_drewN | apply below_drew1) | exact HB.out)))); rintro e w32 ⟨v153, rfl, ho0, hb⟩; refine ⟨_, rfl, ?_⟩; have n0_ := Aside0.mk (Kd.V_lower (Kd.V_mono (ok' := fun k_ => True) ho0 (fun k_ hk_ => trivial)) (below_size (by repeat (first | (with_reducible first | exact HB.out | apply below_alloc | apply pw_below_drewN | apply below_drew1) | exact HB.out)))); have n1_ := Aside0.mk (below_step (by repeat (first | (with_reducible first | exact HB.out | apply below_alloc | apply pw_below_drewN | apply below_drew1) | exact HB.out)) hb); clear HB; have HO154 := n0_; have HB := n1_; clear n0_ n1_; (try clear hb); (try clear hb2); (try clear hk); (try clear hi); (try clear ho0)) | ((with_reducible refine gate_callee (f := 9) rfl ?_); refine goesL_ (some 16) rfl rfl Try.func9 (by kernel_rfl) rfl #[.slice A1 l1.length c1] rfl (by (try simp only [List.map_toArray, List.map_cons, List.map_nil]); first | done | rfl | (simp only [List.length_drop, List.length_take]; rfl)) ?_; (with_reducible refine (tattlelaw15_Puts.calls (fun k_ => k_ < w.heap.size) _ _ l1 t155 _ ?side1 A5.out).mono ?_); (case side1 => exact Kd.V_mk HC1.out (Kd.F_below (Kd.C_F k52_heap HR1.out) (by repeat (first | (with_reducible first | exact HB.out | apply below_alloc | apply pw_below_drewN | apply below_drew1) | exact HB.out)))); rintro e w33 ⟨v156, rfl, ho0, hb⟩; refine ⟨_, rfl, ?_⟩; have n0_ := Aside0.mk (Kd.V_below (by (with_reducible repeat (first | apply Kd.V_alloc | apply Kd.V_drewN | apply Kd.V_drew)); exact HO154.out) hb); have n1_ := Aside0.mk (Kd.V_lower (Kd.V_mono (ok' := fun k_ => True) ho0 (fun k_ hk_ => trivial)) (below_size (by repeat (first | (with_reducible first | exact HB.out | apply below_alloc | apply pw_below_drewN | apply below_drew1) | exact HB.out)))); have n2_ := Aside0.mk (below_step (by repeat (first | (with_reducible first | exact HB.out | apply below_alloc | apply pw_below_drewN | apply below_drew1) | exact HB.out)) hb); clear HO154; clear HB; have HO154 := n0_; have HO157 := n1_; have HB := n2_; clear n0_ n1_ n2_; (try clear hb); (try clear hb2); (try clear hk); (try clear hi); (try clear ho0); obtain ⟨Ao34, co34, eo34⟩ := Kd.V_slice HO154.out; subst eo34; obtain ⟨Ao35, co35, eo35⟩ := Kd.V_slice HO157.out; subst eo35) | ((with_reducible refine gate_callee (f := 10) rfl ?_); refine goesL_ (some 20) rfl rfl Try.func10 (by kernel_rfl) rfl #[.slice Ao34 t152.length co34, .slice Ao35 t155.length co35] rfl (by (try simp only [List.map_toArray, List.map_cons, List.map_nil]); first | done | rfl | (simp only [List.length_drop, List.length_take]; rfl)) ?_; (with_reducible refine (plan_Diff.calls k _ _ t152 _ _ t155 t158 t159 _ ?side1 ?side2 ?side3 ?side4 A6.out).mono ?_); (case side1 => repeat (first | exact (Kd.V_reads' HO154.out).2.2 | (with_reducible refine Kd.C_alloc ?_ _) | (with_reducible refine Kd.C_drewN ?_ _) | (with_reducible refine Kd.C_drew ?_))); (case side2 => exact (Kd.V_reads' HO154.out).2.1); (case side3 => repeat (first | exact (Kd.V_reads' HO157.out).2.2 | (with_reducible refine Kd.C_alloc ?_ _) | (with_reducible refine Kd.C_drewN ?_ _) | (with_reducible refine Kd.C_drew ?_))); (case side4 => exact (Kd.V_reads' HO157.out).2.1); rintro e w36 ⟨v160, rfl, ho0, hb⟩; refine ⟨_, rfl, ?_⟩; have n0_ := Aside0.mk (Kd.V_elder' (by (with_reducible repeat (first | apply Kd.V_alloc | apply Kd.V_drewN | apply Kd.V_drew)); exact HO154.out) (Kd.R_base ho0) hb); have n1_ := Aside0.mk (Kd.V_elder' (by (with_reducible repeat (first | apply Kd.V_alloc | apply Kd.V_drewN | apply Kd.V_drew)); exact HO157.out) (Kd.R_base ho0) hb); have n2_ := Aside0.mk (Kd.R_lower ho0 (below_size (by repeat (first | (with_reducible first | exact HB.out | apply below_alloc | apply pw_below_drewN | apply below_drew1) | exact HB.out)))); have n3_ := Aside0.mk (below_step (by repeat (first | (with_reducible first | exact HB.out | apply below_alloc | apply pw_below_drewN | apply below_drew1) | exact HB.out)) hb); clear HO154; clear HO157; clear HB; have HO154 := n0_; have HO157 := n1_; have HO161 := n2_; have HB := n3_; clear n0_ n1_ n2_ n3_; (try clear hb); (try clear hb2); (try clear hk); (try clear hi); (try clear ho0); obtain ⟨Ao37, co37, eo37⟩ := Kd.R_slice HO161.out; subst eo37))
                      have n0_ := Aside0.mk (Kd.V_drew HO154.out)
                      have n1_ := Aside0.mk (Kd.V_drew HO157.out)
                      have n2_ := Aside0.mk (Kd.R_drew HO161.out)
                      have n3_ := Aside0.mk (below_drew1 HB.out)
                      clear HO154
                      clear HO157
                      clear HO161
                      clear HB
                      have HO154 := n0_
                      have HO157 := n1_
                      have HO161 := n2_
                      have HB := n3_
                      clear n0_ n1_ n2_ n3_
                      have q39 : ((ji19) : Int) ≤ ((t158.length : Int) : Int) := of_decide_eq_true (by first | (with_reducible assumption) | assumption)
                      obtain ⟨i039, hi039, _, hsz39, _⟩ := info_parts info36
                      have hroom39 : t158.length ≤ co37 := (Kd.R_reads' HO161.out).2.1
                      have hC39 : Kd.C k36 _ Ao37 t158.length t158 := (Kd.R_reads' HO161.out).2.2
                      have hcut39 := cut_to (P := Try.prog) 24 36 .i64 Try.underlying24 hi039 Ao37 t158.length co37 (ji19) (of_decide_eq_true (by first | (with_reducible assumption) | assumption)) q39 hroom39
                      have hr39 := Kd.C_take (m := ((ji19) : Int).toNat) hC39 (by omega)
                      have hy39 : y168.length = ((ji19) : Int).toNat := (by rw [Ny168.out, List.length_take]; omega)
                      rw [← Ny168.out] at hr39
                      rw [← hy39] at hcut39
                      have HR171 := Aside0.mk hr39
                      have HC171 := Aside0.mk (show y168.length ≤ co37 from by omega)
                      clear hr39 hC39 hroom39 hi039 hsz39
                      have KY39 := Aside0.mk hy39
                      clear hy39
                      have KL39 := Aside0.mk (show ((ji19) : Int).toNat ≤ t158.length from by omega)
                      replace q39 := eq_true q39
                      have q40 : ((ji23) : Int) ≤ ((t158.length : Int) : Int) := of_decide_eq_true (by first | (with_reducible assumption) | assumption)
                      obtain ⟨i040, hi040, _, hsz40, _⟩ := info_parts info36
                      have hroom40 : t158.length ≤ co37 := (Kd.R_reads' HO161.out).2.1
                      have hC40 : Kd.C k36 _ Ao37 t158.length t158 := (Kd.R_reads' HO161.out).2.2
                      have q040 : (0 : Int) ≤ ((ji23) : Int) := of_decide_eq_true (by first | (with_reducible assumption) | assumption)
                      have hcut40 := cut_from (P := Try.prog) 24 36 .i64 Try.underlying24 hi040 3 hsz40 Ao37 t158.length co37 (ji23) q040 q40
                      have hr40 := Kd.C_drop (m := ((ji23) : Int).toNat) (c := co37) hC40 (by omega) hroom40
                      obtain ⟨A40, hA40⟩ : ∃ A1, A1 = (if co37 = ((ji23) : Int).toNat then Ao37 else (Ao37 : Option Addr).map (·.add (((ji23) : Int).toNat * 3))) := ⟨_, rfl⟩
                      obtain ⟨c40, hc40⟩ : ∃ c1, c1 = co37 - ((ji23) : Int).toNat := ⟨_, rfl⟩
                      have hy40 : y175.length = t158.length - ((ji23) : Int).toNat := (by rw [Ny175.out, List.length_drop] <;> omega)
                      rw [show (t158).drop ((ji23) : Int).toNat = y175 from Ny175.out.symm] at hr40
                      replace hr40 : Kd.C k36 _ A40 y175.length y175 := (by rw [hA40]; exact hr40)
                      rw [← hy40, ← hA40, ← hc40] at hcut40
                      have HR178 := Aside0.mk hr40
                      have HC178 := Aside0.mk (show y175.length ≤ c40 from by rw [hy40, hc40]; exact Nat.sub_le_sub_right hroom40 _)
                      clear hr40 hC40 hroom40 hi040 hsz40 hc40
                      have KY40 := Aside0.mk hy40
                      have KA40 := Aside0.mk hA40
                      clear hy40 hA40
                      have KL40 := Aside0.mk (show ((ji23) : Int).toNat ≤ t158.length from by omega)
                      replace q40 := eq_true q40
                      refine start_ (n := 11) (S := fun w' => True) (ds := []) #[false, false, false, false, false, false, false, false, false, false, false] (by kernel_rfl) rfl rfl trivial (fun hHeld => ?_); refine with_tabW tattlelaw15_PlanFewest.tab8 tattlelaw15_PlanFewest.bits8 (fun HT_ HW_ => ?_)
                      generalize w36.drew = w38 at HO154 HO157 HO161 HB HR171 HR178 hHeld ⊢
                      refine pure_ (i := 1) (N := some 41) (v := ?_) (a' := ?_) #[false, true, false, false, false, false, false, false, false, false, false] rfl rfl (any_of HT_.out (by kernel_rfl)) (fun _ _ _ h => h) (Or.inl ⟨by rfl, ?_⟩) ?_ ?_
                      rotate_left
                      · intro w'
                        go_simp
                        with_reducible rfl
                      rotate_left
                      · simp only [Act.put, List.setIfInBounds_toArray, List.set_cons_zero, List.set_cons_succ, i64_w, i32_w]
                        rfl
                      refine pure_ (i := 2) (N := some 42) (v := ?_) (a' := ?_) #[false, true, true, false, false, false, false, false, false, false, false] rfl rfl (any_of HT_.out (by kernel_rfl)) (fun _ _ _ h => h) (Or.inl ⟨by rfl, ?_⟩) ?_ ?_
                      rotate_left
                      · intro w'
                        go_simp
                        with_reducible rfl
                      rotate_left
                      · simp only [Act.put, List.setIfInBounds_toArray, List.set_cons_zero, List.set_cons_succ, i64_w, i32_w]
                        rfl
                      refine pure_ (i := 3) (N := some 43) (v := ?_) (a' := ?_) #[false, true, true, true, false, false, false, false, false, false, false] rfl rfl (any_of HT_.out (by kernel_rfl)) (fun _ _ _ h => h) (Or.inl ⟨by rfl, ?_⟩) ?_ ?_
                      rotate_left
                      · intro w'
                        go_simp
                        with_reducible rfl
                      rotate_left
                      · simp only [Act.put, List.setIfInBounds_toArray, List.set_cons_zero, List.set_cons_succ, i64_w, i32_w]
                        rfl
                      refine pure_ (i := 5) (N := some 45) (v := ?_) (a' := ?_) #[false, true, true, true, false, true, false, false, false, false, false] rfl rfl (any_of HT_.out (by kernel_rfl)) (fun _ _ _ h => h) (Or.inl ⟨by rfl, ?_⟩) ?_ ?_
                      rotate_left
                      · intro w'
                        go_simp
                        with_reducible rfl
                      rotate_left
                      · simp only [Act.put, List.setIfInBounds_toArray, List.set_cons_zero, List.set_cons_succ, i64_w, i32_w]
                        rfl
                      refine pure_ (i := 6) (N := some 46) (v := ?_) (a' := ?_) #[false, true, true, true, false, true, true, false, false, false, false] rfl rfl (any_of HT_.out (by kernel_rfl)) (fun _ _ _ h => h) (Or.inl ⟨by rfl, ?_⟩) ?_ ?_
                      rotate_left
                      · intro w'
                        go_simp
                        with_reducible rfl
                      rotate_left
                      · simp only [Act.put, List.setIfInBounds_toArray, List.set_cons_zero, List.set_cons_succ, i64_w, i32_w]
                        rfl
                      refine pure_ (i := 7) (N := some 47) (v := ?_) (a' := ?_) #[false, true, true, true, false, true, true, true, false, false, false] rfl rfl (any_of HT_.out (by kernel_rfl)) (fun _ _ _ h => h) (Or.inl ⟨by rfl, ?_⟩) ?_ ?_
                      rotate_left
                      · intro w'
                        go_simp
                        with_reducible rfl
                      rotate_left
                      · simp only [Act.put, List.setIfInBounds_toArray, List.set_cons_zero, List.set_cons_succ, i64_w, i32_w]
                        rfl
                      refine pure_ (i := 8) (N := some 48) (v := ?_) (a' := ?_) #[false, true, true, true, false, true, true, true, true, false, false] rfl rfl (any_of HT_.out (by kernel_rfl)) (fun _ _ _ h => h) (Or.inl ⟨by rfl, ?_⟩) ?_ ?_
                      rotate_left
                      · intro w'
                        go_simp
                        with_reducible rfl
                      rotate_left
                      · simp only [Act.put, List.setIfInBounds_toArray, List.set_cons_zero, List.set_cons_succ, i64_w, i32_w]
                        rfl
                      refine one_ (i := 0) (N := some 40) #[true, true, true, true, false, true, true, true, true, false, false] rfl rfl (one_of HT_.out (by kernel_rfl)) (by decide) (fun K hK => ?_)
                      refine Kd.R_lit_step k36 _ 36 ?hg (N := 40) ?hd (xs := ([] : List (S36))) (inner := []) (ok := fun _ => True) (okp := fun _ => True) ?hr ?hp (fun _ hk => hk) trivial (Below.refl _ _) (Nat.le_refl _) (by simp) ?_; (case hd => rfl); (case hg => rfl); (case hr => first | (go_simp; done) | (go_simp; rfl)); (case hp => exact (Reps.none _ _))
                      intro v166 w41 ho42 hb hg_ hnew_
                      clear hg_ hnew_
                      (first | rw [← Ny165.out] at ho42 | (simp only [Int.reduceToNat] at ho42; rw [← Ny165.out] at ho42))
                      have n0_ := Aside0.mk (Kd.V_elder' (by (with_reducible repeat (first | apply Kd.V_alloc | apply Kd.V_drewN | apply Kd.V_drew)); exact HO154.out) (Kd.R_base ho42) hb)
                      have n1_ := Aside0.mk (Kd.V_elder' (by (with_reducible repeat (first | apply Kd.V_alloc | apply Kd.V_drewN | apply Kd.V_drew)); exact HO157.out) (Kd.R_base ho42) hb)
                      have n2_ := Aside0.mk (Kd.R_elder' (by (with_reducible repeat (first | apply Kd.R_alloc | apply Kd.R_drewN | apply Kd.R_drew)); exact HO161.out) (Kd.R_base ho42) hb)
                      have n3_ := Aside0.mk (Kd.R_lower (Kd.R_new' ho42 (Kd.R_lt (by (with_reducible repeat (first | apply Kd.R_alloc | apply Kd.R_drewN | apply Kd.R_drew)); exact HO161.out))) (below_size (by repeat (first | (with_reducible first | exact HB.out | apply below_alloc | apply pw_below_drewN | apply below_drew1) | exact HB.out))))
                      have n4_ := Aside0.mk (Kd.C_below (by repeat (first | (with_reducible exact HR171.out) | (with_reducible refine Kd.C_alloc ?_ _) | (with_reducible refine Kd.C_drewN ?_ _) | (with_reducible refine Kd.C_drew ?_) | exact HR171.out)) hb)
                      have n5_ := Aside0.mk (Kd.C_below (by repeat (first | (with_reducible exact HR178.out) | (with_reducible refine Kd.C_alloc ?_ _) | (with_reducible refine Kd.C_drewN ?_ _) | (with_reducible refine Kd.C_drew ?_) | exact HR178.out)) hb)
                      have n6_ := Aside0.mk (below_step (by repeat (first | (with_reducible first | exact HB.out | apply below_alloc | apply pw_below_drewN | apply below_drew1) | exact HB.out)) hb)
                      clear HO154
                      clear HO157
                      clear HO161
                      clear HR171
                      clear HR178
                      clear HB
                      have HO154 := n0_
                      have HO157 := n1_
                      have HO161 := n2_
                      have HO167 := n3_
                      have HR171 := n4_
                      have HR178 := n5_
                      have HB := n6_
                      clear n0_ n1_ n2_ n3_ n4_ n5_ n6_
                      clear hb ho42
                      refine hK.out _ _ trivial (fun hHeld => ?_)
                      clear hK K
                      refine norm_ (a' := ?_) ?_ ?_
                      rotate_left
                      · show Act.put _ (some 40) _ = _
                        simp only [Act.put, List.setIfInBounds_toArray, List.set_cons_zero, List.set_cons_succ, i64_w, i32_w]
                        rfl
                      refine one_ (i := 4) (N := some 44) #[true, true, true, true, true, true, true, true, true, false, false] rfl rfl (one_of HT_.out (by kernel_rfl)) (by decide) (fun K hK => ?_)
                      refine Kd.R_append_rows_step k36 (w0 := w) w.heap.size (by rfl) (.tmp 40) (.tmp 43) 24 36 (.agg #[(.string ⟨#[]⟩), (.int .i64 0), (.int .i64 0)]) 32 rfl Try.underlying24 info36 rfl (by decide) (by omega) v166 y165 y168 _ _ _ (fun k_ => some k_ ≠ (.slice Ao37 t158.length co37 : Value).ownBlock) (fun _ => False) rfl rfl ?aO ?aR (fun _ _ h => h) (fun _ h => h.elim) ?aF ?aB ?aS ?aL ?_
                      (case aR => repeat (first | exact (by repeat (first | (with_reducible exact HR171.out) | (with_reducible refine Kd.C_alloc ?_ _) | (with_reducible refine Kd.C_drewN ?_ _) | (with_reducible refine Kd.C_drew ?_) | exact HR171.out)) | (with_reducible refine Kd.C_alloc ?_ _) | (with_reducible refine Kd.C_drewN ?_ _) | (with_reducible refine Kd.C_drew ?_)))
                      (case aB => exact (by repeat (first | (with_reducible first | exact HB.out | apply below_alloc | apply pw_below_drewN | apply below_drew1) | exact HB.out)))
                      (case aF => exact (fun k_ hk => Kd.fresh' (Kd.R_lt (by (with_reducible repeat (first | apply Kd.R_alloc | apply Kd.R_drewN | apply Kd.R_drew)); exact HO161.out)) k_ hk))
                      (case aO => exact (by (with_reducible repeat (first | apply Kd.R_alloc | apply Kd.R_drewN | apply Kd.R_drew)); exact Kd.R_mono HO167.out (fun _ hk => hk.2)))
                      (case aS => exact (below_size (by repeat (first | (with_reducible first | exact HB.out | apply below_alloc | apply pw_below_drewN | apply below_drew1) | exact HB.out))))
                      (case aL => have := LMc22.out; omega)
                      intro v173 w43 ho hb hg hat
                      rw [← Ny172.out] at ho
                      have n0_ := Aside0.mk (Kd.V_afterv (ok := (fun k_ => some k_ ≠ (.slice Ao37 t158.length co37 : Value).ownBlock)) (by (with_reducible repeat (first | apply Kd.V_alloc | apply Kd.V_drewN | apply Kd.V_drew)); exact Kd.V_mono HO154.out (fun _ hk => ⟨hk.1.2, hk.2⟩)) hg hat)
                      have n1_ := Aside0.mk (Kd.V_afterv (ok := (fun k_ => some k_ ≠ (.slice Ao37 t158.length co37 : Value).ownBlock)) (by (with_reducible repeat (first | apply Kd.V_alloc | apply Kd.V_drewN | apply Kd.V_drew)); exact Kd.V_mono HO157.out (fun _ hk => ⟨hk.1.2, hk.2⟩)) hg hat)
                      have n2_ := Aside0.mk (Kd.R_after (ok := (fun _ => True)) (by (with_reducible repeat (first | apply Kd.R_alloc | apply Kd.R_drewN | apply Kd.R_drew)); exact HO161.out) hg hat)
                      have n3_ := Aside0.mk (hb)
                      have n4_ := Aside0.mk ((show Kd.C k36 w43 Ao37 y168.length y168 from by rw [Ny168.out]; exact Kd.C_take (m := ((ji19) : Int).toNat) ((Kd.R_reads' (Kd.R_after (ok := (fun _ => True)) (by (with_reducible repeat (first | apply Kd.R_alloc | apply Kd.R_drewN | apply Kd.R_drew)); exact HO161.out) hg hat)).2.2) KL39.out))
                      have n5_ := Aside0.mk ((show Kd.C k36 w43 A40 y175.length y175 from by rw [Ny175.out, KA40.out]; exact Kd.C_drop (m := ((ji23) : Int).toNat) (c := co37) ((Kd.R_reads' (Kd.R_after (ok := (fun _ => True)) (by (with_reducible repeat (first | apply Kd.R_alloc | apply Kd.R_drewN | apply Kd.R_drew)); exact HO161.out) hg hat)).2.2) KL40.out ((Kd.R_reads' (Kd.R_after (ok := (fun _ => True)) (by (with_reducible repeat (first | apply Kd.R_alloc | apply Kd.R_drewN | apply Kd.R_drew)); exact HO161.out) hg hat)).2.1)))
                      have n6_ := Aside0.mk (ho)
                      clear HO154
                      clear HO157
                      clear HO161
                      clear HB
                      clear HR171
                      clear HR178
                      clear HO167
                      have HO154 := n0_
                      have HO157 := n1_
                      have HO161 := n2_
                      have HB := n3_
                      have HR171 := n4_
                      have HR178 := n5_
                      have HO174 := n6_
                      clear n0_ n1_ n2_ n3_ n4_ n5_ n6_
                      clear ho hb hg hat
                      refine hK.out _ _ trivial (fun hHeld => ?_)
                      clear hK K
                      refine norm_ (a' := ?_) ?_ ?_
                      rotate_left
                      · show Act.put _ (some 44) _ = _
                        simp only [Act.put, List.setIfInBounds_toArray, List.set_cons_zero, List.set_cons_succ, i64_w, i32_w]
                        rfl
                      refine one_ (i := 9) (N := some 49) #[true, true, true, true, true, true, true, true, true, true, false] rfl rfl (one_of HT_.out (by kernel_rfl)) (by decide) (fun K hK => ?_)
                      refine Kd.R_append_rows_step k36 (w0 := w) w.heap.size (by rfl) (.tmp 44) (.tmp 48) 24 36 (.agg #[(.string ⟨#[]⟩), (.int .i64 0), (.int .i64 0)]) 32 rfl Try.underlying24 info36 rfl (by decide) (by omega) v173 y172 y175 _ _ _ (fun k_ => some k_ ≠ (.slice Ao37 t158.length co37 : Value).ownBlock) (fun _ => False) rfl rfl ?aO ?aR (fun _ _ h => h) (fun _ h => h.elim) ?aF ?aB ?aS ?aL ?_
                      (case aR => repeat (first | exact (by repeat (first | (with_reducible exact HR178.out) | (with_reducible refine Kd.C_alloc ?_ _) | (with_reducible refine Kd.C_drewN ?_ _) | (with_reducible refine Kd.C_drew ?_) | exact HR178.out)) | (with_reducible refine Kd.C_alloc ?_ _) | (with_reducible refine Kd.C_drewN ?_ _) | (with_reducible refine Kd.C_drew ?_)))
                      (case aB => exact (by repeat (first | (with_reducible first | exact HB.out | apply below_alloc | apply pw_below_drewN | apply below_drew1) | exact HB.out)))
                      (case aF => exact (fun k_ hk => Kd.fresh' (Kd.R_lt (by (with_reducible repeat (first | apply Kd.R_alloc | apply Kd.R_drewN | apply Kd.R_drew)); exact HO161.out)) k_ hk))
                      (case aO => exact (by (with_reducible repeat (first | apply Kd.R_alloc | apply Kd.R_drewN | apply Kd.R_drew)); exact HO174.out))
                      (case aS => exact (below_size (by repeat (first | (with_reducible first | exact HB.out | apply below_alloc | apply pw_below_drewN | apply below_drew1) | exact HB.out))))
                      (case aL => have := LMc26.out; omega)
                      intro v180 w44 ho hb hg hat
                      rw [← Ny179.out] at ho
                      have n0_ := Aside0.mk (Kd.V_afterv (ok := (fun k_ => some k_ ≠ (.slice Ao37 t158.length co37 : Value).ownBlock)) (by (with_reducible repeat (first | apply Kd.V_alloc | apply Kd.V_drewN | apply Kd.V_drew)); exact HO154.out) hg hat)
                      have n1_ := Aside0.mk (Kd.V_afterv (ok := (fun k_ => some k_ ≠ (.slice Ao37 t158.length co37 : Value).ownBlock)) (by (with_reducible repeat (first | apply Kd.V_alloc | apply Kd.V_drewN | apply Kd.V_drew)); exact HO157.out) hg hat)
                      have n2_ := Aside0.mk (Kd.R_after (ok := (fun _ => True)) (by (with_reducible repeat (first | apply Kd.R_alloc | apply Kd.R_drewN | apply Kd.R_drew)); exact HO161.out) hg hat)
                      have n3_ := Aside0.mk (hb)
                      have n4_ := Aside0.mk ((show Kd.C k36 w44 Ao37 y168.length y168 from by rw [Ny168.out]; exact Kd.C_take (m := ((ji19) : Int).toNat) ((Kd.R_reads' (Kd.R_after (ok := (fun _ => True)) (by (with_reducible repeat (first | apply Kd.R_alloc | apply Kd.R_drewN | apply Kd.R_drew)); exact HO161.out) hg hat)).2.2) KL39.out))
                      have n5_ := Aside0.mk ((show Kd.C k36 w44 A40 y175.length y175 from by rw [Ny175.out, KA40.out]; exact Kd.C_drop (m := ((ji23) : Int).toNat) (c := co37) ((Kd.R_reads' (Kd.R_after (ok := (fun _ => True)) (by (with_reducible repeat (first | apply Kd.R_alloc | apply Kd.R_drewN | apply Kd.R_drew)); exact HO161.out) hg hat)).2.2) KL40.out ((Kd.R_reads' (Kd.R_after (ok := (fun _ => True)) (by (with_reducible repeat (first | apply Kd.R_alloc | apply Kd.R_drewN | apply Kd.R_drew)); exact HO161.out) hg hat)).2.1)))
                      have n6_ := Aside0.mk (ho)
                      clear HO154
                      clear HO157
                      clear HO161
                      clear HB
                      clear HR171
                      clear HR178
                      clear HO174
                      have HO154 := n0_
                      have HO157 := n1_
                      have HO161 := n2_
                      have HB := n3_
                      have HR171 := n4_
                      have HR178 := n5_
                      have HO181 := n6_
                      clear n0_ n1_ n2_ n3_ n4_ n5_ n6_
                      clear ho hb hg hat
                      refine hK.out _ _ trivial (fun hHeld => ?_)
                      clear hK K
                      refine norm_ (a' := ?_) ?_ ?_
                      rotate_left
                      · show Act.put _ (some 49) _ = _
                        simp only [Act.put, List.setIfInBounds_toArray, List.set_cons_zero, List.set_cons_succ, i64_w, i32_w]
                        rfl
                      refine pure_ (i := 10) (N := some 10) (v := ?_) (a' := ?_) #[true, true, true, true, true, true, true, true, true, true, true] rfl rfl (any_of HT_.out (by kernel_rfl)) (fun _ _ _ h => h) (Or.inl ⟨by rfl, ?_⟩) ?_ ?_
                      rotate_left
                      · intro w'
                        go_simp
                        with_reducible rfl
                      rotate_left
                      · simp only [Act.put, List.setIfInBounds_toArray, List.set_cons_zero, List.set_cons_succ, i64_w, i32_w]
                        rfl
                      refine done_ (done_of HT_.out (by kernel_rfl)) ?_
                      obtain ⟨Ao45, co45, eo45⟩ := Kd.R_slice HO181.out
                      subst eo45
                      try go_wp2_with (first | ((with_reducible refine gate_callee (f := 13) rfl ?_); refine goesL_ (some 53) rfl rfl Try.func13 (by kernel_rfl) rfl #[.slice Ao34 t152.length co34, .slice Ao45 y179.length co45] rfl (by (try simp only [List.map_toArray, List.map_cons, List.map_nil]); first | done | rfl | (simp only [List.length_drop, List.length_take]; rfl)) ?_; (with_reducible refine (plan_Apply.calls k _ _ t152 _ _ y179 t182 t183 _ ?side1 ?side2 ?side3 ?side4 A27.out).mono ?_); (case side1 => repeat (first | exact (Kd.V_reads' HO154.out).2.2 | (with_reducible refine Kd.C_alloc ?_ _) | (with_reducible refine Kd.C_drewN ?_ _) | (with_reducible refine Kd.C_drew ?_))); (case side2 => exact (Kd.V_reads' HO154.out).2.1); (case side3 => repeat (first | exact (Kd.R_reads' HO181.out).2.2 | (with_reducible refine Kd.C_alloc ?_ _) | (with_reducible refine Kd.C_drewN ?_ _) | (with_reducible refine Kd.C_drew ?_))); (case side4 => exact (Kd.R_reads' HO181.out).2.1); rintro e w46 ⟨v184, rfl, ho0, hb⟩; refine ⟨_, rfl, ?_⟩; have n0_ := Aside0.mk (Kd.V_elder' (by (with_reducible repeat (first | apply Kd.V_alloc | apply Kd.V_drewN | apply Kd.V_drew)); exact HO154.out) (Kd.R_base ho0) hb); have n1_ := Aside0.mk (Kd.V_elder' (by (with_reducible repeat (first | apply Kd.V_alloc | apply Kd.V_drewN | apply Kd.V_drew)); exact HO157.out) (Kd.R_base ho0) hb); have n2_ := Aside0.mk (Kd.R_below (by (with_reducible repeat (first | apply Kd.R_alloc | apply Kd.R_drewN | apply Kd.R_drew)); exact HO161.out) hb); have n3_ := Aside0.mk (Kd.R_below (by (with_reducible repeat (first | apply Kd.R_alloc | apply Kd.R_drewN | apply Kd.R_drew)); exact HO181.out) hb); have n4_ := Aside0.mk (Kd.R_lower ho0 (below_size (by repeat (first | (with_reducible first | exact HB.out | apply below_alloc | apply pw_below_drewN | apply below_drew1) | exact HB.out)))); have n5_ := Aside0.mk (Kd.C_below (by repeat (first | (with_reducible exact HR171.out) | (with_reducible refine Kd.C_alloc ?_ _) | (with_reducible refine Kd.C_drewN ?_ _) | (with_reducible refine Kd.C_drew ?_) | exact HR171.out)) hb); have n6_ := Aside0.mk (Kd.C_below (by repeat (first | (with_reducible exact HR178.out) | (with_reducible refine Kd.C_alloc ?_ _) | (with_reducible refine Kd.C_drewN ?_ _) | (with_reducible refine Kd.C_drew ?_) | exact HR178.out)) hb); have n7_ := Aside0.mk (below_step (by repeat (first | (with_reducible first | exact HB.out | apply below_alloc | apply pw_below_drewN | apply below_drew1) | exact HB.out)) hb); clear HO154; clear HO157; clear HO161; clear HO181; clear HR171; clear HR178; clear HB; have HO154 := n0_; have HO157 := n1_; have HO161 := n2_; have HO181 := n3_; have HO185 := n4_; have HR171 := n5_; have HR178 := n6_; have HB := n7_; clear n0_ n1_ n2_ n3_ n4_ n5_ n6_ n7_; (try clear hb); (try clear hb2); (try clear hk); (try clear hi); (try clear ho0)) | (go_at_call 12; (with_reducible refine (tattleref14_Same.calls k _ _ t152 _ _ t155 false _ ?side1 ?side2 ?side3 ?side4 A29.out).mono ?_); (case side1 => repeat (first | exact (Kd.V_reads' HO154.out).2.2 | (with_reducible refine Kd.C_alloc ?_ _) | (with_reducible refine Kd.C_drewN ?_ _) | (with_reducible refine Kd.C_drew ?_))); (case side2 => exact (Kd.V_reads' HO154.out).2.1); (case side3 => repeat (first | exact (Kd.V_reads' HO157.out).2.2 | (with_reducible refine Kd.C_alloc ?_ _) | (with_reducible refine Kd.C_drewN ?_ _) | (with_reducible refine Kd.C_drew ?_))); (case side4 => exact (Kd.V_reads' HO157.out).2.1); rintro e w' ⟨rfl, ⟨nd, rfl⟩⟩) | (go_at_call 11; (with_reducible refine (tattlelaw15_awake.calls k  t187 _ A31.out).mono ?_); rintro e w47 ⟨rfl, hb⟩; have n0_ := Aside0.mk (Kd.V_below (by (with_reducible repeat (first | apply Kd.V_alloc | apply Kd.V_drewN | apply Kd.V_drew)); exact HO154.out) hb); have n1_ := Aside0.mk (Kd.V_below (by (with_reducible repeat (first | apply Kd.V_alloc | apply Kd.V_drewN | apply Kd.V_drew)); exact HO157.out) hb); have n2_ := Aside0.mk (Kd.R_below (by (with_reducible repeat (first | apply Kd.R_alloc | apply Kd.R_drewN | apply Kd.R_drew)); exact HO161.out) hb); have n3_ := Aside0.mk (Kd.R_below (by (with_reducible repeat (first | apply Kd.R_alloc | apply Kd.R_drewN | apply Kd.R_drew)); exact HO181.out) hb); have n4_ := Aside0.mk (Kd.R_below (by (with_reducible repeat (first | apply Kd.R_alloc | apply Kd.R_drewN | apply Kd.R_drew)); exact HO185.out) hb); have n5_ := Aside0.mk (Kd.C_below (by repeat (first | (with_reducible exact HR171.out) | (with_reducible refine Kd.C_alloc ?_ _) | (with_reducible refine Kd.C_drewN ?_ _) | (with_reducible refine Kd.C_drew ?_) | exact HR171.out)) hb); have n6_ := Aside0.mk (Kd.C_below (by repeat (first | (with_reducible exact HR178.out) | (with_reducible refine Kd.C_alloc ?_ _) | (with_reducible refine Kd.C_drewN ?_ _) | (with_reducible refine Kd.C_drew ?_) | exact HR178.out)) hb); have n7_ := Aside0.mk (below_step (by repeat (first | (with_reducible first | exact HB.out | apply below_alloc | apply pw_below_drewN | apply below_drew1) | exact HB.out)) hb); clear HO154; clear HO157; clear HO161; clear HO181; clear HO185; clear HR171; clear HR178; clear HB; have HO154 := n0_; have HO157 := n1_; have HO161 := n2_; have HO181 := n3_; have HO185 := n4_; have HR171 := n5_; have HR178 := n6_; have HB := n7_; clear n0_ n1_ n2_ n3_ n4_ n5_ n6_ n7_; (try clear hb); (try clear hb2); (try clear hk); (try clear hi)))
                      go_ret
                      exact ⟨by first | rfl | (simp [errW_none, errW_some] <;> rfl) | (simp only [← hji19, ← hji23]; first | rfl | (simp [errW_none, errW_some] <;> rfl)) | (simp [*, errW_none, errW_some] <;> rfl), by repeat (first | (with_reducible first | exact HB.out | apply below_alloc | apply pw_below_drewN | apply below_drew1) | exact HB.out)⟩
                  · rw [if_neg c28] at H
                    have c28b0 : (t183 == 9) = false := beq_eq_false_iff_ne.mpr c28
                    have c28b1 : (t183 != 9) = true := bne_iff_ne.mpr c28
                    by_cases c48 : t183 = 0
                    · rw [if_pos c48] at H
                      have c48b0 : (t183 == 0) = true := beq_iff_eq.mpr c48
                      have c48b1 : (t183 != 0) = false := bne_eq_false_iff_eq.mpr c48
                      clear c48
                      replace H := Option.bind_eq_some_iff.mp H
                      obtain ⟨t188, A490, H⟩ := H
                      replace H : (if t188 = true then (none) else ((tattleref14_Same.f k t152 t155).bind fun t189 => (if t189 = true then (none) else ((tattlelaw15_awake.f k).bind fun t190 => (some t190))))) = some r := H
                      have A49 := Aside0.mk A490
                      clear A490
                      by_cases c50 : t188 = true
                      · subst c50
                        have H1 : (none) = some r := by rw [if_pos rfl] at H; exact H
                        clear H
                        have H := H1
                        clear H1
                        exact absurd H (by simp)
                      · replace c50 := Bool.eq_false_iff.mpr c50
                        subst c50
                        have H1 : ((tattleref14_Same.f k t152 t155).bind fun t189 => (if t189 = true then (none) else ((tattlelaw15_awake.f k).bind fun t190 => (some t190)))) = some r := by rw [if_neg (show ¬ (false = true) by decide)] at H; exact H
                        clear H
                        have H := H1
                        clear H1
                        replace H := Option.bind_eq_some_iff.mp H
                        obtain ⟨t189, A510, H⟩ := H
                        replace H : (if t189 = true then (none) else ((tattlelaw15_awake.f k).bind fun t190 => (some t190))) = some r := H
                        have A51 := Aside0.mk A510
                        clear A510
                        by_cases c52 : t189 = true
                        · subst c52
                          have H1 : (none) = some r := by rw [if_pos rfl] at H; exact H
                          clear H
                          have H := H1
                          clear H1
                          exact absurd H (by simp)
                        · replace c52 := Bool.eq_false_iff.mpr c52
                          subst c52
                          have H1 : ((tattlelaw15_awake.f k).bind fun t190 => (some t190)) = some r := by rw [if_neg (show ¬ (false = true) by decide)] at H; exact H
                          clear H
                          have H := H1
                          clear H1
                          replace H := Option.bind_eq_some_iff.mp H
                          obtain ⟨t190, A530, H⟩ := H
                          replace H : (some t190) = some r := H
                          have A53 := Aside0.mk A530
                          clear A530
                          obtain rfl := Option.some.inj H
                          go_enter Try.func3, Try.ntmps3
                          try go_wp2_with (first | ((with_reducible refine gate_callee (f := 9) rfl ?_); refine goesL_ (some 14) rfl rfl Try.func9 (by kernel_rfl) rfl #[.slice A0 l0.length c0] rfl (by (try simp only [List.map_toArray, List.map_cons, List.map_nil]); first | done | rfl | (simp only [List.length_drop, List.length_take]; rfl)) ?_; (with_reducible refine (tattlelaw15_Puts.calls (fun k_ => k_ < w.heap.size) _ _ l0 t152 _ ?side1 A4.out).mono ?_); (case side1 => exact Kd.V_mk HC0.out (Kd.F_below (Kd.C_F k52_heap HR0.out) (by repeat (first | (with_reducible first | exact HB.out | apply below_alloc | apply pw_below_drewN | apply below_drew1) | exact HB.out)))); rintro e w54 ⟨v153, rfl, ho0, hb⟩; refine ⟨_, rfl, ?_⟩; have n0_ := Aside0.mk (Kd.V_lower (Kd.V_mono (ok' := fun k_ => True) ho0 (fun k_ hk_ => trivial)) (below_size (by repeat (first | (with_reducible first | exact HB.out | apply below_alloc | apply pw_below_drewN | apply below_drew1) | exact HB.out)))); have n1_ := Aside0.mk (below_step (by repeat (first | (with_reducible first | exact HB.out | apply below_alloc | apply pw_below_drewN | apply below_drew1) | exact HB.out)) hb); clear HB; have HO154 := n0_; have HB := n1_; clear n0_ n1_; (try clear hb); (try clear hb2); (try clear hk); (try clear hi); (try clear ho0)) | ((with_reducible refine gate_callee (f := 9) rfl ?_); refine goesL_ (some 16) rfl rfl Try.func9 (by kernel_rfl) rfl #[.slice A1 l1.length c1] rfl (by (try simp only [List.map_toArray, List.map_cons, List.map_nil]); first | done | rfl | (simp only [List.length_drop, List.length_take]; rfl)) ?_; (with_reducible refine (tattlelaw15_Puts.calls (fun k_ => k_ < w.heap.size) _ _ l1 t155 _ ?side1 A5.out).mono ?_); (case side1 => exact Kd.V_mk HC1.out (Kd.F_below (Kd.C_F k52_heap HR1.out) (by repeat (first | (with_reducible first | exact HB.out | apply below_alloc | apply pw_below_drewN | apply below_drew1) | exact HB.out)))); rintro e w55 ⟨v156, rfl, ho0, hb⟩; refine ⟨_, rfl, ?_⟩; have n0_ := Aside0.mk (Kd.V_below (by (with_reducible repeat (first | apply Kd.V_alloc | apply Kd.V_drewN | apply Kd.V_drew)); exact HO154.out) hb); have n1_ := Aside0.mk (Kd.V_lower (Kd.V_mono (ok' := fun k_ => True) ho0 (fun k_ hk_ => trivial)) (below_size (by repeat (first | (with_reducible first | exact HB.out | apply below_alloc | apply pw_below_drewN | apply below_drew1) | exact HB.out)))); have n2_ := Aside0.mk (below_step (by repeat (first | (with_reducible first | exact HB.out | apply below_alloc | apply pw_below_drewN | apply below_drew1) | exact HB.out)) hb); clear HO154; clear HB; have HO154 := n0_; have HO157 := n1_; have HB := n2_; clear n0_ n1_ n2_; (try clear hb); (try clear hb2); (try clear hk); (try clear hi); (try clear ho0); obtain ⟨Ao56, co56, eo56⟩ := Kd.V_slice HO154.out; subst eo56; obtain ⟨Ao57, co57, eo57⟩ := Kd.V_slice HO157.out; subst eo57) | ((with_reducible refine gate_callee (f := 10) rfl ?_); refine goesL_ (some 20) rfl rfl Try.func10 (by kernel_rfl) rfl #[.slice Ao56 t152.length co56, .slice Ao57 t155.length co57] rfl (by (try simp only [List.map_toArray, List.map_cons, List.map_nil]); first | done | rfl | (simp only [List.length_drop, List.length_take]; rfl)) ?_; (with_reducible refine (plan_Diff.calls k _ _ t152 _ _ t155 t158 t159 _ ?side1 ?side2 ?side3 ?side4 A6.out).mono ?_); (case side1 => repeat (first | exact (Kd.V_reads' HO154.out).2.2 | (with_reducible refine Kd.C_alloc ?_ _) | (with_reducible refine Kd.C_drewN ?_ _) | (with_reducible refine Kd.C_drew ?_))); (case side2 => exact (Kd.V_reads' HO154.out).2.1); (case side3 => repeat (first | exact (Kd.V_reads' HO157.out).2.2 | (with_reducible refine Kd.C_alloc ?_ _) | (with_reducible refine Kd.C_drewN ?_ _) | (with_reducible refine Kd.C_drew ?_))); (case side4 => exact (Kd.V_reads' HO157.out).2.1); rintro e w58 ⟨v160, rfl, ho0, hb⟩; refine ⟨_, rfl, ?_⟩; have n0_ := Aside0.mk (Kd.V_elder' (by (with_reducible repeat (first | apply Kd.V_alloc | apply Kd.V_drewN | apply Kd.V_drew)); exact HO154.out) (Kd.R_base ho0) hb); have n1_ := Aside0.mk (Kd.V_elder' (by (with_reducible repeat (first | apply Kd.V_alloc | apply Kd.V_drewN | apply Kd.V_drew)); exact HO157.out) (Kd.R_base ho0) hb); have n2_ := Aside0.mk (Kd.R_lower ho0 (below_size (by repeat (first | (with_reducible first | exact HB.out | apply below_alloc | apply pw_below_drewN | apply below_drew1) | exact HB.out)))); have n3_ := Aside0.mk (below_step (by repeat (first | (with_reducible first | exact HB.out | apply below_alloc | apply pw_below_drewN | apply below_drew1) | exact HB.out)) hb); clear HO154; clear HO157; clear HB; have HO154 := n0_; have HO157 := n1_; have HO161 := n2_; have HB := n3_; clear n0_ n1_ n2_ n3_; (try clear hb); (try clear hb2); (try clear hk); (try clear hi); (try clear ho0); obtain ⟨Ao59, co59, eo59⟩ := Kd.R_slice HO161.out; subst eo59))
                          have n0_ := Aside0.mk (Kd.V_drew HO154.out)
                          have n1_ := Aside0.mk (Kd.V_drew HO157.out)
                          have n2_ := Aside0.mk (Kd.R_drew HO161.out)
                          have n3_ := Aside0.mk (below_drew1 HB.out)
                          clear HO154
                          clear HO157
                          clear HO161
                          clear HB
                          have HO154 := n0_
                          have HO157 := n1_
                          have HO161 := n2_
                          have HB := n3_
                          clear n0_ n1_ n2_ n3_
                          have q61 : ((ji19) : Int) ≤ ((t158.length : Int) : Int) := of_decide_eq_true (by first | (with_reducible assumption) | assumption)
                          obtain ⟨i061, hi061, _, hsz61, _⟩ := info_parts info36
                          have hroom61 : t158.length ≤ co59 := (Kd.R_reads' HO161.out).2.1
                          have hC61 : Kd.C k36 _ Ao59 t158.length t158 := (Kd.R_reads' HO161.out).2.2
                          have hcut61 := cut_to (P := Try.prog) 24 36 .i64 Try.underlying24 hi061 Ao59 t158.length co59 (ji19) (of_decide_eq_true (by first | (with_reducible assumption) | assumption)) q61 hroom61
                          have hr61 := Kd.C_take (m := ((ji19) : Int).toNat) hC61 (by omega)
                          have hy61 : y168.length = ((ji19) : Int).toNat := (by rw [Ny168.out, List.length_take]; omega)
                          rw [← Ny168.out] at hr61
                          rw [← hy61] at hcut61
                          have HR171 := Aside0.mk hr61
                          have HC171 := Aside0.mk (show y168.length ≤ co59 from by omega)
                          clear hr61 hC61 hroom61 hi061 hsz61
                          have KY61 := Aside0.mk hy61
                          clear hy61
                          have KL61 := Aside0.mk (show ((ji19) : Int).toNat ≤ t158.length from by omega)
                          replace q61 := eq_true q61
                          have q62 : ((ji23) : Int) ≤ ((t158.length : Int) : Int) := of_decide_eq_true (by first | (with_reducible assumption) | assumption)
                          obtain ⟨i062, hi062, _, hsz62, _⟩ := info_parts info36
                          have hroom62 : t158.length ≤ co59 := (Kd.R_reads' HO161.out).2.1
                          have hC62 : Kd.C k36 _ Ao59 t158.length t158 := (Kd.R_reads' HO161.out).2.2
                          have q062 : (0 : Int) ≤ ((ji23) : Int) := of_decide_eq_true (by first | (with_reducible assumption) | assumption)
                          have hcut62 := cut_from (P := Try.prog) 24 36 .i64 Try.underlying24 hi062 3 hsz62 Ao59 t158.length co59 (ji23) q062 q62
                          have hr62 := Kd.C_drop (m := ((ji23) : Int).toNat) (c := co59) hC62 (by omega) hroom62
                          obtain ⟨A62, hA62⟩ : ∃ A1, A1 = (if co59 = ((ji23) : Int).toNat then Ao59 else (Ao59 : Option Addr).map (·.add (((ji23) : Int).toNat * 3))) := ⟨_, rfl⟩
                          obtain ⟨c62, hc62⟩ : ∃ c1, c1 = co59 - ((ji23) : Int).toNat := ⟨_, rfl⟩
                          have hy62 : y175.length = t158.length - ((ji23) : Int).toNat := (by rw [Ny175.out, List.length_drop] <;> omega)
                          rw [show (t158).drop ((ji23) : Int).toNat = y175 from Ny175.out.symm] at hr62
                          replace hr62 : Kd.C k36 _ A62 y175.length y175 := (by rw [hA62]; exact hr62)
                          rw [← hy62, ← hA62, ← hc62] at hcut62
                          have HR178 := Aside0.mk hr62
                          have HC178 := Aside0.mk (show y175.length ≤ c62 from by rw [hy62, hc62]; exact Nat.sub_le_sub_right hroom62 _)
                          clear hr62 hC62 hroom62 hi062 hsz62 hc62
                          have KY62 := Aside0.mk hy62
                          have KA62 := Aside0.mk hA62
                          clear hy62 hA62
                          have KL62 := Aside0.mk (show ((ji23) : Int).toNat ≤ t158.length from by omega)
                          replace q62 := eq_true q62
                          refine start_ (n := 11) (S := fun w' => True) (ds := []) #[false, false, false, false, false, false, false, false, false, false, false] (by kernel_rfl) rfl rfl trivial (fun hHeld => ?_); refine with_tabW tattlelaw15_PlanFewest.tab8 tattlelaw15_PlanFewest.bits8 (fun HT_ HW_ => ?_)
                          generalize w58.drew = w60 at HO154 HO157 HO161 HB HR171 HR178 hHeld ⊢
                          refine pure_ (i := 1) (N := some 41) (v := ?_) (a' := ?_) #[false, true, false, false, false, false, false, false, false, false, false] rfl rfl (any_of HT_.out (by kernel_rfl)) (fun _ _ _ h => h) (Or.inl ⟨by rfl, ?_⟩) ?_ ?_
                          rotate_left
                          · intro w'
                            go_simp
                            with_reducible rfl
                          rotate_left
                          · simp only [Act.put, List.setIfInBounds_toArray, List.set_cons_zero, List.set_cons_succ, i64_w, i32_w]
                            rfl
                          refine pure_ (i := 2) (N := some 42) (v := ?_) (a' := ?_) #[false, true, true, false, false, false, false, false, false, false, false] rfl rfl (any_of HT_.out (by kernel_rfl)) (fun _ _ _ h => h) (Or.inl ⟨by rfl, ?_⟩) ?_ ?_
                          rotate_left
                          · intro w'
                            go_simp
                            with_reducible rfl
                          rotate_left
                          · simp only [Act.put, List.setIfInBounds_toArray, List.set_cons_zero, List.set_cons_succ, i64_w, i32_w]
                            rfl
                          refine pure_ (i := 3) (N := some 43) (v := ?_) (a' := ?_) #[false, true, true, true, false, false, false, false, false, false, false] rfl rfl (any_of HT_.out (by kernel_rfl)) (fun _ _ _ h => h) (Or.inl ⟨by rfl, ?_⟩) ?_ ?_
                          rotate_left
                          · intro w'
                            go_simp
                            with_reducible rfl
                          rotate_left
                          · simp only [Act.put, List.setIfInBounds_toArray, List.set_cons_zero, List.set_cons_succ, i64_w, i32_w]
                            rfl
                          refine pure_ (i := 5) (N := some 45) (v := ?_) (a' := ?_) #[false, true, true, true, false, true, false, false, false, false, false] rfl rfl (any_of HT_.out (by kernel_rfl)) (fun _ _ _ h => h) (Or.inl ⟨by rfl, ?_⟩) ?_ ?_
                          rotate_left
                          · intro w'
                            go_simp
                            with_reducible rfl
                          rotate_left
                          · simp only [Act.put, List.setIfInBounds_toArray, List.set_cons_zero, List.set_cons_succ, i64_w, i32_w]
                            rfl
                          refine pure_ (i := 6) (N := some 46) (v := ?_) (a' := ?_) #[false, true, true, true, false, true, true, false, false, false, false] rfl rfl (any_of HT_.out (by kernel_rfl)) (fun _ _ _ h => h) (Or.inl ⟨by rfl, ?_⟩) ?_ ?_
                          rotate_left
                          · intro w'
                            go_simp
                            with_reducible rfl
                          rotate_left
                          · simp only [Act.put, List.setIfInBounds_toArray, List.set_cons_zero, List.set_cons_succ, i64_w, i32_w]
                            rfl
                          refine pure_ (i := 7) (N := some 47) (v := ?_) (a' := ?_) #[false, true, true, true, false, true, true, true, false, false, false] rfl rfl (any_of HT_.out (by kernel_rfl)) (fun _ _ _ h => h) (Or.inl ⟨by rfl, ?_⟩) ?_ ?_
                          rotate_left
                          · intro w'
                            go_simp
                            with_reducible rfl
                          rotate_left
                          · simp only [Act.put, List.setIfInBounds_toArray, List.set_cons_zero, List.set_cons_succ, i64_w, i32_w]
                            rfl
                          refine pure_ (i := 8) (N := some 48) (v := ?_) (a' := ?_) #[false, true, true, true, false, true, true, true, true, false, false] rfl rfl (any_of HT_.out (by kernel_rfl)) (fun _ _ _ h => h) (Or.inl ⟨by rfl, ?_⟩) ?_ ?_
                          rotate_left
                          · intro w'
                            go_simp
                            with_reducible rfl
                          rotate_left
                          · simp only [Act.put, List.setIfInBounds_toArray, List.set_cons_zero, List.set_cons_succ, i64_w, i32_w]
                            rfl
                          refine one_ (i := 0) (N := some 40) #[true, true, true, true, false, true, true, true, true, false, false] rfl rfl (one_of HT_.out (by kernel_rfl)) (by decide) (fun K hK => ?_)
                          refine Kd.R_lit_step k36 _ 36 ?hg (N := 40) ?hd (xs := ([] : List (S36))) (inner := []) (ok := fun _ => True) (okp := fun _ => True) ?hr ?hp (fun _ hk => hk) trivial (Below.refl _ _) (Nat.le_refl _) (by simp) ?_; (case hd => rfl); (case hg => rfl); (case hr => first | (go_simp; done) | (go_simp; rfl)); (case hp => exact (Reps.none _ _))
                          intro v166 w63 ho64 hb hg_ hnew_
                          clear hg_ hnew_
                          (first | rw [← Ny165.out] at ho64 | (simp only [Int.reduceToNat] at ho64; rw [← Ny165.out] at ho64))
                          have n0_ := Aside0.mk (Kd.V_elder' (by (with_reducible repeat (first | apply Kd.V_alloc | apply Kd.V_drewN | apply Kd.V_drew)); exact HO154.out) (Kd.R_base ho64) hb)
                          have n1_ := Aside0.mk (Kd.V_elder' (by (with_reducible repeat (first | apply Kd.V_alloc | apply Kd.V_drewN | apply Kd.V_drew)); exact HO157.out) (Kd.R_base ho64) hb)
                          have n2_ := Aside0.mk (Kd.R_elder' (by (with_reducible repeat (first | apply Kd.R_alloc | apply Kd.R_drewN | apply Kd.R_drew)); exact HO161.out) (Kd.R_base ho64) hb)
                          have n3_ := Aside0.mk (Kd.R_lower (Kd.R_new' ho64 (Kd.R_lt (by (with_reducible repeat (first | apply Kd.R_alloc | apply Kd.R_drewN | apply Kd.R_drew)); exact HO161.out))) (below_size (by repeat (first | (with_reducible first | exact HB.out | apply below_alloc | apply pw_below_drewN | apply below_drew1) | exact HB.out))))
                          have n4_ := Aside0.mk (Kd.C_below (by repeat (first | (with_reducible exact HR171.out) | (with_reducible refine Kd.C_alloc ?_ _) | (with_reducible refine Kd.C_drewN ?_ _) | (with_reducible refine Kd.C_drew ?_) | exact HR171.out)) hb)
                          have n5_ := Aside0.mk (Kd.C_below (by repeat (first | (with_reducible exact HR178.out) | (with_reducible refine Kd.C_alloc ?_ _) | (with_reducible refine Kd.C_drewN ?_ _) | (with_reducible refine Kd.C_drew ?_) | exact HR178.out)) hb)
                          have n6_ := Aside0.mk (below_step (by repeat (first | (with_reducible first | exact HB.out | apply below_alloc | apply pw_below_drewN | apply below_drew1) | exact HB.out)) hb)
                          clear HO154
                          clear HO157
                          clear HO161
                          clear HR171
                          clear HR178
                          clear HB
                          have HO154 := n0_
                          have HO157 := n1_
                          have HO161 := n2_
                          have HO167 := n3_
                          have HR171 := n4_
                          have HR178 := n5_
                          have HB := n6_
                          clear n0_ n1_ n2_ n3_ n4_ n5_ n6_
                          clear hb ho64
                          refine hK.out _ _ trivial (fun hHeld => ?_)
                          clear hK K
                          refine norm_ (a' := ?_) ?_ ?_
                          rotate_left
                          · show Act.put _ (some 40) _ = _
                            simp only [Act.put, List.setIfInBounds_toArray, List.set_cons_zero, List.set_cons_succ, i64_w, i32_w]
                            rfl
                          refine one_ (i := 4) (N := some 44) #[true, true, true, true, true, true, true, true, true, false, false] rfl rfl (one_of HT_.out (by kernel_rfl)) (by decide) (fun K hK => ?_)
                          refine Kd.R_append_rows_step k36 (w0 := w) w.heap.size (by rfl) (.tmp 40) (.tmp 43) 24 36 (.agg #[(.string ⟨#[]⟩), (.int .i64 0), (.int .i64 0)]) 32 rfl Try.underlying24 info36 rfl (by decide) (by omega) v166 y165 y168 _ _ _ (fun k_ => some k_ ≠ (.slice Ao59 t158.length co59 : Value).ownBlock) (fun _ => False) rfl rfl ?aO ?aR (fun _ _ h => h) (fun _ h => h.elim) ?aF ?aB ?aS ?aL ?_
                          (case aR => repeat (first | exact (by repeat (first | (with_reducible exact HR171.out) | (with_reducible refine Kd.C_alloc ?_ _) | (with_reducible refine Kd.C_drewN ?_ _) | (with_reducible refine Kd.C_drew ?_) | exact HR171.out)) | (with_reducible refine Kd.C_alloc ?_ _) | (with_reducible refine Kd.C_drewN ?_ _) | (with_reducible refine Kd.C_drew ?_)))
                          (case aB => exact (by repeat (first | (with_reducible first | exact HB.out | apply below_alloc | apply pw_below_drewN | apply below_drew1) | exact HB.out)))
                          (case aF => exact (fun k_ hk => Kd.fresh' (Kd.R_lt (by (with_reducible repeat (first | apply Kd.R_alloc | apply Kd.R_drewN | apply Kd.R_drew)); exact HO161.out)) k_ hk))
                          (case aO => exact (by (with_reducible repeat (first | apply Kd.R_alloc | apply Kd.R_drewN | apply Kd.R_drew)); exact Kd.R_mono HO167.out (fun _ hk => hk.2)))
                          (case aS => exact (below_size (by repeat (first | (with_reducible first | exact HB.out | apply below_alloc | apply pw_below_drewN | apply below_drew1) | exact HB.out))))
                          (case aL => have := LMc22.out; omega)
                          intro v173 w65 ho hb hg hat
                          rw [← Ny172.out] at ho
                          have n0_ := Aside0.mk (Kd.V_afterv (ok := (fun k_ => some k_ ≠ (.slice Ao59 t158.length co59 : Value).ownBlock)) (by (with_reducible repeat (first | apply Kd.V_alloc | apply Kd.V_drewN | apply Kd.V_drew)); exact Kd.V_mono HO154.out (fun _ hk => ⟨hk.1.2, hk.2⟩)) hg hat)
                          have n1_ := Aside0.mk (Kd.V_afterv (ok := (fun k_ => some k_ ≠ (.slice Ao59 t158.length co59 : Value).ownBlock)) (by (with_reducible repeat (first | apply Kd.V_alloc | apply Kd.V_drewN | apply Kd.V_drew)); exact Kd.V_mono HO157.out (fun _ hk => ⟨hk.1.2, hk.2⟩)) hg hat)
                          have n2_ := Aside0.mk (Kd.R_after (ok := (fun _ => True)) (by (with_reducible repeat (first | apply Kd.R_alloc | apply Kd.R_drewN | apply Kd.R_drew)); exact HO161.out) hg hat)
                          have n3_ := Aside0.mk (hb)
                          have n4_ := Aside0.mk ((show Kd.C k36 w65 Ao59 y168.length y168 from by rw [Ny168.out]; exact Kd.C_take (m := ((ji19) : Int).toNat) ((Kd.R_reads' (Kd.R_after (ok := (fun _ => True)) (by (with_reducible repeat (first | apply Kd.R_alloc | apply Kd.R_drewN | apply Kd.R_drew)); exact HO161.out) hg hat)).2.2) KL61.out))
                          have n5_ := Aside0.mk ((show Kd.C k36 w65 A62 y175.length y175 from by rw [Ny175.out, KA62.out]; exact Kd.C_drop (m := ((ji23) : Int).toNat) (c := co59) ((Kd.R_reads' (Kd.R_after (ok := (fun _ => True)) (by (with_reducible repeat (first | apply Kd.R_alloc | apply Kd.R_drewN | apply Kd.R_drew)); exact HO161.out) hg hat)).2.2) KL62.out ((Kd.R_reads' (Kd.R_after (ok := (fun _ => True)) (by (with_reducible repeat (first | apply Kd.R_alloc | apply Kd.R_drewN | apply Kd.R_drew)); exact HO161.out) hg hat)).2.1)))
                          have n6_ := Aside0.mk (ho)
                          clear HO154
                          clear HO157
                          clear HO161
                          clear HB
                          clear HR171
                          clear HR178
                          clear HO167
                          have HO154 := n0_
                          have HO157 := n1_
                          have HO161 := n2_
                          have HB := n3_
                          have HR171 := n4_
                          have HR178 := n5_
                          have HO174 := n6_
                          clear n0_ n1_ n2_ n3_ n4_ n5_ n6_
                          clear ho hb hg hat
                          refine hK.out _ _ trivial (fun hHeld => ?_)
                          clear hK K
                          refine norm_ (a' := ?_) ?_ ?_
                          rotate_left
                          · show Act.put _ (some 44) _ = _
                            simp only [Act.put, List.setIfInBounds_toArray, List.set_cons_zero, List.set_cons_succ, i64_w, i32_w]
                            rfl
                          refine one_ (i := 9) (N := some 49) #[true, true, true, true, true, true, true, true, true, true, false] rfl rfl (one_of HT_.out (by kernel_rfl)) (by decide) (fun K hK => ?_)
                          refine Kd.R_append_rows_step k36 (w0 := w) w.heap.size (by rfl) (.tmp 44) (.tmp 48) 24 36 (.agg #[(.string ⟨#[]⟩), (.int .i64 0), (.int .i64 0)]) 32 rfl Try.underlying24 info36 rfl (by decide) (by omega) v173 y172 y175 _ _ _ (fun k_ => some k_ ≠ (.slice Ao59 t158.length co59 : Value).ownBlock) (fun _ => False) rfl rfl ?aO ?aR (fun _ _ h => h) (fun _ h => h.elim) ?aF ?aB ?aS ?aL ?_
                          (case aR => repeat (first | exact (by repeat (first | (with_reducible exact HR178.out) | (with_reducible refine Kd.C_alloc ?_ _) | (with_reducible refine Kd.C_drewN ?_ _) | (with_reducible refine Kd.C_drew ?_) | exact HR178.out)) | (with_reducible refine Kd.C_alloc ?_ _) | (with_reducible refine Kd.C_drewN ?_ _) | (with_reducible refine Kd.C_drew ?_)))
                          (case aB => exact (by repeat (first | (with_reducible first | exact HB.out | apply below_alloc | apply pw_below_drewN | apply below_drew1) | exact HB.out)))
                          (case aF => exact (fun k_ hk => Kd.fresh' (Kd.R_lt (by (with_reducible repeat (first | apply Kd.R_alloc | apply Kd.R_drewN | apply Kd.R_drew)); exact HO161.out)) k_ hk))
                          (case aO => exact (by (with_reducible repeat (first | apply Kd.R_alloc | apply Kd.R_drewN | apply Kd.R_drew)); exact HO174.out))
                          (case aS => exact (below_size (by repeat (first | (with_reducible first | exact HB.out | apply below_alloc | apply pw_below_drewN | apply below_drew1) | exact HB.out))))
                          (case aL => have := LMc26.out; omega)
                          intro v180 w66 ho hb hg hat
                          rw [← Ny179.out] at ho
                          have n0_ := Aside0.mk (Kd.V_afterv (ok := (fun k_ => some k_ ≠ (.slice Ao59 t158.length co59 : Value).ownBlock)) (by (with_reducible repeat (first | apply Kd.V_alloc | apply Kd.V_drewN | apply Kd.V_drew)); exact HO154.out) hg hat)
                          have n1_ := Aside0.mk (Kd.V_afterv (ok := (fun k_ => some k_ ≠ (.slice Ao59 t158.length co59 : Value).ownBlock)) (by (with_reducible repeat (first | apply Kd.V_alloc | apply Kd.V_drewN | apply Kd.V_drew)); exact HO157.out) hg hat)
                          have n2_ := Aside0.mk (Kd.R_after (ok := (fun _ => True)) (by (with_reducible repeat (first | apply Kd.R_alloc | apply Kd.R_drewN | apply Kd.R_drew)); exact HO161.out) hg hat)
                          have n3_ := Aside0.mk (hb)
                          have n4_ := Aside0.mk ((show Kd.C k36 w66 Ao59 y168.length y168 from by rw [Ny168.out]; exact Kd.C_take (m := ((ji19) : Int).toNat) ((Kd.R_reads' (Kd.R_after (ok := (fun _ => True)) (by (with_reducible repeat (first | apply Kd.R_alloc | apply Kd.R_drewN | apply Kd.R_drew)); exact HO161.out) hg hat)).2.2) KL61.out))
                          have n5_ := Aside0.mk ((show Kd.C k36 w66 A62 y175.length y175 from by rw [Ny175.out, KA62.out]; exact Kd.C_drop (m := ((ji23) : Int).toNat) (c := co59) ((Kd.R_reads' (Kd.R_after (ok := (fun _ => True)) (by (with_reducible repeat (first | apply Kd.R_alloc | apply Kd.R_drewN | apply Kd.R_drew)); exact HO161.out) hg hat)).2.2) KL62.out ((Kd.R_reads' (Kd.R_after (ok := (fun _ => True)) (by (with_reducible repeat (first | apply Kd.R_alloc | apply Kd.R_drewN | apply Kd.R_drew)); exact HO161.out) hg hat)).2.1)))
                          have n6_ := Aside0.mk (ho)
                          clear HO154
                          clear HO157
                          clear HO161
                          clear HB
                          clear HR171
                          clear HR178
                          clear HO174
                          have HO154 := n0_
                          have HO157 := n1_
                          have HO161 := n2_
                          have HB := n3_
                          have HR171 := n4_
                          have HR178 := n5_
                          have HO181 := n6_
                          clear n0_ n1_ n2_ n3_ n4_ n5_ n6_
                          clear ho hb hg hat
                          refine hK.out _ _ trivial (fun hHeld => ?_)
                          clear hK K
                          refine norm_ (a' := ?_) ?_ ?_
                          rotate_left
                          · show Act.put _ (some 49) _ = _
                            simp only [Act.put, List.setIfInBounds_toArray, List.set_cons_zero, List.set_cons_succ, i64_w, i32_w]
                            rfl
                          refine pure_ (i := 10) (N := some 10) (v := ?_) (a' := ?_) #[true, true, true, true, true, true, true, true, true, true, true] rfl rfl (any_of HT_.out (by kernel_rfl)) (fun _ _ _ h => h) (Or.inl ⟨by rfl, ?_⟩) ?_ ?_
                          rotate_left
                          · intro w'
                            go_simp
                            with_reducible rfl
                          rotate_left
                          · simp only [Act.put, List.setIfInBounds_toArray, List.set_cons_zero, List.set_cons_succ, i64_w, i32_w]
                            rfl
                          refine done_ (done_of HT_.out (by kernel_rfl)) ?_
                          obtain ⟨Ao67, co67, eo67⟩ := Kd.R_slice HO181.out
                          subst eo67
                          try go_wp2_with (first | ((with_reducible refine gate_callee (f := 13) rfl ?_); refine goesL_ (some 53) rfl rfl Try.func13 (by kernel_rfl) rfl #[.slice Ao56 t152.length co56, .slice Ao67 y179.length co67] rfl (by (try simp only [List.map_toArray, List.map_cons, List.map_nil]); first | done | rfl | (simp only [List.length_drop, List.length_take]; rfl)) ?_; (with_reducible refine (plan_Apply.calls k _ _ t152 _ _ y179 t182 t183 _ ?side1 ?side2 ?side3 ?side4 A27.out).mono ?_); (case side1 => repeat (first | exact (Kd.V_reads' HO154.out).2.2 | (with_reducible refine Kd.C_alloc ?_ _) | (with_reducible refine Kd.C_drewN ?_ _) | (with_reducible refine Kd.C_drew ?_))); (case side2 => exact (Kd.V_reads' HO154.out).2.1); (case side3 => repeat (first | exact (Kd.R_reads' HO181.out).2.2 | (with_reducible refine Kd.C_alloc ?_ _) | (with_reducible refine Kd.C_drewN ?_ _) | (with_reducible refine Kd.C_drew ?_))); (case side4 => exact (Kd.R_reads' HO181.out).2.1); rintro e w68 ⟨v184, rfl, ho0, hb⟩; refine ⟨_, rfl, ?_⟩; have n0_ := Aside0.mk (Kd.V_elder' (by (with_reducible repeat (first | apply Kd.V_alloc | apply Kd.V_drewN | apply Kd.V_drew)); exact HO154.out) (Kd.R_base ho0) hb); have n1_ := Aside0.mk (Kd.V_elder' (by (with_reducible repeat (first | apply Kd.V_alloc | apply Kd.V_drewN | apply Kd.V_drew)); exact HO157.out) (Kd.R_base ho0) hb); have n2_ := Aside0.mk (Kd.R_below (by (with_reducible repeat (first | apply Kd.R_alloc | apply Kd.R_drewN | apply Kd.R_drew)); exact HO161.out) hb); have n3_ := Aside0.mk (Kd.R_below (by (with_reducible repeat (first | apply Kd.R_alloc | apply Kd.R_drewN | apply Kd.R_drew)); exact HO181.out) hb); have n4_ := Aside0.mk (Kd.R_lower ho0 (below_size (by repeat (first | (with_reducible first | exact HB.out | apply below_alloc | apply pw_below_drewN | apply below_drew1) | exact HB.out)))); have n5_ := Aside0.mk (Kd.C_below (by repeat (first | (with_reducible exact HR171.out) | (with_reducible refine Kd.C_alloc ?_ _) | (with_reducible refine Kd.C_drewN ?_ _) | (with_reducible refine Kd.C_drew ?_) | exact HR171.out)) hb); have n6_ := Aside0.mk (Kd.C_below (by repeat (first | (with_reducible exact HR178.out) | (with_reducible refine Kd.C_alloc ?_ _) | (with_reducible refine Kd.C_drewN ?_ _) | (with_reducible refine Kd.C_drew ?_) | exact HR178.out)) hb); have n7_ := Aside0.mk (below_step (by repeat (first | (with_reducible first | exact HB.out | apply below_alloc | apply pw_below_drewN | apply below_drew1) | exact HB.out)) hb); clear HO154; clear HO157; clear HO161; clear HO181; clear HR171; clear HR178; clear HB; have HO154 := n0_; have HO157 := n1_; have HO161 := n2_; have HO181 := n3_; have HO185 := n4_; have HR171 := n5_; have HR178 := n6_; have HB := n7_; clear n0_ n1_ n2_ n3_ n4_ n5_ n6_ n7_; (try clear hb); (try clear hb2); (try clear hk); (try clear hi); (try clear ho0); obtain ⟨Ao69, co69, eo69⟩ := Kd.R_slice HO185.out; subst eo69) | (go_at_call 12; (with_reducible refine (tattleref14_Same.calls k _ _ t182 _ _ t155 false _ ?side1 ?side2 ?side3 ?side4 A49.out).mono ?_); (case side1 => repeat (first | exact (Kd.R_reads' HO185.out).2.2 | (with_reducible refine Kd.C_alloc ?_ _) | (with_reducible refine Kd.C_drewN ?_ _) | (with_reducible refine Kd.C_drew ?_))); (case side2 => exact (Kd.R_reads' HO185.out).2.1); (case side3 => repeat (first | exact (Kd.V_reads' HO157.out).2.2 | (with_reducible refine Kd.C_alloc ?_ _) | (with_reducible refine Kd.C_drewN ?_ _) | (with_reducible refine Kd.C_drew ?_))); (case side4 => exact (Kd.V_reads' HO157.out).2.1); rintro e w' ⟨rfl, ⟨nd, rfl⟩⟩) | (go_at_call 12; (with_reducible refine (tattleref14_Same.calls k _ _ t152 _ _ t155 false _ ?side1 ?side2 ?side3 ?side4 A51.out).mono ?_); (case side1 => repeat (first | exact (Kd.V_reads' HO154.out).2.2 | (with_reducible refine Kd.C_alloc ?_ _) | (with_reducible refine Kd.C_drewN ?_ _) | (with_reducible refine Kd.C_drew ?_))); (case side2 => exact (Kd.V_reads' HO154.out).2.1); (case side3 => repeat (first | exact (Kd.V_reads' HO157.out).2.2 | (with_reducible refine Kd.C_alloc ?_ _) | (with_reducible refine Kd.C_drewN ?_ _) | (with_reducible refine Kd.C_drew ?_))); (case side4 => exact (Kd.V_reads' HO157.out).2.1); rintro e w' ⟨rfl, ⟨nd, rfl⟩⟩) | (go_at_call 11; (with_reducible refine (tattlelaw15_awake.calls k  t190 _ A53.out).mono ?_); rintro e w70 ⟨rfl, hb⟩; have n0_ := Aside0.mk (Kd.V_below (by (with_reducible repeat (first | apply Kd.V_alloc | apply Kd.V_drewN | apply Kd.V_drew)); exact HO154.out) hb); have n1_ := Aside0.mk (Kd.V_below (by (with_reducible repeat (first | apply Kd.V_alloc | apply Kd.V_drewN | apply Kd.V_drew)); exact HO157.out) hb); have n2_ := Aside0.mk (Kd.R_below (by (with_reducible repeat (first | apply Kd.R_alloc | apply Kd.R_drewN | apply Kd.R_drew)); exact HO161.out) hb); have n3_ := Aside0.mk (Kd.R_below (by (with_reducible repeat (first | apply Kd.R_alloc | apply Kd.R_drewN | apply Kd.R_drew)); exact HO181.out) hb); have n4_ := Aside0.mk (Kd.R_below (by (with_reducible repeat (first | apply Kd.R_alloc | apply Kd.R_drewN | apply Kd.R_drew)); exact HO185.out) hb); have n5_ := Aside0.mk (Kd.C_below (by repeat (first | (with_reducible exact HR171.out) | (with_reducible refine Kd.C_alloc ?_ _) | (with_reducible refine Kd.C_drewN ?_ _) | (with_reducible refine Kd.C_drew ?_) | exact HR171.out)) hb); have n6_ := Aside0.mk (Kd.C_below (by repeat (first | (with_reducible exact HR178.out) | (with_reducible refine Kd.C_alloc ?_ _) | (with_reducible refine Kd.C_drewN ?_ _) | (with_reducible refine Kd.C_drew ?_) | exact HR178.out)) hb); have n7_ := Aside0.mk (below_step (by repeat (first | (with_reducible first | exact HB.out | apply below_alloc | apply pw_below_drewN | apply below_drew1) | exact HB.out)) hb); clear HO154; clear HO157; clear HO161; clear HO181; clear HO185; clear HR171; clear HR178; clear HB; have HO154 := n0_; have HO157 := n1_; have HO161 := n2_; have HO181 := n3_; have HO185 := n4_; have HR171 := n5_; have HR178 := n6_; have HB := n7_; clear n0_ n1_ n2_ n3_ n4_ n5_ n6_ n7_; (try clear hb); (try clear hb2); (try clear hk); (try clear hi)))
                          go_ret
                          exact ⟨by first | rfl | (simp [errW_none, errW_some] <;> rfl) | (simp only [← hji19, ← hji23]; first | rfl | (simp [errW_none, errW_some] <;> rfl)) | (simp [*, errW_none, errW_some] <;> rfl), by repeat (first | (with_reducible first | exact HB.out | apply below_alloc | apply pw_below_drewN | apply below_drew1) | exact HB.out)⟩
                    · rw [if_neg c48] at H
                      exact absurd H (by simp)
                · rw [if_neg c26] at H
                  exact absurd H (by simp)
              · rw [if_neg c25] at H
                exact absurd H (by simp)
            · rw [if_neg c24] at H
              exact absurd H (by simp)
          · rw [if_neg c22] at H
            exact absurd H (by simp)
        · rw [if_neg c21] at H
          exact absurd H (by simp)
      · rw [if_neg c20] at H
        exact absurd H (by simp)
  · rw [if_neg c7] at H
    have c7b0 : (t159 == 0) = false := beq_eq_false_iff_ne.mpr c7
    have c7b1 : (t159 != 0) = true := bne_iff_ne.mpr c7
    replace H := Option.bind_eq_some_iff.mp H
    obtain ⟨t162, A710, H⟩ := H
    replace H : (some t162) = some r := H
    have A71 := Aside0.mk A710
    clear A710
    obtain rfl := Option.some.inj H
    go_enter Try.func3, Try.ntmps3
    go_wp2_with (first | ((with_reducible refine gate_callee (f := 9) rfl ?_); refine goesL_ (some 14) rfl rfl Try.func9 (by kernel_rfl) rfl #[.slice A0 l0.length c0] rfl (by (try simp only [List.map_toArray, List.map_cons, List.map_nil]); first | done | rfl | (simp only [List.length_drop, List.length_take]; rfl)) ?_; (with_reducible refine (tattlelaw15_Puts.calls (fun k_ => k_ < w.heap.size) _ _ l0 t152 _ ?side1 A4.out).mono ?_); (case side1 => exact Kd.V_mk HC0.out (Kd.F_below (Kd.C_F k52_heap HR0.out) (by repeat (first | (with_reducible first | exact HB.out | apply below_alloc | apply pw_below_drewN | apply below_drew1) | exact HB.out)))); rintro e w72 ⟨v153, rfl, ho0, hb⟩; refine ⟨_, rfl, ?_⟩; have n0_ := Aside0.mk (Kd.V_lower (Kd.V_mono (ok' := fun k_ => True) ho0 (fun k_ hk_ => trivial)) (below_size (by repeat (first | (with_reducible first | exact HB.out | apply below_alloc | apply pw_below_drewN | apply below_drew1) | exact HB.out)))); have n1_ := Aside0.mk (below_step (by repeat (first | (with_reducible first | exact HB.out | apply below_alloc | apply pw_below_drewN | apply below_drew1) | exact HB.out)) hb); clear HB; have HO154 := n0_; have HB := n1_; clear n0_ n1_; (try clear hb); (try clear hb2); (try clear hk); (try clear hi); (try clear ho0)) | ((with_reducible refine gate_callee (f := 9) rfl ?_); refine goesL_ (some 16) rfl rfl Try.func9 (by kernel_rfl) rfl #[.slice A1 l1.length c1] rfl (by (try simp only [List.map_toArray, List.map_cons, List.map_nil]); first | done | rfl | (simp only [List.length_drop, List.length_take]; rfl)) ?_; (with_reducible refine (tattlelaw15_Puts.calls (fun k_ => k_ < w.heap.size) _ _ l1 t155 _ ?side1 A5.out).mono ?_); (case side1 => exact Kd.V_mk HC1.out (Kd.F_below (Kd.C_F k52_heap HR1.out) (by repeat (first | (with_reducible first | exact HB.out | apply below_alloc | apply pw_below_drewN | apply below_drew1) | exact HB.out)))); rintro e w73 ⟨v156, rfl, ho0, hb⟩; refine ⟨_, rfl, ?_⟩; have n0_ := Aside0.mk (Kd.V_below (by (with_reducible repeat (first | apply Kd.V_alloc | apply Kd.V_drewN | apply Kd.V_drew)); exact HO154.out) hb); have n1_ := Aside0.mk (Kd.V_lower (Kd.V_mono (ok' := fun k_ => True) ho0 (fun k_ hk_ => trivial)) (below_size (by repeat (first | (with_reducible first | exact HB.out | apply below_alloc | apply pw_below_drewN | apply below_drew1) | exact HB.out)))); have n2_ := Aside0.mk (below_step (by repeat (first | (with_reducible first | exact HB.out | apply below_alloc | apply pw_below_drewN | apply below_drew1) | exact HB.out)) hb); clear HO154; clear HB; have HO154 := n0_; have HO157 := n1_; have HB := n2_; clear n0_ n1_ n2_; (try clear hb); (try clear hb2); (try clear hk); (try clear hi); (try clear ho0); obtain ⟨Ao74, co74, eo74⟩ := Kd.V_slice HO154.out; subst eo74; obtain ⟨Ao75, co75, eo75⟩ := Kd.V_slice HO157.out; subst eo75) | ((with_reducible refine gate_callee (f := 10) rfl ?_); refine goesL_ (some 20) rfl rfl Try.func10 (by kernel_rfl) rfl #[.slice Ao74 t152.length co74, .slice Ao75 t155.length co75] rfl (by (try simp only [List.map_toArray, List.map_cons, List.map_nil]); first | done | rfl | (simp only [List.length_drop, List.length_take]; rfl)) ?_; (with_reducible refine (plan_Diff.calls k _ _ t152 _ _ t155 t158 t159 _ ?side1 ?side2 ?side3 ?side4 A6.out).mono ?_); (case side1 => repeat (first | exact (Kd.V_reads' HO154.out).2.2 | (with_reducible refine Kd.C_alloc ?_ _) | (with_reducible refine Kd.C_drewN ?_ _) | (with_reducible refine Kd.C_drew ?_))); (case side2 => exact (Kd.V_reads' HO154.out).2.1); (case side3 => repeat (first | exact (Kd.V_reads' HO157.out).2.2 | (with_reducible refine Kd.C_alloc ?_ _) | (with_reducible refine Kd.C_drewN ?_ _) | (with_reducible refine Kd.C_drew ?_))); (case side4 => exact (Kd.V_reads' HO157.out).2.1); rintro e w76 ⟨v160, rfl, ho0, hb⟩; refine ⟨_, rfl, ?_⟩; have n0_ := Aside0.mk (Kd.V_elder' (by (with_reducible repeat (first | apply Kd.V_alloc | apply Kd.V_drewN | apply Kd.V_drew)); exact HO154.out) (Kd.R_base ho0) hb); have n1_ := Aside0.mk (Kd.V_elder' (by (with_reducible repeat (first | apply Kd.V_alloc | apply Kd.V_drewN | apply Kd.V_drew)); exact HO157.out) (Kd.R_base ho0) hb); have n2_ := Aside0.mk (Kd.R_lower ho0 (below_size (by repeat (first | (with_reducible first | exact HB.out | apply below_alloc | apply pw_below_drewN | apply below_drew1) | exact HB.out)))); have n3_ := Aside0.mk (below_step (by repeat (first | (with_reducible first | exact HB.out | apply below_alloc | apply pw_below_drewN | apply below_drew1) | exact HB.out)) hb); clear HO154; clear HO157; clear HB; have HO154 := n0_; have HO157 := n1_; have HO161 := n2_; have HB := n3_; clear n0_ n1_ n2_ n3_; (try clear hb); (try clear hb2); (try clear hk); (try clear hi); (try clear ho0)) | ((with_reducible refine gate_callee (f := 11) rfl ?_); refine goesL_ (some 25) rfl rfl Try.func11 (by kernel_rfl) rfl #[] rfl (by (try simp only [List.map_toArray, List.map_cons, List.map_nil]); first | done | rfl | (simp only [List.length_drop, List.length_take]; rfl)) ?_; (with_reducible refine (tattlelaw15_awake.calls k  t162 _ A71.out).mono ?_); rintro e w77 ⟨rfl, hb⟩; refine ⟨_, rfl, ?_⟩; have n0_ := Aside0.mk (Kd.V_below (by (with_reducible repeat (first | apply Kd.V_alloc | apply Kd.V_drewN | apply Kd.V_drew)); exact HO154.out) hb); have n1_ := Aside0.mk (Kd.V_below (by (with_reducible repeat (first | apply Kd.V_alloc | apply Kd.V_drewN | apply Kd.V_drew)); exact HO157.out) hb); have n2_ := Aside0.mk (Kd.R_below (by (with_reducible repeat (first | apply Kd.R_alloc | apply Kd.R_drewN | apply Kd.R_drew)); exact HO161.out) hb); have n3_ := Aside0.mk (below_step (by repeat (first | (with_reducible first | exact HB.out | apply below_alloc | apply pw_below_drewN | apply below_drew1) | exact HB.out)) hb); clear HO154; clear HO157; clear HO161; clear HB; have HO154 := n0_; have HO157 := n1_; have HO161 := n2_; have HB := n3_; clear n0_ n1_ n2_ n3_; (try clear hb); (try clear hb2); (try clear hk); (try clear hi)))
    go_ret
    exact ⟨by first | rfl | (simp [errW_none, errW_some] <;> rfl) | (simp [*, errW_none, errW_some] <;> rfl), by repeat (first | (with_reducible first | exact HB.out | apply below_alloc | apply pw_below_drewN | apply below_drew1) | exact HB.out)⟩

end Go.Proofs.Ythbebfjoennmfaa.PPlanFewest
