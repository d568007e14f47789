-- Written by a program of this session (see NOTES.md) out of the print of Lean's own loaded functions; Lean checks it.
import Derived.Test.YthbebfjoennmfaaPPlanTellsx0
import Derived.Test.YthbebfjoennmfaaPPlanTellsx3
import Derived.Test.YthbebfjoennmfaaPPlanTellsx5
import Derived.Test.YthbebfjoennmfaaPPlanTellsx6
import Derived.Test.YthbebfjoennmfaaPPlanTellsx7
import Derived.Test.YthbebfjoennmfaaPPlanTellsx8
import Derived.Test.YthbebfjoennmfaaPPlanTellsx10
import Derived.Test.YthbebfjoennmfaaPPlanTellsx11
namespace Go.Proofs.Ythbebfjoennmfaa.PPlanTells
open Go.RowKit Go.Proofs.YthbebfjoennmfaaW.PrintWords Go.Proofs.YthbebfjoennmfaaW.PrintLast Go.Proofs.YthbebfjoennmfaaW.PrintMore
attribute [local go_sem] max2_int min2_int max_two min_two max_three min_three max_four min_four   -- for this text's walks alone
set_option linter.unusedVariables false
set_option linter.unusedSimpArgs false

/-! ### tattlelaw15_PlanTells: function 6 -/
mutual
def tattlelaw15_PlanTells.j0 : Nat → List (S52) → List (S52) → List (S36) → List (S36) → Int → List (S52) → Int → List (S36) → Int → Bool → Option (Bool)
  | 0, _, _, _, _, _, _, _, _, _, _ => none
  | k + 1, x0, x1, x2, x7, x8, x9, x10, x11, x12, x54 => if x54 = true then (if (x7.length : Int) > 0 then (none) else (if x8 = 1 then (tattlelaw15_PlanTells.j1 k x0 x2 x9 x10 x11 x12) else (none))) else ((tattleref15_Diff.f k x0 x1).bind fun t260 => (if (t260.length : Int) > 100 then (if (x7.length : Int) > 0 then (none) else (if x8 = 9 then (if (t260.length : Int) ≤ 100 then ((tattleref15_Same.f k x7 t260).bind fun t263 => (if t263 = true then (if x8 = 0 then (tattlelaw15_PlanTells.j1 k x0 x2 x9 x10 x11 x12) else (none)) else (none))) else (tattlelaw15_PlanTells.j1 k x0 x2 x9 x10 x11 x12)) else (none))) else (if (t260.length : Int) ≤ 100 then ((tattleref15_Same.f k x7 t260).bind fun t264 => (if t264 = true then (if x8 = 0 then (tattlelaw15_PlanTells.j1 k x0 x2 x9 x10 x11 x12) else (none)) else (none))) else (tattlelaw15_PlanTells.j1 k x0 x2 x9 x10 x11 x12))))
def tattlelaw15_PlanTells.j1 : Nat → List (S52) → List (S36) → List (S52) → Int → List (S36) → Int → Option (Bool)
  | 0, _, _, _, _, _, _ => none
  | k + 1, x0, x2, x9, x10, x11, x12 => (tattleref15_May.f k x2).bind fun t265 => (if t265 = true then (tattlelaw15_PlanTells.l0 k x0 x2 x9 x10 x11 x12 ([] : List (S36)) 0) else (if (x9.length : Int) = 0 then (if x10 = 1 then (if (x11.length : Int) = 0 then (if x12 = 1 then ((tattlelaw15_awake.f k).bind fun t266 => (some t266)) else (none)) else (none)) else (none)) else (none)))
def tattlelaw15_PlanTells.l0 : Nat → List (S52) → List (S36) → List (S52) → Int → List (S36) → Int → List (S36) → Int → Option (Bool)
  | 0, _, _, _, _, _, _, _, _ => none
  | k + 1, x0, x2, x9, x10, x11, x12, x14, x15 => if x15 < (x2.length : Int) then (if 0 ≤ x15 then (if x14.length < 4398046511104 then (tattlelaw15_PlanTells.l0 k x0 x2 x9 x10 x11 x12 (x14 ++ [(⟨(rd_T36 x2 x15).f0, (rd_T36 x2 x15).f2, (rd_T36 x2 x15).f1⟩ : S36)]) (wrap64 (x15 + 1))) else (none)) else (none)) else ((tattleref15_Same.f k x11 x14).bind fun t273 => (if t273 = true then (tattlelaw15_PlanTells.j3 k x0 x2 x9 x10 (x12 != 0)) else (tattlelaw15_PlanTells.j3 k x0 x2 x9 x10 true)))
def tattlelaw15_PlanTells.j3 : Nat → List (S52) → List (S36) → List (S52) → Int → Bool → Option (Bool)
  | 0, _, _, _, _, _ => none
  | k + 1, x0, x2, x9, x10, x146 => if x146 = true then (none) else ((tattleref14_May.f k x0).bind fun t274 => (if t274 = true then ((tattleref15_Apply.f k x0 x2).bind fun bt275 => ((tattleref14_Same.f k x9 bt275.1).bind fun t279 => (if t279 = true then (if x10 = bt275.2 then ((tattlelaw15_awake.f k).bind fun t280 => (some t280)) else (none)) else (none)))) else (if (x9.length : Int) = 0 then (if x10 = 1 then ((tattlelaw15_awake.f k).bind fun t281 => (some t281)) else (none)) else (none))))
end
def tattlelaw15_PlanTells.f (k : Nat) (l0 : List (S52)) (l1 : List (S52)) (l2 : List (S36)) : Option (Bool) := (tattlelaw15_Puts.f l0).bind fun t235 => ((tattlelaw15_Puts.f l1).bind fun t238 => ((tattlelaw15_Moves.f l2).bind fun t241 => ((plan_Diff.f k t235 t238).bind fun bt244 => ((plan_Apply.f k t235 t241).bind fun bt248 => ((plan_Back.f k t241).bind fun bt252 => ((plan_Check.f k t241).bind fun t256 => ((tattleref15_May.f k t241).bind fun t257 => (if ((t256 == 0) != t257) = true then (none) else ((tattleref14_May.f k t235).bind fun t258 => (if t258 = true then ((tattleref14_May.f k t238).bind fun t259 => (tattlelaw15_PlanTells.j0 k t235 t238 t241 bt244.1 bt244.2 bt248.1 bt248.2 bt252.1 bt252.2 (!t259))) else (tattlelaw15_PlanTells.j0 k t235 t238 t241 bt244.1 bt244.2 bt248.1 bt248.2 bt252.1 bt252.2 true)))))))))))
theorem tattlelaw15_PlanTells.mono_l : ∀ k, (∀ y0 y1 y2 y3 y4 y5 y6 y7 y8 y9, LeO (tattlelaw15_PlanTells.j0 k y0 y1 y2 y3 y4 y5 y6 y7 y8 y9) (tattlelaw15_PlanTells.j0 (k + 1) y0 y1 y2 y3 y4 y5 y6 y7 y8 y9)) ∧ (∀ y0 y1 y2 y3 y4 y5, LeO (tattlelaw15_PlanTells.j1 k y0 y1 y2 y3 y4 y5) (tattlelaw15_PlanTells.j1 (k + 1) y0 y1 y2 y3 y4 y5)) ∧ (∀ y0 y1 y2 y3 y4 y5 y6 y7, LeO (tattlelaw15_PlanTells.l0 k y0 y1 y2 y3 y4 y5 y6 y7) (tattlelaw15_PlanTells.l0 (k + 1) y0 y1 y2 y3 y4 y5 y6 y7)) ∧ (∀ y0 y1 y2 y3 y4, LeO (tattlelaw15_PlanTells.j3 k y0 y1 y2 y3 y4) (tattlelaw15_PlanTells.j3 (k + 1) y0 y1 y2 y3 y4))
  | 0 => ⟨fun _ _ _ _ _ _ _ _ _ _ r h => by simp [tattlelaw15_PlanTells.j0] at h, fun _ _ _ _ _ _ r h => by simp [tattlelaw15_PlanTells.j1] at h, fun _ _ _ _ _ _ _ _ r h => by simp [tattlelaw15_PlanTells.l0] at h, fun _ _ _ _ _ r h => by simp [tattlelaw15_PlanTells.j3] at h⟩
  | k + 1 => by
    obtain ⟨ih0, ih1, ih2, ih3⟩ := tattlelaw15_PlanTells.mono_l k
    refine ⟨?_, ?_, ?_, ?_⟩
    · intro y0 y1 y2 y3 y4 y5 y6 y7 y8 y9
      unfold tattlelaw15_PlanTells.j0
      repeat' first
      | (with_reducible exact ih0 _ _ _ _ _ _ _ _ _ _)
      | (with_reducible exact ih1 _ _ _ _ _ _)
      | (with_reducible exact ih2 _ _ _ _ _ _ _ _)
      | (with_reducible exact ih3 _ _ _ _ _)
      | (with_reducible exact plan_Apply.mono _ _ _)
      | (with_reducible exact plan_Back.mono _ _)
      | (with_reducible exact plan_Check.mono _ _)
      | (with_reducible exact plan_Diff.mono _ _ _)
      | (with_reducible exact tattlelaw15_awake.mono _)
      | (with_reducible exact tattleref14_May.mono _ _)
      | (with_reducible exact tattleref14_Same.mono _ _ _)
      | (with_reducible exact tattleref15_Apply.mono _ _ _)
      | (with_reducible exact tattleref15_Diff.mono _ _ _)
      | (with_reducible exact tattleref15_May.mono _ _)
      | (with_reducible exact tattleref15_Same.mono _ _ _)
      | (with_reducible exact LeO.refl _)
      | (with_reducible exact LeO.none _)
      | (with_reducible refine LeO.ite ?_ ?_)
      | (with_reducible refine LeO.bind ?_ (fun _ => ?_))
      | exact ih0 _ _ _ _ _ _ _ _ _ _
      | exact ih1 _ _ _ _ _ _
      | exact ih2 _ _ _ _ _ _ _ _
      | exact ih3 _ _ _ _ _
      | exact plan_Apply.mono _ _ _
      | exact plan_Back.mono _ _
      | exact plan_Check.mono _ _
      | exact plan_Diff.mono _ _ _
      | exact tattlelaw15_awake.mono _
      | exact tattleref14_May.mono _ _
      | exact tattleref14_Same.mono _ _ _
      | exact tattleref15_Apply.mono _ _ _
      | exact tattleref15_Diff.mono _ _ _
      | exact tattleref15_May.mono _ _
      | exact tattleref15_Same.mono _ _ _
      | exact LeO.none _
      | refine LeO.ite ?_ ?_
      | refine LeO.bind ?_ (fun _ => ?_)
    · intro y0 y1 y2 y3 y4 y5
      unfold tattlelaw15_PlanTells.j1
      repeat' first
      | (with_reducible exact ih0 _ _ _ _ _ _ _ _ _ _)
      | (with_reducible exact ih1 _ _ _ _ _ _)
      | (with_reducible exact ih2 _ _ _ _ _ _ _ _)
      | (with_reducible exact ih3 _ _ _ _ _)
      | (with_reducible exact plan_Apply.mono _ _ _)
      | (with_reducible exact plan_Back.mono _ _)
      | (with_reducible exact plan_Check.mono _ _)
      | (with_reducible exact plan_Diff.mono _ _ _)
      | (with_reducible exact tattlelaw15_awake.mono _)
      | (with_reducible exact tattleref14_May.mono _ _)
      | (with_reducible exact tattleref14_Same.mono _ _ _)
      | (with_reducible exact tattleref15_Apply.mono _ _ _)
      | (with_reducible exact tattleref15_Diff.mono _ _ _)
      | (with_reducible exact tattleref15_May.mono _ _)
      | (with_reducible exact tattleref15_Same.mono _ _ _)
      | (with_reducible exact LeO.refl _)
      | (with_reducible exact LeO.none _)
      | (with_reducible refine LeO.ite ?_ ?_)
      | (with_reducible refine LeO.bind ?_ (fun _ => ?_))
      | exact ih0 _ _ _ _ _ _ _ _ _ _
      | exact ih1 _ _ _ _ _ _
      | exact ih2 _ _ _ _ _ _ _ _
      | exact ih3 _ _ _ _ _
      | exact plan_Apply.mono _ _ _
      | exact plan_Back.mono _ _
      | exact plan_Check.mono _ _
      | exact plan_Diff.mono _ _ _
      | exact tattlelaw15_awake.mono _
      | exact tattleref14_May.mono _ _
      | exact tattleref14_Same.mono _ _ _
      | exact tattleref15_Apply.mono _ _ _
      | exact tattleref15_Diff.mono _ _ _
      | exact tattleref15_May.mono _ _
      | exact tattleref15_Same.mono _ _ _
      | exact LeO.none _
      | refine LeO.ite ?_ ?_
      | refine LeO.bind ?_ (fun _ => ?_)
    · intro y0 y1 y2 y3 y4 y5 y6 y7
      unfold tattlelaw15_PlanTells.l0
      repeat' first
      | (with_reducible exact ih0 _ _ _ _ _ _ _ _ _ _)
      | (with_reducible exact ih1 _ _ _ _ _ _)
      | (with_reducible exact ih2 _ _ _ _ _ _ _ _)
      | (with_reducible exact ih3 _ _ _ _ _)
      | (with_reducible exact plan_Apply.mono _ _ _)
      | (with_reducible exact plan_Back.mono _ _)
      | (with_reducible exact plan_Check.mono _ _)
      | (with_reducible exact plan_Diff.mono _ _ _)
      | (with_reducible exact tattlelaw15_awake.mono _)
      | (with_reducible exact tattleref14_May.mono _ _)
      | (with_reducible exact tattleref14_Same.mono _ _ _)
      | (with_reducible exact tattleref15_Apply.mono _ _ _)
      | (with_reducible exact tattleref15_Diff.mono _ _ _)
      | (with_reducible exact tattleref15_May.mono _ _)
      | (with_reducible exact tattleref15_Same.mono _ _ _)
      | (with_reducible exact LeO.refl _)
      | (with_reducible exact LeO.none _)
      | (with_reducible refine LeO.ite ?_ ?_)
      | (with_reducible refine LeO.bind ?_ (fun _ => ?_))
      | exact ih0 _ _ _ _ _ _ _ _ _ _
      | exact ih1 _ _ _ _ _ _
      | exact ih2 _ _ _ _ _ _ _ _
      | exact ih3 _ _ _ _ _
      | exact plan_Apply.mono _ _ _
      | exact plan_Back.mono _ _
      | exact plan_Check.mono _ _
      | exact plan_Diff.mono _ _ _
      | exact tattlelaw15_awake.mono _
      | exact tattleref14_May.mono _ _
      | exact tattleref14_Same.mono _ _ _
      | exact tattleref15_Apply.mono _ _ _
      | exact tattleref15_Diff.mono _ _ _
      | exact tattleref15_May.mono _ _
      | exact tattleref15_Same.mono _ _ _
      | exact LeO.none _
      | refine LeO.ite ?_ ?_
      | refine LeO.bind ?_ (fun _ => ?_)
    · intro y0 y1 y2 y3 y4
      unfold tattlelaw15_PlanTells.j3
      repeat' first
      | (with_reducible exact ih0 _ _ _ _ _ _ _ _ _ _)
      | (with_reducible exact ih1 _ _ _ _ _ _)
      | (with_reducible exact ih2 _ _ _ _ _ _ _ _)
      | (with_reducible exact ih3 _ _ _ _ _)
      | (with_reducible exact plan_Apply.mono _ _ _)
      | (with_reducible exact plan_Back.mono _ _)
      | (with_reducible exact plan_Check.mono _ _)
      | (with_reducible exact plan_Diff.mono _ _ _)
      | (with_reducible exact tattlelaw15_awake.mono _)
      | (with_reducible exact tattleref14_May.mono _ _)
      | (with_reducible exact tattleref14_Same.mono _ _ _)
      | (with_reducible exact tattleref15_Apply.mono _ _ _)
      | (with_reducible exact tattleref15_Diff.mono _ _ _)
      | (with_reducible exact tattleref15_May.mono _ _)
      | (with_reducible exact tattleref15_Same.mono _ _ _)
      | (with_reducible exact LeO.refl _)
      | (with_reducible exact LeO.none _)
      | (with_reducible refine LeO.ite ?_ ?_)
      | (with_reducible refine LeO.bind ?_ (fun _ => ?_))
      | exact ih0 _ _ _ _ _ _ _ _ _ _
      | exact ih1 _ _ _ _ _ _
      | exact ih2 _ _ _ _ _ _ _ _
      | exact ih3 _ _ _ _ _
      | exact plan_Apply.mono _ _ _
      | exact plan_Back.mono _ _
      | exact plan_Check.mono _ _
      | exact plan_Diff.mono _ _ _
      | exact tattlelaw15_awake.mono _
      | exact tattleref14_May.mono _ _
      | exact tattleref14_Same.mono _ _ _
      | exact tattleref15_Apply.mono _ _ _
      | exact tattleref15_Diff.mono _ _ _
      | exact tattleref15_May.mono _ _
      | exact tattleref15_Same.mono _ _ _
      | exact LeO.none _
      | refine LeO.ite ?_ ?_
      | refine LeO.bind ?_ (fun _ => ?_)
theorem tattlelaw15_PlanTells.mono : ∀ a0 a1 a2 k, LeO (tattlelaw15_PlanTells.f k a0 a1 a2) (tattlelaw15_PlanTells.f (k + 1) a0 a1 a2) := by
  intro a0 a1 a2 k
  obtain ⟨ih0, ih1, ih2, ih3⟩ := tattlelaw15_PlanTells.mono_l k
  unfold tattlelaw15_PlanTells.f
  repeat' first
      | (with_reducible exact ih0 _ _ _ _ _ _ _ _ _ _)
      | (with_reducible exact ih1 _ _ _ _ _ _)
      | (with_reducible exact ih2 _ _ _ _ _ _ _ _)
      | (with_reducible exact ih3 _ _ _ _ _)
      | (with_reducible exact plan_Apply.mono _ _ _)
      | (with_reducible exact plan_Back.mono _ _)
      | (with_reducible exact plan_Check.mono _ _)
      | (with_reducible exact plan_Diff.mono _ _ _)
      | (with_reducible exact tattlelaw15_awake.mono _)
      | (with_reducible exact tattleref14_May.mono _ _)
      | (with_reducible exact tattleref14_Same.mono _ _ _)
      | (with_reducible exact tattleref15_Apply.mono _ _ _)
      | (with_reducible exact tattleref15_Diff.mono _ _ _)
      | (with_reducible exact tattleref15_May.mono _ _)
      | (with_reducible exact tattleref15_Same.mono _ _ _)
      | (with_reducible exact LeO.refl _)
      | (with_reducible exact LeO.none _)
      | (with_reducible refine LeO.ite ?_ ?_)
      | (with_reducible refine LeO.bind ?_ (fun _ => ?_))
      | exact ih0 _ _ _ _ _ _ _ _ _ _
      | exact ih1 _ _ _ _ _ _
      | exact ih2 _ _ _ _ _ _ _ _
      | exact ih3 _ _ _ _ _
      | exact plan_Apply.mono _ _ _
      | exact plan_Back.mono _ _
      | exact plan_Check.mono _ _
      | exact plan_Diff.mono _ _ _
      | exact tattlelaw15_awake.mono _
      | exact tattleref14_May.mono _ _
      | exact tattleref14_Same.mono _ _ _
      | exact tattleref15_Apply.mono _ _ _
      | exact tattleref15_Diff.mono _ _ _
      | exact tattleref15_May.mono _ _
      | exact tattleref15_Same.mono _ _ _
      | exact LeO.none _
      | refine LeO.ite ?_ ?_
      | refine LeO.bind ?_ (fun _ => ?_)
def tattlelaw15_PlanTells.T19 : Bool × List (List Nat × List Nat) := (true, [([], []), ([], []), ([], []), ([1, 2], [1, 2]), ([3], [3]), ([4], [4]), ([], []), ([], []), ([6, 7], [6, 7]), ([8], [8]), ([9], [9]), ([], []), ([], []), ([11, 12], [11, 12]), ([13], [13]), ([14], [14]), ([5, 10, 15], [5, 10, 15]), ([16], [16]), ([0, 17], [0, 17]), ([18, 18, 0, 1, 2, 3, 4, 5, 6, 7, 8, 9, 10, 11, 12, 13, 14, 15, 16, 17, 18], [0, 18])])
def tattlelaw15_PlanTells.B19 : List Nat := [0, 0, 0, 6, 14, 30, 0, 0, 192, 448, 960, 0, 0, 6144, 14336, 30720, 65534, 131070, 262143, 524287]
theorem tattlelaw15_PlanTells.tab19 : rtab .any (opsOf Try.f6 19) = tattlelaw15_PlanTells.T19 := by kernel_rfl
theorem tattlelaw15_PlanTells.bits19 : waitsOk tattlelaw15_PlanTells.T19.2 tattlelaw15_PlanTells.B19 = true := by kernel_rfl
set_option maxHeartbeats 8000000 in
set_option maxRecDepth 100000 in
theorem tattlelaw15_PlanTells.calls (k : Nat) (A0 : Option Addr) (c0 : Nat) (l0 : List (S52)) (A1 : Option Addr) (c1 : Nat) (l1 : List (S52)) (A2 : Option Addr) (c2 : Nat) (l2 : List (S36)) (r : Bool) (w : World) (hr0 : Kd.C k52 w A0 l0.length l0) (hc0 : l0.length ≤ c0) (hr1 : Kd.C k52 w A1 l1.length l1) (hc1 : l1.length ≤ c1) (hr2 : Kd.C k36 w A2 l2.length l2) (hc2 : l2.length ≤ c2) (h : tattlelaw15_PlanTells.f k l0 l1 l2 = some r) :
    Calls Try.prog 6 #[.slice A0 l0.length c0, .slice A1 l1.length c1, .slice A2 l2.length c2] w fun e w' => e = .returned (.bool r) ∧ Below w.heap.size w w' := by
  have hu36 := Try.underlying36
  have HR0 := Aside0.mk hr0
  have HC0 := Aside0.mk hc0
  clear hr0 hc0
  have HR1 := Aside0.mk hr1
  have HC1 := Aside0.mk hc1
  clear hr1 hc1
  have HR2 := Aside0.mk hr2
  have HC2 := Aside0.mk hc2
  clear hr2 hc2
  have HB := Aside0.mk (Below.refl w.heap.size w)
  have H : ((tattlelaw15_Puts.f l0).bind fun t235 => ((tattlelaw15_Puts.f l1).bind fun t238 => ((tattlelaw15_Moves.f l2).bind fun t241 => ((plan_Diff.f k t235 t238).bind fun bt244 => ((plan_Apply.f k t235 t241).bind fun bt248 => ((plan_Back.f k t241).bind fun bt252 => ((plan_Check.f k t241).bind fun t256 => ((tattleref15_May.f k t241).bind fun t257 => (if ((t256 == 0) != t257) = true then (none) else ((tattleref14_May.f k t235).bind fun t258 => (if t258 = true then ((tattleref14_May.f k t238).bind fun t259 => (tattlelaw15_PlanTells.j0 k t235 t238 t241 bt244.1 bt244.2 bt248.1 bt248.2 bt252.1 bt252.2 (!t259))) else (tattlelaw15_PlanTells.j0 k t235 t238 t241 bt244.1 bt244.2 bt248.1 bt248.2 bt252.1 bt252.2 true)))))))))))) = some r := h
  clear h
  replace H := Option.bind_eq_some_iff.mp H
  obtain ⟨t235, A40, H⟩ := H
  replace H : ((tattlelaw15_Puts.f l1).bind fun t238 => ((tattlelaw15_Moves.f l2).bind fun t241 => ((plan_Diff.f k t235 t238).bind fun bt244 => ((plan_Apply.f k t235 t241).bind fun bt248 => ((plan_Back.f k t241).bind fun bt252 => ((plan_Check.f k t241).bind fun t256 => ((tattleref15_May.f k t241).bind fun t257 => (if ((t256 == 0) != t257) = true then (none) else ((tattleref14_May.f k t235).bind fun t258 => (if t258 = true then ((tattleref14_May.f k t238).bind fun t259 => (tattlelaw15_PlanTells.j0 k t235 t238 t241 bt244.1 bt244.2 bt248.1 bt248.2 bt252.1 bt252.2 (!t259))) else (tattlelaw15_PlanTells.j0 k t235 t238 t241 bt244.1 bt244.2 bt248.1 bt248.2 bt252.1 bt252.2 true))))))))))) = some r := H
  have A4 := Aside0.mk A40
  clear A40
  replace H := Option.bind_eq_some_iff.mp H
  obtain ⟨t238, A50, H⟩ := H
  replace H : ((tattlelaw15_Moves.f l2).bind fun t241 => ((plan_Diff.f k t235 t238).bind fun bt244 => ((plan_Apply.f k t235 t241).bind fun bt248 => ((plan_Back.f k t241).bind fun bt252 => ((plan_Check.f k t241).bind fun t256 => ((tattleref15_May.f k t241).bind fun t257 => (if ((t256 == 0) != t257) = true then (none) else ((tattleref14_May.f k t235).bind fun t258 => (if t258 = true then ((tattleref14_May.f k t238).bind fun t259 => (tattlelaw15_PlanTells.j0 k t235 t238 t241 bt244.1 bt244.2 bt248.1 bt248.2 bt252.1 bt252.2 (!t259))) else (tattlelaw15_PlanTells.j0 k t235 t238 t241 bt244.1 bt244.2 bt248.1 bt248.2 bt252.1 bt252.2 true)))))))))) = some r := H
  have A5 := Aside0.mk A50
  clear A50
  replace H := Option.bind_eq_some_iff.mp H
  obtain ⟨t241, A60, H⟩ := H
  replace H : ((plan_Diff.f k t235 t238).bind fun bt244 => ((plan_Apply.f k t235 t241).bind fun bt248 => ((plan_Back.f k t241).bind fun bt252 => ((plan_Check.f k t241).bind fun t256 => ((tattleref15_May.f k t241).bind fun t257 => (if ((t256 == 0) != t257) = true then (none) else ((tattleref14_May.f k t235).bind fun t258 => (if t258 = true then ((tattleref14_May.f k t238).bind fun t259 => (tattlelaw15_PlanTells.j0 k t235 t238 t241 bt244.1 bt244.2 bt248.1 bt248.2 bt252.1 bt252.2 (!t259))) else (tattlelaw15_PlanTells.j0 k t235 t238 t241 bt244.1 bt244.2 bt248.1 bt248.2 bt252.1 bt252.2 true))))))))) = some r := H
  have A6 := Aside0.mk A60
  clear A60
  replace H := Option.bind_eq_some_iff.mp H
  obtain ⟨⟨t244, t245⟩, A70, H⟩ := H
  replace H : ((plan_Apply.f k t235 t241).bind fun bt248 => ((plan_Back.f k t241).bind fun bt252 => ((plan_Check.f k t241).bind fun t256 => ((tattleref15_May.f k t241).bind fun t257 => (if ((t256 == 0) != t257) = true then (none) else ((tattleref14_May.f k t235).bind fun t258 => (if t258 = true then ((tattleref14_May.f k t238).bind fun t259 => (tattlelaw15_PlanTells.j0 k t235 t238 t241 t244 t245 bt248.1 bt248.2 bt252.1 bt252.2 (!t259))) else (tattlelaw15_PlanTells.j0 k t235 t238 t241 t244 t245 bt248.1 bt248.2 bt252.1 bt252.2 true)))))))) = some r := H
  have A7 := Aside0.mk A70
  clear A70
  replace H := Option.bind_eq_some_iff.mp H
  obtain ⟨⟨t248, t249⟩, A80, H⟩ := H
  replace H : ((plan_Back.f k t241).bind fun bt252 => ((plan_Check.f k t241).bind fun t256 => ((tattleref15_May.f k t241).bind fun t257 => (if ((t256 == 0) != t257) = true then (none) else ((tattleref14_May.f k t235).bind fun t258 => (if t258 = true then ((tattleref14_May.f k t238).bind fun t259 => (tattlelaw15_PlanTells.j0 k t235 t238 t241 t244 t245 t248 t249 bt252.1 bt252.2 (!t259))) else (tattlelaw15_PlanTells.j0 k t235 t238 t241 t244 t245 t248 t249 bt252.1 bt252.2 true))))))) = some r := H
  have A8 := Aside0.mk A80
  clear A80
  replace H := Option.bind_eq_some_iff.mp H
  obtain ⟨⟨t252, t253⟩, A90, H⟩ := H
  replace H : ((plan_Check.f k t241).bind fun t256 => ((tattleref15_May.f k t241).bind fun t257 => (if ((t256 == 0) != t257) = true then (none) else ((tattleref14_May.f k t235).bind fun t258 => (if t258 = true then ((tattleref14_May.f k t238).bind fun t259 => (tattlelaw15_PlanTells.j0 k t235 t238 t241 t244 t245 t248 t249 t252 t253 (!t259))) else (tattlelaw15_PlanTells.j0 k t235 t238 t241 t244 t245 t248 t249 t252 t253 true)))))) = some r := H
  have A9 := Aside0.mk A90
  clear A90
  replace H := Option.bind_eq_some_iff.mp H
  obtain ⟨t256, A100, H⟩ := H
  replace H : ((tattleref15_May.f k t241).bind fun t257 => (if ((t256 == 0) != t257) = true then (none) else ((tattleref14_May.f k t235).bind fun t258 => (if t258 = true then ((tattleref14_May.f k t238).bind fun t259 => (tattlelaw15_PlanTells.j0 k t235 t238 t241 t244 t245 t248 t249 t252 t253 (!t259))) else (tattlelaw15_PlanTells.j0 k t235 t238 t241 t244 t245 t248 t249 t252 t253 true))))) = some r := H
  have A10 := Aside0.mk A100
  clear A100
  replace H := Option.bind_eq_some_iff.mp H
  obtain ⟨t257, A110, H⟩ := H
  replace H : (if ((t256 == 0) != t257) = true then (none) else ((tattleref14_May.f k t235).bind fun t258 => (if t258 = true then ((tattleref14_May.f k t238).bind fun t259 => (tattlelaw15_PlanTells.j0 k t235 t238 t241 t244 t245 t248 t249 t252 t253 (!t259))) else (tattlelaw15_PlanTells.j0 k t235 t238 t241 t244 t245 t248 t249 t252 t253 true)))) = some r := H
  have A11 := Aside0.mk A110
  clear A110
  by_cases c12 : ((t256 == 0) != t257) = true
  · rw [if_pos c12] at H
    exact absurd H (by simp)
  · rw [if_neg c12] at H
    have c12b0 : ((t256 == 0) != t257) = false := by simpa using c12
    (try (have c12b1 : decide ((t256 == 0) = t257) = true := by simpa using c12))
    (try (have c12b2 : ((t256 == 0) == t257) = true := by simpa using c12))
    clear c12
    have HC13 := Aside0.mk H
    clear H
    go_enter Try.func6, Try.ntmps6
    go_upto_region 7 with (first | ((with_reducible refine gate_callee (f := 9) rfl ?_); refine goesL_ (some 19) rfl rfl Try.func9 (by kernel_rfl) rfl #[.slice A0 l0.length c0] rfl (by (try simp only [List.map_toArray, List.map_cons, List.map_nil]); first | done | rfl | (simp only [List.length_drop, List.length_take]; rfl)) ?_; (with_reducible refine (tattlelaw15_Puts.calls (fun k_ => k_ < w.heap.size) _ _ l0 t235 _ ?side1 A4.out).mono ?_); (case side1 => exact Kd.V_mk HC0.out (Kd.F_below (Kd.C_F k52_heap HR0.out) (by repeat (first | (with_reducible first | exact HB.out | apply below_alloc | apply pw_below_drewN | apply below_drew1) | exact HB.out)))); rintro e w14 ⟨v236, rfl, ho0, hb⟩; refine ⟨_, rfl, ?_⟩; have n0_ := Aside0.mk (Kd.V_lower (Kd.V_mono (ok' := fun k_ => True) ho0 (fun k_ hk_ => trivial)) (below_size (by repeat (first | (with_reducible first | exact HB.out | apply below_alloc | apply pw_below_drewN | apply below_drew1) | exact HB.out)))); have n1_ := Aside0.mk (below_step (by repeat (first | (with_reducible first | exact HB.out | apply below_alloc | apply pw_below_drewN | apply below_drew1) | exact HB.out)) hb); clear HB; have HO237 := n0_; have HB := n1_; clear n0_ n1_; (try clear hb); (try clear hb2); (try clear hk); (try clear hi); (try clear ho0)) | ((with_reducible refine gate_callee (f := 9) rfl ?_); refine goesL_ (some 21) rfl rfl Try.func9 (by kernel_rfl) rfl #[.slice A1 l1.length c1] rfl (by (try simp only [List.map_toArray, List.map_cons, List.map_nil]); first | done | rfl | (simp only [List.length_drop, List.length_take]; rfl)) ?_; (with_reducible refine (tattlelaw15_Puts.calls (fun k_ => k_ < w.heap.size) _ _ l1 t238 _ ?side1 A5.out).mono ?_); (case side1 => exact Kd.V_mk HC1.out (Kd.F_below (Kd.C_F k52_heap HR1.out) (by repeat (first | (with_reducible first | exact HB.out | apply below_alloc | apply pw_below_drewN | apply below_drew1) | exact HB.out)))); rintro e w15 ⟨v239, rfl, ho0, hb⟩; refine ⟨_, rfl, ?_⟩; have n0_ := Aside0.mk (Kd.V_below (by (with_reducible repeat (first | apply Kd.V_alloc | apply Kd.V_drewN | apply Kd.V_drew)); exact HO237.out) hb); have n1_ := Aside0.mk (Kd.V_lower (Kd.V_mono (ok' := fun k_ => True) ho0 (fun k_ hk_ => trivial)) (below_size (by repeat (first | (with_reducible first | exact HB.out | apply below_alloc | apply pw_below_drewN | apply below_drew1) | exact HB.out)))); have n2_ := Aside0.mk (below_step (by repeat (first | (with_reducible first | exact HB.out | apply below_alloc | apply pw_below_drewN | apply below_drew1) | exact HB.out)) hb); clear HO237; clear HB; have HO237 := n0_; have HO240 := n1_; have HB := n2_; clear n0_ n1_ n2_; (try clear hb); (try clear hb2); (try clear hk); (try clear hi); (try clear ho0)) | ((with_reducible refine gate_callee (f := 14) rfl ?_); refine goesL_ (some 23) rfl rfl Try.func14 (by kernel_rfl) rfl #[.slice A2 l2.length c2] rfl (by (try simp only [List.map_toArray, List.map_cons, List.map_nil]); first | done | rfl | (simp only [List.length_drop, List.length_take]; rfl)) ?_; (with_reducible refine (tattlelaw15_Moves.calls (fun k_ => k_ < w.heap.size) _ _ l2 t241 _ ?side1 A6.out).mono ?_); (case side1 => exact Kd.V_mk HC2.out (Kd.F_below (Kd.C_F k36_heap HR2.out) (by repeat (first | (with_reducible first | exact HB.out | apply below_alloc | apply pw_below_drewN | apply below_drew1) | exact HB.out)))); rintro e w16 ⟨v242, rfl, ho0, hb⟩; refine ⟨_, rfl, ?_⟩; have n0_ := Aside0.mk (Kd.V_below (by (with_reducible repeat (first | apply Kd.V_alloc | apply Kd.V_drewN | apply Kd.V_drew)); exact HO237.out) hb); have n1_ := Aside0.mk (Kd.V_below (by (with_reducible repeat (first | apply Kd.V_alloc | apply Kd.V_drewN | apply Kd.V_drew)); exact HO240.out) hb); have n2_ := Aside0.mk (Kd.V_lower (Kd.V_mono (ok' := fun k_ => True) ho0 (fun k_ hk_ => trivial)) (below_size (by repeat (first | (with_reducible first | exact HB.out | apply below_alloc | apply pw_below_drewN | apply below_drew1) | exact HB.out)))); have n3_ := Aside0.mk (below_step (by repeat (first | (with_reducible first | exact HB.out | apply below_alloc | apply pw_below_drewN | apply below_drew1) | exact HB.out)) hb); clear HO237; clear HO240; clear HB; have HO237 := n0_; have HO240 := n1_; have HO243 := n2_; have HB := n3_; clear n0_ n1_ n2_ n3_; (try clear hb); (try clear hb2); (try clear hk); (try clear hi); (try clear ho0); obtain ⟨Ao17, co17, eo17⟩ := Kd.V_slice HO237.out; subst eo17; obtain ⟨Ao18, co18, eo18⟩ := Kd.V_slice HO240.out; subst eo18) | ((with_reducible refine gate_callee (f := 10) rfl ?_); refine goesL_ (some 27) rfl rfl Try.func10 (by kernel_rfl) rfl #[.slice Ao17 t235.length co17, .slice Ao18 t238.length co18] rfl (by (try simp only [List.map_toArray, List.map_cons, List.map_nil]); first | done | rfl | (simp only [List.length_drop, List.length_take]; rfl)) ?_; (with_reducible refine (plan_Diff.calls k _ _ t235 _ _ t238 t244 t245 _ ?side1 ?side2 ?side3 ?side4 A7.out).mono ?_); (case side1 => repeat (first | exact (Kd.V_reads' HO237.out).2.2 | (with_reducible refine Kd.C_alloc ?_ _) | (with_reducible refine Kd.C_drewN ?_ _) | (with_reducible refine Kd.C_drew ?_))); (case side2 => exact (Kd.V_reads' HO237.out).2.1); (case side3 => repeat (first | exact (Kd.V_reads' HO240.out).2.2 | (with_reducible refine Kd.C_alloc ?_ _) | (with_reducible refine Kd.C_drewN ?_ _) | (with_reducible refine Kd.C_drew ?_))); (case side4 => exact (Kd.V_reads' HO240.out).2.1); rintro e w19 ⟨v246, rfl, ho0, hb⟩; refine ⟨_, rfl, ?_⟩; have n0_ := Aside0.mk (Kd.V_elder' (by (with_reducible repeat (first | apply Kd.V_alloc | apply Kd.V_drewN | apply Kd.V_drew)); exact HO237.out) (Kd.R_base ho0) hb); have n1_ := Aside0.mk (Kd.V_elder' (by (with_reducible repeat (first | apply Kd.V_alloc | apply Kd.V_drewN | apply Kd.V_drew)); exact HO240.out) (Kd.R_base ho0) hb); have n2_ := Aside0.mk (Kd.V_elder' (by (with_reducible repeat (first | apply Kd.V_alloc | apply Kd.V_drewN | apply Kd.V_drew)); exact HO243.out) (Kd.R_base ho0) hb); have n3_ := Aside0.mk (Kd.R_lower ho0 (below_size (by repeat (first | (with_reducible first | exact HB.out | apply below_alloc | apply pw_below_drewN | apply below_drew1) | exact HB.out)))); have n4_ := Aside0.mk (below_step (by repeat (first | (with_reducible first | exact HB.out | apply below_alloc | apply pw_below_drewN | apply below_drew1) | exact HB.out)) hb); clear HO237; clear HO240; clear HO243; clear HB; have HO237 := n0_; have HO240 := n1_; have HO243 := n2_; have HO247 := n3_; have HB := n4_; clear n0_ n1_ n2_ n3_ n4_; (try clear hb); (try clear hb2); (try clear hk); (try clear hi); (try clear ho0); obtain ⟨Ao20, co20, eo20⟩ := Kd.V_slice HO243.out; subst eo20) | ((with_reducible refine gate_callee (f := 13) rfl ?_); refine goesL_ (some 33) rfl rfl Try.func13 (by kernel_rfl) rfl #[.slice Ao17 t235.length co17, .slice Ao20 t241.length co20] rfl (by (try simp only [List.map_toArray, List.map_cons, List.map_nil]); first | done | rfl | (simp only [List.length_drop, List.length_take]; rfl)) ?_; (with_reducible refine (plan_Apply.calls k _ _ t235 _ _ t241 t248 t249 _ ?side1 ?side2 ?side3 ?side4 A8.out).mono ?_); (case side1 => repeat (first | exact (Kd.V_reads' HO237.out).2.2 | (with_reducible refine Kd.C_alloc ?_ _) | (with_reducible refine Kd.C_drewN ?_ _) | (with_reducible refine Kd.C_drew ?_))); (case side2 => exact (Kd.V_reads' HO237.out).2.1); (case side3 => repeat (first | exact (Kd.V_reads' HO243.out).2.2 | (with_reducible refine Kd.C_alloc ?_ _) | (with_reducible refine Kd.C_drewN ?_ _) | (with_reducible refine Kd.C_drew ?_))); (case side4 => exact (Kd.V_reads' HO243.out).2.1); rintro e w21 ⟨v250, rfl, ho0, hb⟩; refine ⟨_, rfl, ?_⟩; have n0_ := Aside0.mk (Kd.V_elder' (by (with_reducible repeat (first | apply Kd.V_alloc | apply Kd.V_drewN | apply Kd.V_drew)); exact HO237.out) (Kd.R_base ho0) hb); have n1_ := Aside0.mk (Kd.V_elder' (by (with_reducible repeat (first | apply Kd.V_alloc | apply Kd.V_drewN | apply Kd.V_drew)); exact HO240.out) (Kd.R_base ho0) hb); have n2_ := Aside0.mk (Kd.V_elder' (by (with_reducible repeat (first | apply Kd.V_alloc | apply Kd.V_drewN | apply Kd.V_drew)); exact HO243.out) (Kd.R_base ho0) hb); have n3_ := Aside0.mk (Kd.R_below (by (with_reducible repeat (first | apply Kd.R_alloc | apply Kd.R_drewN | apply Kd.R_drew)); exact HO247.out) hb); have n4_ := Aside0.mk (Kd.R_lower ho0 (below_size (by repeat (first | (with_reducible first | exact HB.out | apply below_alloc | apply pw_below_drewN | apply below_drew1) | exact HB.out)))); have n5_ := Aside0.mk (below_step (by repeat (first | (with_reducible first | exact HB.out | apply below_alloc | apply pw_below_drewN | apply below_drew1) | exact HB.out)) hb); clear HO237; clear HO240; clear HO243; clear HO247; clear HB; have HO237 := n0_; have HO240 := n1_; have HO243 := n2_; have HO247 := n3_; have HO251 := n4_; have HB := n5_; clear n0_ n1_ n2_ n3_ n4_ n5_; (try clear hb); (try clear hb2); (try clear hk); (try clear hi); (try clear ho0)) | ((with_reducible refine gate_callee (f := 15) rfl ?_); refine goesL_ (some 38) rfl rfl Try.func15 (by kernel_rfl) rfl #[.slice Ao20 t241.length co20] rfl (by (try simp only [List.map_toArray, List.map_cons, List.map_nil]); first | done | rfl | (simp only [List.length_drop, List.length_take]; rfl)) ?_; (with_reducible refine (plan_Back.calls k _ _ t241 t252 t253 _ ?side1 ?side2 A9.out).mono ?_); (case side1 => repeat (first | exact (Kd.V_reads' HO243.out).2.2 | (with_reducible refine Kd.C_alloc ?_ _) | (with_reducible refine Kd.C_drewN ?_ _) | (with_reducible refine Kd.C_drew ?_))); (case side2 => exact (Kd.V_reads' HO243.out).2.1); rintro e w22 ⟨v254, rfl, ho0, hb⟩; refine ⟨_, rfl, ?_⟩; have n0_ := Aside0.mk (Kd.V_elder' (by (with_reducible repeat (first | apply Kd.V_alloc | apply Kd.V_drewN | apply Kd.V_drew)); exact HO237.out) (Kd.R_base ho0) hb); have n1_ := Aside0.mk (Kd.V_elder' (by (with_reducible repeat (first | apply Kd.V_alloc | apply Kd.V_drewN | apply Kd.V_drew)); exact HO240.out) (Kd.R_base ho0) hb); have n2_ := Aside0.mk (Kd.V_elder' (by (with_reducible repeat (first | apply Kd.V_alloc | apply Kd.V_drewN | apply Kd.V_drew)); exact HO243.out) (Kd.R_base ho0) hb); have n3_ := Aside0.mk (Kd.R_elder' (by (with_reducible repeat (first | apply Kd.R_alloc | apply Kd.R_drewN | apply Kd.R_drew)); exact HO247.out) (Kd.R_base ho0) hb); have n4_ := Aside0.mk (Kd.R_below (by (with_reducible repeat (first | apply Kd.R_alloc | apply Kd.R_drewN | apply Kd.R_drew)); exact HO251.out) hb); have n5_ := Aside0.mk (Kd.R_lower (Kd.R_new' ho0 (Kd.R_lt (by (with_reducible repeat (first | apply Kd.R_alloc | apply Kd.R_drewN | apply Kd.R_drew)); exact HO247.out))) (below_size (by repeat (first | (with_reducible first | exact HB.out | apply below_alloc | apply pw_below_drewN | apply below_drew1) | exact HB.out)))); have n6_ := Aside0.mk (below_step (by repeat (first | (with_reducible first | exact HB.out | apply below_alloc | apply pw_below_drewN | apply below_drew1) | exact HB.out)) hb); clear HO237; clear HO240; clear HO243; clear HO247; clear HO251; clear HB; have HO237 := n0_; have HO240 := n1_; have HO243 := n2_; have HO247 := n3_; have HO251 := n4_; have HO255 := n5_; have HB := n6_; clear n0_ n1_ n2_ n3_ n4_ n5_ n6_; (try clear hb); (try clear hb2); (try clear hk); (try clear hi); (try clear ho0)) | ((with_reducible refine gate_callee (f := 16) rfl ?_); refine goesL_ (some 42) rfl rfl Try.func16 (by kernel_rfl) rfl #[.slice Ao20 t241.length co20] rfl (by (try simp only [List.map_toArray, List.map_cons, List.map_nil]); first | done | rfl | (simp only [List.length_drop, List.length_take]; rfl)) ?_; (with_reducible refine (plan_Check.calls k _ _ t241 t256 _ ?side1 ?side2 A10.out).mono ?_); (case side1 => repeat (first | exact (Kd.V_reads' HO243.out).2.2 | (with_reducible refine Kd.C_alloc ?_ _) | (with_reducible refine Kd.C_drewN ?_ _) | (with_reducible refine Kd.C_drew ?_))); (case side2 => exact (Kd.V_reads' HO243.out).2.1); rintro e w23 ⟨rfl, hb⟩; refine ⟨_, rfl, ?_⟩; have n0_ := Aside0.mk (Kd.V_below (by (with_reducible repeat (first | apply Kd.V_alloc | apply Kd.V_drewN | apply Kd.V_drew)); exact HO237.out) hb); have n1_ := Aside0.mk (Kd.V_below (by (with_reducible repeat (first | apply Kd.V_alloc | apply Kd.V_drewN | apply Kd.V_drew)); exact HO240.out) hb); have n2_ := Aside0.mk (Kd.V_below (by (with_reducible repeat (first | apply Kd.V_alloc | apply Kd.V_drewN | apply Kd.V_drew)); exact HO243.out) hb); have n3_ := Aside0.mk (Kd.R_below (by (with_reducible repeat (first | apply Kd.R_alloc | apply Kd.R_drewN | apply Kd.R_drew)); exact HO247.out) hb); have n4_ := Aside0.mk (Kd.R_below (by (with_reducible repeat (first | apply Kd.R_alloc | apply Kd.R_drewN | apply Kd.R_drew)); exact HO251.out) hb); have n5_ := Aside0.mk (Kd.R_below (by (with_reducible repeat (first | apply Kd.R_alloc | apply Kd.R_drewN | apply Kd.R_drew)); exact HO255.out) hb); have n6_ := Aside0.mk (below_step (by repeat (first | (with_reducible first | exact HB.out | apply below_alloc | apply pw_below_drewN | apply below_drew1) | exact HB.out)) hb); clear HO237; clear HO240; clear HO243; clear HO247; clear HO251; clear HO255; clear HB; have HO237 := n0_; have HO240 := n1_; have HO243 := n2_; have HO247 := n3_; have HO251 := n4_; have HO255 := n5_; have HB := n6_; clear n0_ n1_ n2_ n3_ n4_ n5_ n6_; (try clear hb); (try clear hb2); (try clear hk); (try clear hi)) | ((with_reducible refine gate_callee (f := 17) rfl ?_); refine goesL_ (some 45) rfl rfl Try.func17 (by kernel_rfl) rfl #[.slice Ao20 t241.length co20] rfl (by (try simp only [List.map_toArray, List.map_cons, List.map_nil]); first | done | rfl | (simp only [List.length_drop, List.length_take]; rfl)) ?_; (with_reducible refine (tattleref15_May.calls k _ _ t241 t257 _ ?side1 ?side2 A11.out).mono ?_); (case side1 => repeat (first | exact (Kd.V_reads' HO243.out).2.2 | (with_reducible refine Kd.C_alloc ?_ _) | (with_reducible refine Kd.C_drewN ?_ _) | (with_reducible refine Kd.C_drew ?_))); (case side2 => exact (Kd.V_reads' HO243.out).2.1); rintro e w24 ⟨rfl, hb⟩; refine ⟨_, rfl, ?_⟩; have n0_ := Aside0.mk (Kd.V_below (by (with_reducible repeat (first | apply Kd.V_alloc | apply Kd.V_drewN | apply Kd.V_drew)); exact HO237.out) hb); have n1_ := Aside0.mk (Kd.V_below (by (with_reducible repeat (first | apply Kd.V_alloc | apply Kd.V_drewN | apply Kd.V_drew)); exact HO240.out) hb); have n2_ := Aside0.mk (Kd.V_below (by (with_reducible repeat (first | apply Kd.V_alloc | apply Kd.V_drewN | apply Kd.V_drew)); exact HO243.out) hb); have n3_ := Aside0.mk (Kd.R_below (by (with_reducible repeat (first | apply Kd.R_alloc | apply Kd.R_drewN | apply Kd.R_drew)); exact HO247.out) hb); have n4_ := Aside0.mk (Kd.R_below (by (with_reducible repeat (first | apply Kd.R_alloc | apply Kd.R_drewN | apply Kd.R_drew)); exact HO251.out) hb); have n5_ := Aside0.mk (Kd.R_below (by (with_reducible repeat (first | apply Kd.R_alloc | apply Kd.R_drewN | apply Kd.R_drew)); exact HO255.out) hb); have n6_ := Aside0.mk (below_step (by repeat (first | (with_reducible first | exact HB.out | apply below_alloc | apply pw_below_drewN | apply below_drew1) | exact HB.out)) hb); clear HO237; clear HO240; clear HO243; clear HO247; clear HO251; clear HO255; clear HB; have HO237 := n0_; have HO240 := n1_; have HO243 := n2_; have HO247 := n3_; have HO251 := n4_; have HO255 := n5_; have HB := n6_; clear n0_ n1_ n2_ n3_ n4_ n5_ n6_; (try clear hb); (try clear hb2); (try clear hk); (try clear hi)))
    (try simp only [Act.put, List.setIfInBounds_toArray, List.set_cons_zero, List.set_cons_succ])
    go_cut [54] (fun v54 wc => ∃ (kq : Nat) (x54_12 : Bool), v54 = .bool x54_12 ∧ Aside0 (tattlelaw15_PlanTells.j0 kq t235 t238 t241 t244 t245 t248 t249 t252 t253 x54_12 = some r) ∧ Aside0 (kq ≤ k) ∧ Aside0 (Kd.V k52 52 wc w.heap.size (fun k_ => some k_ ≠ (v246 : Value).ownBlock ∧ some k_ ≠ (v250 : Value).ownBlock ∧ some k_ ≠ (v254 : Value).ownBlock) (.slice Ao17 t235.length co17) t235) ∧ Aside0 (Kd.V k52 52 wc w.heap.size (fun k_ => some k_ ≠ (v246 : Value).ownBlock ∧ some k_ ≠ (v250 : Value).ownBlock ∧ some k_ ≠ (v254 : Value).ownBlock) (.slice Ao18 t238.length co18) t238) ∧ Aside0 (Kd.V k36 36 wc w.heap.size (fun k_ => some k_ ≠ (v246 : Value).ownBlock ∧ some k_ ≠ (v250 : Value).ownBlock ∧ some k_ ≠ (v254 : Value).ownBlock) (.slice Ao20 t241.length co20) t241) ∧ Aside0 (Kd.R k36 36 wc w.heap.size (fun k_ => some k_ ≠ (v254 : Value).ownBlock) v246 t244) ∧ Aside0 (Kd.R k52 52 wc w.heap.size (fun _ => True) v250 t248) ∧ Aside0 (Kd.R k36 36 wc w.heap.size (fun k_ => some k_ ≠ (v246 : Value).ownBlock) v254 t252) ∧ Aside0 (Below w.heap.size w wc))
    case first =>
      have H := HC13.out
      clear HC13
      replace H := Option.bind_eq_some_iff.mp H
      obtain ⟨t258, A250, H⟩ := H
      replace H : (if t258 = true then ((tattleref14_May.f k t238).bind fun t259 => (tattlelaw15_PlanTells.j0 k t235 t238 t241 t244 t245 t248 t249 t252 t253 (!t259))) else (tattlelaw15_PlanTells.j0 k t235 t238 t241 t244 t245 t248 t249 t252 t253 true)) = some r := H
      have A25 := Aside0.mk A250
      clear A250
      by_cases c26 : t258 = true
      · subst c26
        have H1 : ((tattleref14_May.f k t238).bind fun t259 => (tattlelaw15_PlanTells.j0 k t235 t238 t241 t244 t245 t248 t249 t252 t253 (!t259))) = some r := by rw [if_pos rfl] at H; exact H
        clear H
        have H := H1
        clear H1
        replace H := Option.bind_eq_some_iff.mp H
        obtain ⟨t259, A270, H⟩ := H
        replace H : (tattlelaw15_PlanTells.j0 k t235 t238 t241 t244 t245 t248 t249 t252 t253 (!t259)) = some r := H
        have A27 := Aside0.mk A270
        clear A270
        have H' := Aside0.mk H
        clear H
        go_wp2_with (first | ((with_reducible refine gate_callee (f := 18) rfl ?_); refine goesL_ (some 48) rfl rfl Try.func18 (by kernel_rfl) rfl #[.slice Ao17 t235.length co17] rfl (by (try simp only [List.map_toArray, List.map_cons, List.map_nil]); first | done | rfl | (simp only [List.length_drop, List.length_take]; rfl)) ?_; (with_reducible refine (tattleref14_May.calls k _ _ t235 true _ ?side1 ?side2 A25.out).mono ?_); (case side1 => repeat (first | exact (Kd.V_reads' HO237.out).2.2 | (with_reducible refine Kd.C_alloc ?_ _) | (with_reducible refine Kd.C_drewN ?_ _) | (with_reducible refine Kd.C_drew ?_))); (case side2 => exact (Kd.V_reads' HO237.out).2.1); rintro e w28 ⟨rfl, hb⟩; refine ⟨_, rfl, ?_⟩; have n0_ := Aside0.mk (Kd.V_below (by (with_reducible repeat (first | apply Kd.V_alloc | apply Kd.V_drewN | apply Kd.V_drew)); exact HO237.out) hb); have n1_ := Aside0.mk (Kd.V_below (by (with_reducible repeat (first | apply Kd.V_alloc | apply Kd.V_drewN | apply Kd.V_drew)); exact HO240.out) hb); have n2_ := Aside0.mk (Kd.V_below (by (with_reducible repeat (first | apply Kd.V_alloc | apply Kd.V_drewN | apply Kd.V_drew)); exact HO243.out) hb); have n3_ := Aside0.mk (Kd.R_below (by (with_reducible repeat (first | apply Kd.R_alloc | apply Kd.R_drewN | apply Kd.R_drew)); exact HO247.out) hb); have n4_ := Aside0.mk (Kd.R_below (by (with_reducible repeat (first | apply Kd.R_alloc | apply Kd.R_drewN | apply Kd.R_drew)); exact HO251.out) hb); have n5_ := Aside0.mk (Kd.R_below (by (with_reducible repeat (first | apply Kd.R_alloc | apply Kd.R_drewN | apply Kd.R_drew)); exact HO255.out) hb); have n6_ := Aside0.mk (below_step (by repeat (first | (with_reducible first | exact HB.out | apply below_alloc | apply pw_below_drewN | apply below_drew1) | exact HB.out)) hb); clear HO237; clear HO240; clear HO243; clear HO247; clear HO251; clear HO255; clear HB; have HO237 := n0_; have HO240 := n1_; have HO243 := n2_; have HO247 := n3_; have HO251 := n4_; have HO255 := n5_; have HB := n6_; clear n0_ n1_ n2_ n3_ n4_ n5_ n6_; (try clear hb); (try clear hb2); (try clear hk); (try clear hi)) | (go_at_call 18; (with_reducible refine (tattleref14_May.calls k _ _ t238 t259 _ ?side1 ?side2 A27.out).mono ?_); (case side1 => repeat (first | exact (Kd.V_reads' HO240.out).2.2 | (with_reducible refine Kd.C_alloc ?_ _) | (with_reducible refine Kd.C_drewN ?_ _) | (with_reducible refine Kd.C_drew ?_))); (case side2 => exact (Kd.V_reads' HO240.out).2.1); rintro e w29 ⟨rfl, hb⟩; have n0_ := Aside0.mk (Kd.V_below (by (with_reducible repeat (first | apply Kd.V_alloc | apply Kd.V_drewN | apply Kd.V_drew)); exact HO237.out) hb); have n1_ := Aside0.mk (Kd.V_below (by (with_reducible repeat (first | apply Kd.V_alloc | apply Kd.V_drewN | apply Kd.V_drew)); exact HO240.out) hb); have n2_ := Aside0.mk (Kd.V_below (by (with_reducible repeat (first | apply Kd.V_alloc | apply Kd.V_drewN | apply Kd.V_drew)); exact HO243.out) hb); have n3_ := Aside0.mk (Kd.R_below (by (with_reducible repeat (first | apply Kd.R_alloc | apply Kd.R_drewN | apply Kd.R_drew)); exact HO247.out) hb); have n4_ := Aside0.mk (Kd.R_below (by (with_reducible repeat (first | apply Kd.R_alloc | apply Kd.R_drewN | apply Kd.R_drew)); exact HO251.out) hb); have n5_ := Aside0.mk (Kd.R_below (by (with_reducible repeat (first | apply Kd.R_alloc | apply Kd.R_drewN | apply Kd.R_drew)); exact HO255.out) hb); have n6_ := Aside0.mk (below_step (by repeat (first | (with_reducible first | exact HB.out | apply below_alloc | apply pw_below_drewN | apply below_drew1) | exact HB.out)) hb); clear HO237; clear HO240; clear HO243; clear HO247; clear HO251; clear HO255; clear HB; have HO237 := n0_; have HO240 := n1_; have HO243 := n2_; have HO247 := n3_; have HO251 := n4_; have HO255 := n5_; have HB := n6_; clear n0_ n1_ n2_ n3_ n4_ n5_ n6_; (try clear hb); (try clear hb2); (try clear hk); (try clear hi)))
        go_meet
        case rel => exact ⟨_, (!t259), (by first | rfl | (simp; done) | (simp [*]; done)), H', ⟨by first | omega | exact Nat.le_refl _⟩, ⟨by (with_reducible repeat (first | apply Kd.V_alloc | apply Kd.V_drewN | apply Kd.V_drew)); exact Kd.V_mono HO237.out (fun _ hk => ⟨hk.1.1.2, ⟨hk.1.2, hk.2⟩⟩)⟩, ⟨by (with_reducible repeat (first | apply Kd.V_alloc | apply Kd.V_drewN | apply Kd.V_drew)); exact Kd.V_mono HO240.out (fun _ hk => ⟨hk.1.1.2, ⟨hk.1.2, hk.2⟩⟩)⟩, ⟨by (with_reducible repeat (first | apply Kd.V_alloc | apply Kd.V_drewN | apply Kd.V_drew)); exact Kd.V_mono HO243.out (fun _ hk => ⟨hk.1.1.2, ⟨hk.1.2, hk.2⟩⟩)⟩, ⟨by (with_reducible repeat (first | apply Kd.R_alloc | apply Kd.R_drewN | apply Kd.R_drew)); exact Kd.R_mono HO247.out (fun _ hk => hk.2)⟩, ⟨by (with_reducible repeat (first | apply Kd.R_alloc | apply Kd.R_drewN | apply Kd.R_drew)); exact HO251.out⟩, ⟨by (with_reducible repeat (first | apply Kd.R_alloc | apply Kd.R_drewN | apply Kd.R_drew)); exact Kd.R_mono HO255.out (fun _ hk => hk.2)⟩, ⟨by repeat (first | (with_reducible first | exact HB.out | apply below_alloc | apply pw_below_drewN | apply below_drew1) | exact HB.out)⟩⟩
      · replace c26 := Bool.eq_false_iff.mpr c26
        subst c26
        have H1 : (tattlelaw15_PlanTells.j0 k t235 t238 t241 t244 t245 t248 t249 t252 t253 true) = some r := by rw [if_neg (show ¬ (false = true) by decide)] at H; exact H
        clear H
        have H := H1
        clear H1
        have H' := Aside0.mk H
        clear H
        go_wp2_with (first | ((with_reducible refine gate_callee (f := 18) rfl ?_); refine goesL_ (some 48) rfl rfl Try.func18 (by kernel_rfl) rfl #[.slice Ao17 t235.length co17] rfl (by (try simp only [List.map_toArray, List.map_cons, List.map_nil]); first | done | rfl | (simp only [List.length_drop, List.length_take]; rfl)) ?_; (with_reducible refine (tattleref14_May.calls k _ _ t235 false _ ?side1 ?side2 A25.out).mono ?_); (case side1 => repeat (first | exact (Kd.V_reads' HO237.out).2.2 | (with_reducible refine Kd.C_alloc ?_ _) | (with_reducible refine Kd.C_drewN ?_ _) | (with_reducible refine Kd.C_drew ?_))); (case side2 => exact (Kd.V_reads' HO237.out).2.1); rintro e w30 ⟨rfl, hb⟩; refine ⟨_, rfl, ?_⟩; have n0_ := Aside0.mk (Kd.V_below (by (with_reducible repeat (first | apply Kd.V_alloc | apply Kd.V_drewN | apply Kd.V_drew)); exact HO237.out) hb); have n1_ := Aside0.mk (Kd.V_below (by (with_reducible repeat (first | apply Kd.V_alloc | apply Kd.V_drewN | apply Kd.V_drew)); exact HO240.out) hb); have n2_ := Aside0.mk (Kd.V_below (by (with_reducible repeat (first | apply Kd.V_alloc | apply Kd.V_drewN | apply Kd.V_drew)); exact HO243.out) hb); have n3_ := Aside0.mk (Kd.R_below (by (with_reducible repeat (first | apply Kd.R_alloc | apply Kd.R_drewN | apply Kd.R_drew)); exact HO247.out) hb); have n4_ := Aside0.mk (Kd.R_below (by (with_reducible repeat (first | apply Kd.R_alloc | apply Kd.R_drewN | apply Kd.R_drew)); exact HO251.out) hb); have n5_ := Aside0.mk (Kd.R_below (by (with_reducible repeat (first | apply Kd.R_alloc | apply Kd.R_drewN | apply Kd.R_drew)); exact HO255.out) hb); have n6_ := Aside0.mk (below_step (by repeat (first | (with_reducible first | exact HB.out | apply below_alloc | apply pw_below_drewN | apply below_drew1) | exact HB.out)) hb); clear HO237; clear HO240; clear HO243; clear HO247; clear HO251; clear HO255; clear HB; have HO237 := n0_; have HO240 := n1_; have HO243 := n2_; have HO247 := n3_; have HO251 := n4_; have HO255 := n5_; have HB := n6_; clear n0_ n1_ n2_ n3_ n4_ n5_ n6_; (try clear hb); (try clear hb2); (try clear hk); (try clear hi)))
        go_meet
        case rel => exact ⟨_, (true), (by first | rfl | (simp; done) | (simp [*]; done)), H', ⟨by first | omega | exact Nat.le_refl _⟩, ⟨by (with_reducible repeat (first | apply Kd.V_alloc | apply Kd.V_drewN | apply Kd.V_drew)); exact Kd.V_mono HO237.out (fun _ hk => ⟨hk.1.1.2, ⟨hk.1.2, hk.2⟩⟩)⟩, ⟨by (with_reducible repeat (first | apply Kd.V_alloc | apply Kd.V_drewN | apply Kd.V_drew)); exact Kd.V_mono HO240.out (fun _ hk => ⟨hk.1.1.2, ⟨hk.1.2, hk.2⟩⟩)⟩, ⟨by (with_reducible repeat (first | apply Kd.V_alloc | apply Kd.V_drewN | apply Kd.V_drew)); exact Kd.V_mono HO243.out (fun _ hk => ⟨hk.1.1.2, ⟨hk.1.2, hk.2⟩⟩)⟩, ⟨by (with_reducible repeat (first | apply Kd.R_alloc | apply Kd.R_drewN | apply Kd.R_drew)); exact Kd.R_mono HO247.out (fun _ hk => hk.2)⟩, ⟨by (with_reducible repeat (first | apply Kd.R_alloc | apply Kd.R_drewN | apply Kd.R_drew)); exact HO251.out⟩, ⟨by (with_reducible repeat (first | apply Kd.R_alloc | apply Kd.R_drewN | apply Kd.R_drew)); exact Kd.R_mono HO255.out (fun _ hk => hk.2)⟩, ⟨by repeat (first | (with_reducible first | exact HB.out | apply below_alloc | apply pw_below_drewN | apply below_drew1) | exact HB.out)⟩⟩
    case rest =>
      clear HC13
      try clear c1
      try clear c2
      try clear p2
      try clear c6
      try clear c9
      try clear c10
      try clear c12
      try clear c12b0
      try clear c12b1
      try clear c12b2
      try clear c13
      try clear c14
      try clear c15
      try clear c16
      try clear c17
      try clear c18
      try clear c26
      obtain ⟨kq, x54_12, rfl, HA, HJ12, HO_0, HO_1, HO_2, HO_7, HO_9, HO_11, HB⟩ := hcut
      cases kq with
      | zero => exact absurd HA.out (by simp [tattlelaw15_PlanTells.j0])
      | succ kj12 =>
        have H := HA.out
        clear HA
        simp only [tattlelaw15_PlanTells.j0] at H
        have HC31 := Aside0.mk H
        clear H
        go_upto_if 54 with (fail)
        go_cut [] (fun wc => ∃ (kq : Nat), Aside0 (tattlelaw15_PlanTells.j1 kq t235 t241 t248 t249 t252 t253 = some r) ∧ Aside0 (kq ≤ kj12) ∧ Aside0 (Kd.V k52 52 wc w.heap.size (fun k_ => some k_ ≠ (v250 : Value).ownBlock ∧ some k_ ≠ (v254 : Value).ownBlock) (.slice Ao17 t235.length co17) t235) ∧ Aside0 (Kd.V k36 36 wc w.heap.size (fun k_ => some k_ ≠ (v250 : Value).ownBlock ∧ some k_ ≠ (v254 : Value).ownBlock) (.slice Ao20 t241.length co20) t241) ∧ Aside0 (Kd.R k52 52 wc w.heap.size (fun _ => True) v250 t248) ∧ Aside0 (Kd.R k36 36 wc w.heap.size (fun _ => True) v254 t252) ∧ Aside0 (Below w.heap.size w wc))
        case first =>
          have H := HC31.out
          clear HC31
          by_cases c32 : x54_12 = true
          · subst c32
            have H1 : (if (t244.length : Int) > 0 then (none) else (if t245 = 1 then (tattlelaw15_PlanTells.j1 kj12 t235 t241 t248 t249 t252 t253) else (none))) = some r := by rw [if_pos rfl] at H; exact H
            clear H
            have H := H1
            clear H1
            by_cases c33 : (t244.length : Int) > 0
            · rw [if_pos c33] at H
              exact absurd H (by simp)
            · rw [if_neg c33] at H
              have c33b0 : decide (0 < (t244.length : Int)) = false := decide_eq_false c33
              have c33b1 : decide (0 < t244.length) = false := decide_eq_false (by omega)
              clear c33
              (first | rw [c33b0] | (simp only [i64_w, i32_w]; rw [c33b0]) | skip)
              by_cases c34 : t245 = 1
              · rw [if_pos c34] at H
                have c34b0 : (t245 == 1) = true := beq_iff_eq.mpr c34
                have c34b1 : (t245 != 1) = false := bne_eq_false_iff_eq.mpr c34
                clear c34
                have H' := Aside0.mk H
                clear H
                obtain ⟨Ao35, co35, eo35⟩ := Kd.R_slice HO_7.out
                subst eo35
                go_wp2
                go_meet
                case rel => exact ⟨_, H', ⟨by have := HJ12.out; first | omega | exact Nat.le_refl _⟩, ⟨by (with_reducible repeat (first | apply Kd.V_alloc | apply Kd.V_drewN | apply Kd.V_drew)); exact Kd.V_mono HO_0.out (fun _ hk => ⟨hk.2.1, hk.2.2⟩)⟩, ⟨by (with_reducible repeat (first | apply Kd.V_alloc | apply Kd.V_drewN | apply Kd.V_drew)); exact Kd.V_mono HO_2.out (fun _ hk => ⟨hk.2.1, hk.2.2⟩)⟩, ⟨by (with_reducible repeat (first | apply Kd.R_alloc | apply Kd.R_drewN | apply Kd.R_drew)); exact HO_9.out⟩, ⟨by (with_reducible repeat (first | apply Kd.R_alloc | apply Kd.R_drewN | apply Kd.R_drew)); exact Kd.R_mono HO_11.out (fun _ hk => trivial)⟩, ⟨by repeat (first | (with_reducible first | exact HB.out | apply below_alloc | apply pw_below_drewN | apply below_drew1) | exact HB.out)⟩⟩
              · rw [if_neg c34] at H
                exact absurd H (by simp)
          · replace c32 := Bool.eq_false_iff.mpr c32
            subst c32
            have H1 : ((tattleref15_Diff.f kj12 t235 t238).bind fun t260 => (if (t260.length : Int) > 100 then (if (t244.length : Int) > 0 then (none) else (if t245 = 9 then (if (t260.length : Int) ≤ 100 then ((tattleref15_Same.f kj12 t244 t260).bind fun t263 => (if t263 = true then (if t245 = 0 then (tattlelaw15_PlanTells.j1 kj12 t235 t241 t248 t249 t252 t253) else (none)) else (none))) else (tattlelaw15_PlanTells.j1 kj12 t235 t241 t248 t249 t252 t253)) else (none))) else (if (t260.length : Int) ≤ 100 then ((tattleref15_Same.f kj12 t244 t260).bind fun t264 => (if t264 = true then (if t245 = 0 then (tattlelaw15_PlanTells.j1 kj12 t235 t241 t248 t249 t252 t253) else (none)) else (none))) else (tattlelaw15_PlanTells.j1 kj12 t235 t241 t248 t249 t252 t253)))) = some r := by rw [if_neg (show ¬ (false = true) by decide)] at H; exact H
            clear H
            have H := H1
            clear H1
            replace H := Option.bind_eq_some_iff.mp H
            obtain ⟨t260, A360, H⟩ := H
            replace H : (if (t260.length : Int) > 100 then (if (t244.length : Int) > 0 then (none) else (if t245 = 9 then (if (t260.length : Int) ≤ 100 then ((tattleref15_Same.f kj12 t244 t260).bind fun t263 => (if t263 = true then (if t245 = 0 then (tattlelaw15_PlanTells.j1 kj12 t235 t241 t248 t249 t252 t253) else (none)) else (none))) else (tattlelaw15_PlanTells.j1 kj12 t235 t241 t248 t249 t252 t253)) else (none))) else (if (t260.length : Int) ≤ 100 then ((tattleref15_Same.f kj12 t244 t260).bind fun t264 => (if t264 = true then (if t245 = 0 then (tattlelaw15_PlanTells.j1 kj12 t235 t241 t248 t249 t252 t253) else (none)) else (none))) else (tattlelaw15_PlanTells.j1 kj12 t235 t241 t248 t249 t252 t253))) = some r := H
            have A36 := Aside0.mk A360
            clear A360
            by_cases c37 : (t260.length : Int) > 100
            · rw [if_pos c37] at H
              have c37b0 : decide (100 < (t260.length : Int)) = true := decide_eq_true c37
              have c37b1 : decide (100 < t260.length) = true := decide_eq_true (by omega)
              clear c37
              by_cases c38 : (t244.length : Int) > 0
              · rw [if_pos c38] at H
                exact absurd H (by simp)
              · rw [if_neg c38] at H
                have c38b0 : decide (0 < (t244.length : Int)) = false := decide_eq_false c38
                have c38b1 : decide (0 < t244.length) = false := decide_eq_false (by omega)
                clear c38
                by_cases c39 : t245 = 9
                · rw [if_pos c39] at H
                  have c39b0 : (t245 == 9) = true := beq_iff_eq.mpr c39
                  have c39b1 : (t245 != 9) = false := bne_eq_false_iff_eq.mpr c39
                  clear c39
                  by_cases c40 : (t260.length : Int) ≤ 100
                  · rw [if_pos c40] at H
                    have c40b0 : decide ((t260.length : Int) ≤ 100) = true := decide_eq_true c40
                    have c40b1 : decide (t260.length ≤ 100) = true := decide_eq_true (by omega)
                    clear c40
                    replace H := Option.bind_eq_some_iff.mp H
                    obtain ⟨t263, A410, H⟩ := H
                    replace H : (if t263 = true then (if t245 = 0 then (tattlelaw15_PlanTells.j1 kj12 t235 t241 t248 t249 t252 t253) else (none)) else (none)) = some r := H
                    have A41 := Aside0.mk A410
                    clear A410
                    by_cases c42 : t263 = true
                    · subst c42
                      have H1 : (if t245 = 0 then (tattlelaw15_PlanTells.j1 kj12 t235 t241 t248 t249 t252 t253) else (none)) = some r := by rw [if_pos rfl] at H; exact H
                      clear H
                      have H := H1
                      clear H1
                      by_cases c43 : t245 = 0
                      · rw [if_pos c43] at H
                        have c43b0 : (t245 == 0) = true := beq_iff_eq.mpr c43
                        have c43b1 : (t245 != 0) = false := bne_eq_false_iff_eq.mpr c43
                        clear c43
                        have H' := Aside0.mk H
                        clear H
                        go_wp2_with (first | ((with_reducible refine gate_callee (f := 19) rfl ?_); refine goesL_ (some 64) rfl rfl Try.func19 (by kernel_rfl) rfl #[.slice Ao17 t235.length co17, .slice Ao18 t238.length co18] rfl (by (try simp only [List.map_toArray, List.map_cons, List.map_nil]); first | done | rfl | (simp only [List.length_drop, List.length_take]; rfl)) ?_; (with_reducible refine (tattleref15_Diff.calls kj12 _ _ t235 _ _ t238 t260 _ ?side1 ?side2 ?side3 ?side4 A36.out).mono ?_); (case side1 => repeat (first | exact (Kd.V_reads' HO_0.out).2.2 | (with_reducible refine Kd.C_alloc ?_ _) | (with_reducible refine Kd.C_drewN ?_ _) | (with_reducible refine Kd.C_drew ?_))); (case side2 => exact (Kd.V_reads' HO_0.out).2.1); (case side3 => repeat (first | exact (Kd.V_reads' HO_1.out).2.2 | (with_reducible refine Kd.C_alloc ?_ _) | (with_reducible refine Kd.C_drewN ?_ _) | (with_reducible refine Kd.C_drew ?_))); (case side4 => exact (Kd.V_reads' HO_1.out).2.1); rintro e w44 ⟨v261, rfl, ho0, hb⟩; refine ⟨_, rfl, ?_⟩; have n0_ := Aside0.mk (Kd.V_elder' (by (with_reducible repeat (first | apply Kd.V_alloc | apply Kd.V_drewN | apply Kd.V_drew)); exact HO_0.out) (Kd.R_base ho0) hb); have n1_ := Aside0.mk (Kd.V_elder' (by (with_reducible repeat (first | apply Kd.V_alloc | apply Kd.V_drewN | apply Kd.V_drew)); exact HO_1.out) (Kd.R_base ho0) hb); have n2_ := Aside0.mk (Kd.V_elder' (by (with_reducible repeat (first | apply Kd.V_alloc | apply Kd.V_drewN | apply Kd.V_drew)); exact HO_2.out) (Kd.R_base ho0) hb); have n3_ := Aside0.mk (Kd.R_elder' (by (with_reducible repeat (first | apply Kd.R_alloc | apply Kd.R_drewN | apply Kd.R_drew)); exact HO_7.out) (Kd.R_base ho0) hb); have n4_ := Aside0.mk (Kd.R_below (by (with_reducible repeat (first | apply Kd.R_alloc | apply Kd.R_drewN | apply Kd.R_drew)); exact HO_9.out) hb); have n5_ := Aside0.mk (Kd.R_elder' (by (with_reducible repeat (first | apply Kd.R_alloc | apply Kd.R_drewN | apply Kd.R_drew)); exact HO_11.out) (Kd.R_base ho0) hb); have n6_ := Aside0.mk (Kd.R_lower (Kd.R_new' (Kd.R_new' ho0 (Kd.R_lt (by (with_reducible repeat (first | apply Kd.R_alloc | apply Kd.R_drewN | apply Kd.R_drew)); exact HO_7.out))) (Kd.R_lt (by (with_reducible repeat (first | apply Kd.R_alloc | apply Kd.R_drewN | apply Kd.R_drew)); exact HO_11.out))) (below_size (by repeat (first | (with_reducible first | exact HB.out | apply below_alloc | apply pw_below_drewN | apply below_drew1) | exact HB.out)))); have n7_ := Aside0.mk (below_step (by repeat (first | (with_reducible first | exact HB.out | apply below_alloc | apply pw_below_drewN | apply below_drew1) | exact HB.out)) hb); clear HO_0; clear HO_1; clear HO_2; clear HO_7; clear HO_9; clear HO_11; clear HB; have HO_0 := n0_; have HO_1 := n1_; have HO_2 := n2_; have HO_7 := n3_; have HO_9 := n4_; have HO_11 := n5_; have HO262 := n6_; have HB := n7_; clear n0_ n1_ n2_ n3_ n4_ n5_ n6_ n7_; (try clear hb); (try clear hb2); (try clear hk); (try clear hi); (try clear ho0); obtain ⟨Ao45, co45, eo45⟩ := Kd.R_slice HO262.out; subst eo45; obtain ⟨Ao46, co46, eo46⟩ := Kd.R_slice HO_7.out; subst eo46) | (go_at_call 20; (with_reducible refine (tattleref15_Same.calls kj12 _ _ t244 _ _ t260 true _ ?side1 ?side2 ?side3 ?side4 A41.out).mono ?_); (case side1 => repeat (first | exact (Kd.R_reads' HO_7.out).2.2 | (with_reducible refine Kd.C_alloc ?_ _) | (with_reducible refine Kd.C_drewN ?_ _) | (with_reducible refine Kd.C_drew ?_))); (case side2 => exact (Kd.R_reads' HO_7.out).2.1); (case side3 => repeat (first | exact (Kd.R_reads' HO262.out).2.2 | (with_reducible refine Kd.C_alloc ?_ _) | (with_reducible refine Kd.C_drewN ?_ _) | (with_reducible refine Kd.C_drew ?_))); (case side4 => exact (Kd.R_reads' HO262.out).2.1); rintro e w' ⟨rfl, ⟨nd, rfl⟩⟩))
                        go_meet
                        case rel => exact ⟨_, H', ⟨by have := HJ12.out; first | omega | exact Nat.le_refl _⟩, ⟨by (with_reducible repeat (first | apply Kd.V_alloc | apply Kd.V_drewN | apply Kd.V_drew)); exact Kd.V_mono HO_0.out (fun _ hk => ⟨hk.1.2.1, hk.1.2.2⟩)⟩, ⟨by (with_reducible repeat (first | apply Kd.V_alloc | apply Kd.V_drewN | apply Kd.V_drew)); exact Kd.V_mono HO_2.out (fun _ hk => ⟨hk.1.2.1, hk.1.2.2⟩)⟩, ⟨by (with_reducible repeat (first | apply Kd.R_alloc | apply Kd.R_drewN | apply Kd.R_drew)); exact HO_9.out⟩, ⟨by (with_reducible repeat (first | apply Kd.R_alloc | apply Kd.R_drewN | apply Kd.R_drew)); exact Kd.R_mono HO_11.out (fun _ hk => trivial)⟩, ⟨by repeat (first | (with_reducible first | exact HB.out | apply below_alloc | apply pw_below_drewN | apply below_drew1) | exact HB.out)⟩⟩
                      · rw [if_neg c43] at H
                        exact absurd H (by simp)
                    · replace c42 := Bool.eq_false_iff.mpr c42
                      subst c42
                      have H1 : (none) = some r := by rw [if_neg (show ¬ (false = true) by decide)] at H; exact H
                      clear H
                      have H := H1
                      clear H1
                      exact absurd H (by simp)
                  · rw [if_neg c40] at H
                    have c40b0 : decide ((t260.length : Int) ≤ 100) = false := decide_eq_false c40
                    have c40b1 : decide (t260.length ≤ 100) = false := decide_eq_false (by omega)
                    clear c40
                    have H' := Aside0.mk H
                    clear H
                    go_wp2_with (first | ((with_reducible refine gate_callee (f := 19) rfl ?_); refine goesL_ (some 64) rfl rfl Try.func19 (by kernel_rfl) rfl #[.slice Ao17 t235.length co17, .slice Ao18 t238.length co18] rfl (by (try simp only [List.map_toArray, List.map_cons, List.map_nil]); first | done | rfl | (simp only [List.length_drop, List.length_take]; rfl)) ?_; (with_reducible refine (tattleref15_Diff.calls kj12 _ _ t235 _ _ t238 t260 _ ?side1 ?side2 ?side3 ?side4 A36.out).mono ?_); (case side1 => repeat (first | exact (Kd.V_reads' HO_0.out).2.2 | (with_reducible refine Kd.C_alloc ?_ _) | (with_reducible refine Kd.C_drewN ?_ _) | (with_reducible refine Kd.C_drew ?_))); (case side2 => exact (Kd.V_reads' HO_0.out).2.1); (case side3 => repeat (first | exact (Kd.V_reads' HO_1.out).2.2 | (with_reducible refine Kd.C_alloc ?_ _) | (with_reducible refine Kd.C_drewN ?_ _) | (with_reducible refine Kd.C_drew ?_))); (case side4 => exact (Kd.V_reads' HO_1.out).2.1); rintro e w47 ⟨v261, rfl, ho0, hb⟩; refine ⟨_, rfl, ?_⟩; have n0_ := Aside0.mk (Kd.V_elder' (by (with_reducible repeat (first | apply Kd.V_alloc | apply Kd.V_drewN | apply Kd.V_drew)); exact HO_0.out) (Kd.R_base ho0) hb); have n1_ := Aside0.mk (Kd.V_elder' (by (with_reducible repeat (first | apply Kd.V_alloc | apply Kd.V_drewN | apply Kd.V_drew)); exact HO_1.out) (Kd.R_base ho0) hb); have n2_ := Aside0.mk (Kd.V_elder' (by (with_reducible repeat (first | apply Kd.V_alloc | apply Kd.V_drewN | apply Kd.V_drew)); exact HO_2.out) (Kd.R_base ho0) hb); have n3_ := Aside0.mk (Kd.R_elder' (by (with_reducible repeat (first | apply Kd.R_alloc | apply Kd.R_drewN | apply Kd.R_drew)); exact HO_7.out) (Kd.R_base ho0) hb); have n4_ := Aside0.mk (Kd.R_below (by (with_reducible repeat (first | apply Kd.R_alloc | apply Kd.R_drewN | apply Kd.R_drew)); exact HO_9.out) hb); have n5_ := Aside0.mk (Kd.R_elder' (by (with_reducible repeat (first | apply Kd.R_alloc | apply Kd.R_drewN | apply Kd.R_drew)); exact HO_11.out) (Kd.R_base ho0) hb); have n6_ := Aside0.mk (Kd.R_lower (Kd.R_new' (Kd.R_new' ho0 (Kd.R_lt (by (with_reducible repeat (first | apply Kd.R_alloc | apply Kd.R_drewN | apply Kd.R_drew)); exact HO_7.out))) (Kd.R_lt (by (with_reducible repeat (first | apply Kd.R_alloc | apply Kd.R_drewN | apply Kd.R_drew)); exact HO_11.out))) (below_size (by repeat (first | (with_reducible first | exact HB.out | apply below_alloc | apply pw_below_drewN | apply below_drew1) | exact HB.out)))); have n7_ := Aside0.mk (below_step (by repeat (first | (with_reducible first | exact HB.out | apply below_alloc | apply pw_below_drewN | apply below_drew1) | exact HB.out)) hb); clear HO_0; clear HO_1; clear HO_2; clear HO_7; clear HO_9; clear HO_11; clear HB; have HO_0 := n0_; have HO_1 := n1_; have HO_2 := n2_; have HO_7 := n3_; have HO_9 := n4_; have HO_11 := n5_; have HO262 := n6_; have HB := n7_; clear n0_ n1_ n2_ n3_ n4_ n5_ n6_ n7_; (try clear hb); (try clear hb2); (try clear hk); (try clear hi); (try clear ho0); obtain ⟨Ao48, co48, eo48⟩ := Kd.R_slice HO262.out; subst eo48; obtain ⟨Ao49, co49, eo49⟩ := Kd.R_slice HO_7.out; subst eo49))
                    go_meet
                    case rel => exact ⟨_, H', ⟨by have := HJ12.out; first | omega | exact Nat.le_refl _⟩, ⟨by (with_reducible repeat (first | apply Kd.V_alloc | apply Kd.V_drewN | apply Kd.V_drew)); exact Kd.V_mono HO_0.out (fun _ hk => ⟨hk.1.2.1, hk.1.2.2⟩)⟩, ⟨by (with_reducible repeat (first | apply Kd.V_alloc | apply Kd.V_drewN | apply Kd.V_drew)); exact Kd.V_mono HO_2.out (fun _ hk => ⟨hk.1.2.1, hk.1.2.2⟩)⟩, ⟨by (with_reducible repeat (first | apply Kd.R_alloc | apply Kd.R_drewN | apply Kd.R_drew)); exact HO_9.out⟩, ⟨by (with_reducible repeat (first | apply Kd.R_alloc | apply Kd.R_drewN | apply Kd.R_drew)); exact Kd.R_mono HO_11.out (fun _ hk => trivial)⟩, ⟨by repeat (first | (with_reducible first | exact HB.out | apply below_alloc | apply pw_below_drewN | apply below_drew1) | exact HB.out)⟩⟩
                · rw [if_neg c39] at H
                  exact absurd H (by simp)
            · rw [if_neg c37] at H
              have c37b0 : decide (100 < (t260.length : Int)) = false := decide_eq_false c37
              have c37b1 : decide (100 < t260.length) = false := decide_eq_false (by omega)
              clear c37
              by_cases c50 : (t260.length : Int) ≤ 100
              · rw [if_pos c50] at H
                have c50b0 : decide ((t260.length : Int) ≤ 100) = true := decide_eq_true c50
                have c50b1 : decide (t260.length ≤ 100) = true := decide_eq_true (by omega)
                clear c50
                replace H := Option.bind_eq_some_iff.mp H
                obtain ⟨t264, A510, H⟩ := H
                replace H : (if t264 = true then (if t245 = 0 then (tattlelaw15_PlanTells.j1 kj12 t235 t241 t248 t249 t252 t253) else (none)) else (none)) = some r := H
                have A51 := Aside0.mk A510
                clear A510
                by_cases c52 : t264 = true
                · subst c52
                  have H1 : (if t245 = 0 then (tattlelaw15_PlanTells.j1 kj12 t235 t241 t248 t249 t252 t253) else (none)) = some r := by rw [if_pos rfl] at H; exact H
                  clear H
                  have H := H1
                  clear H1
                  by_cases c53 : t245 = 0
                  · rw [if_pos c53] at H
                    have c53b0 : (t245 == 0) = true := beq_iff_eq.mpr c53
                    have c53b1 : (t245 != 0) = false := bne_eq_false_iff_eq.mpr c53
                    clear c53
                    have H' := Aside0.mk H
                    clear H
                    go_wp2_with (first | ((with_reducible refine gate_callee (f := 19) rfl ?_); refine goesL_ (some 64) rfl rfl Try.func19 (by kernel_rfl) rfl #[.slice Ao17 t235.length co17, .slice Ao18 t238.length co18] rfl (by (try simp only [List.map_toArray, List.map_cons, List.map_nil]); first | done | rfl | (simp only [List.length_drop, List.length_take]; rfl)) ?_; (with_reducible refine (tattleref15_Diff.calls kj12 _ _ t235 _ _ t238 t260 _ ?side1 ?side2 ?side3 ?side4 A36.out).mono ?_); (case side1 => repeat (first | exact (Kd.V_reads' HO_0.out).2.2 | (with_reducible refine Kd.C_alloc ?_ _) | (with_reducible refine Kd.C_drewN ?_ _) | (with_reducible refine Kd.C_drew ?_))); (case side2 => exact (Kd.V_reads' HO_0.out).2.1); (case side3 => repeat (first | exact (Kd.V_reads' HO_1.out).2.2 | (with_reducible refine Kd.C_alloc ?_ _) | (with_reducible refine Kd.C_drewN ?_ _) | (with_reducible refine Kd.C_drew ?_))); (case side4 => exact (Kd.V_reads' HO_1.out).2.1); rintro e w54 ⟨v261, rfl, ho0, hb⟩; refine ⟨_, rfl, ?_⟩; have n0_ := Aside0.mk (Kd.V_elder' (by (with_reducible repeat (first | apply Kd.V_alloc | apply Kd.V_drewN | apply Kd.V_drew)); exact HO_0.out) (Kd.R_base ho0) hb); have n1_ := Aside0.mk (Kd.V_elder' (by (with_reducible repeat (first | apply Kd.V_alloc | apply Kd.V_drewN | apply Kd.V_drew)); exact HO_1.out) (Kd.R_base ho0) hb); have n2_ := Aside0.mk (Kd.V_elder' (by (with_reducible repeat (first | apply Kd.V_alloc | apply Kd.V_drewN | apply Kd.V_drew)); exact HO_2.out) (Kd.R_base ho0) hb); have n3_ := Aside0.mk (Kd.R_elder' (by (with_reducible repeat (first | apply Kd.R_alloc | apply Kd.R_drewN | apply Kd.R_drew)); exact HO_7.out) (Kd.R_base ho0) hb); have n4_ := Aside0.mk (Kd.R_below (by (with_reducible repeat (first | apply Kd.R_alloc | apply Kd.R_drewN | apply Kd.R_drew)); exact HO_9.out) hb); have n5_ := Aside0.mk (Kd.R_elder' (by (with_reducible repeat (first | apply Kd.R_alloc | apply Kd.R_drewN | apply Kd.R_drew)); exact HO_11.out) (Kd.R_base ho0) hb); have n6_ := Aside0.mk (Kd.R_lower (Kd.R_new' (Kd.R_new' ho0 (Kd.R_lt (by (with_reducible repeat (first | apply Kd.R_alloc | apply Kd.R_drewN | apply Kd.R_drew)); exact HO_7.out))) (Kd.R_lt (by (with_reducible repeat (first | apply Kd.R_alloc | apply Kd.R_drewN | apply Kd.R_drew)); exact HO_11.out))) (below_size (by repeat (first | (with_reducible first | exact HB.out | apply below_alloc | apply pw_below_drewN | apply below_drew1) | exact HB.out)))); have n7_ := Aside0.mk (below_step (by repeat (first | (with_reducible first | exact HB.out | apply below_alloc | apply pw_below_drewN | apply below_drew1) | exact HB.out)) hb); clear HO_0; clear HO_1; clear HO_2; clear HO_7; clear HO_9; clear HO_11; clear HB; have HO_0 := n0_; have HO_1 := n1_; have HO_2 := n2_; have HO_7 := n3_; have HO_9 := n4_; have HO_11 := n5_; have HO262 := n6_; have HB := n7_; clear n0_ n1_ n2_ n3_ n4_ n5_ n6_ n7_; (try clear hb); (try clear hb2); (try clear hk); (try clear hi); (try clear ho0); obtain ⟨Ao55, co55, eo55⟩ := Kd.R_slice HO262.out; subst eo55; obtain ⟨Ao56, co56, eo56⟩ := Kd.R_slice HO_7.out; subst eo56) | (go_at_call 20; (with_reducible refine (tattleref15_Same.calls kj12 _ _ t244 _ _ t260 true _ ?side1 ?side2 ?side3 ?side4 A51.out).mono ?_); (case side1 => repeat (first | exact (Kd.R_reads' HO_7.out).2.2 | (with_reducible refine Kd.C_alloc ?_ _) | (with_reducible refine Kd.C_drewN ?_ _) | (with_reducible refine Kd.C_drew ?_))); (case side2 => exact (Kd.R_reads' HO_7.out).2.1); (case side3 => repeat (first | exact (Kd.R_reads' HO262.out).2.2 | (with_reducible refine Kd.C_alloc ?_ _) | (with_reducible refine Kd.C_drewN ?_ _) | (with_reducible refine Kd.C_drew ?_))); (case side4 => exact (Kd.R_reads' HO262.out).2.1); rintro e w' ⟨rfl, ⟨nd, rfl⟩⟩))
                    go_meet
                    case rel => exact ⟨_, H', ⟨by have := HJ12.out; first | omega | exact Nat.le_refl _⟩, ⟨by (with_reducible repeat (first | apply Kd.V_alloc | apply Kd.V_drewN | apply Kd.V_drew)); exact Kd.V_mono HO_0.out (fun _ hk => ⟨hk.1.2.1, hk.1.2.2⟩)⟩, ⟨by (with_reducible repeat (first | apply Kd.V_alloc | apply Kd.V_drewN | apply Kd.V_drew)); exact Kd.V_mono HO_2.out (fun _ hk => ⟨hk.1.2.1, hk.1.2.2⟩)⟩, ⟨by (with_reducible repeat (first | apply Kd.R_alloc | apply Kd.R_drewN | apply Kd.R_drew)); exact HO_9.out⟩, ⟨by (with_reducible repeat (first | apply Kd.R_alloc | apply Kd.R_drewN | apply Kd.R_drew)); exact Kd.R_mono HO_11.out (fun _ hk => trivial)⟩, ⟨by repeat (first | (with_reducible first | exact HB.out | apply below_alloc | apply pw_below_drewN | apply below_drew1) | exact HB.out)⟩⟩
                  · rw [if_neg c53] at H
                    exact absurd H (by simp)
                · replace c52 := Bool.eq_false_iff.mpr c52
                  subst c52
                  have H1 : (none) = some r := by rw [if_neg (show ¬ (false = true) by decide)] at H; exact H
                  clear H
                  have H := H1
                  clear H1
                  exact absurd H (by simp)
              · rw [if_neg c50] at H
                have c50b0 : decide ((t260.length : Int) ≤ 100) = false := decide_eq_false c50
                have c50b1 : decide (t260.length ≤ 100) = false := decide_eq_false (by omega)
                clear c50
                have H' := Aside0.mk H
                clear H
                go_wp2_with (first | ((with_reducible refine gate_callee (f := 19) rfl ?_); refine goesL_ (some 64) rfl rfl Try.func19 (by kernel_rfl) rfl #[.slice Ao17 t235.length co17, .slice Ao18 t238.length co18] rfl (by (try simp only [List.map_toArray, List.map_cons, List.map_nil]); first | done | rfl | (simp only [List.length_drop, List.length_take]; rfl)) ?_; (with_reducible refine (tattleref15_Diff.calls kj12 _ _ t235 _ _ t238 t260 _ ?side1 ?side2 ?side3 ?side4 A36.out).mono ?_); (case side1 => repeat (first | exact (Kd.V_reads' HO_0.out).2.2 | (with_reducible refine Kd.C_alloc ?_ _) | (with_reducible refine Kd.C_drewN ?_ _) | (with_reducible refine Kd.C_drew ?_))); (case side2 => exact (Kd.V_reads' HO_0.out).2.1); (case side3 => repeat (first | exact (Kd.V_reads' HO_1.out).2.2 | (with_reducible refine Kd.C_alloc ?_ _) | (with_reducible refine Kd.C_drewN ?_ _) | (with_reducible refine Kd.C_drew ?_))); (case side4 => exact (Kd.V_reads' HO_1.out).2.1); rintro e w57 ⟨v261, rfl, ho0, hb⟩; refine ⟨_, rfl, ?_⟩; have n0_ := Aside0.mk (Kd.V_elder' (by (with_reducible repeat (first | apply Kd.V_alloc | apply Kd.V_drewN | apply Kd.V_drew)); exact HO_0.out) (Kd.R_base ho0) hb); have n1_ := Aside0.mk (Kd.V_elder' (by (with_reducible repeat (first | apply Kd.V_alloc | apply Kd.V_drewN | apply Kd.V_drew)); exact HO_1.out) (Kd.R_base ho0) hb); have n2_ := Aside0.mk (Kd.V_elder' (by (with_reducible repeat (first | apply Kd.V_alloc | apply Kd.V_drewN | apply Kd.V_drew)); exact HO_2.out) (Kd.R_base ho0) hb); have n3_ := Aside0.mk (Kd.R_elder' (by (with_reducible repeat (first | apply Kd.R_alloc | apply Kd.R_drewN | apply Kd.R_drew)); exact HO_7.out) (Kd.R_base ho0) hb); have n4_ := Aside0.mk (Kd.R_below (by (with_reducible repeat (first | apply Kd.R_alloc | apply Kd.R_drewN | apply Kd.R_drew)); exact HO_9.out) hb); have n5_ := Aside0.mk (Kd.R_elder' (by (with_reducible repeat (first | apply Kd.R_alloc | apply Kd.R_drewN | apply Kd.R_drew)); exact HO_11.out) (Kd.R_base ho0) hb); have n6_ := Aside0.mk (Kd.R_lower (Kd.R_new' (Kd.R_new' ho0 (Kd.R_lt (by (with_reducible repeat (first | apply Kd.R_alloc | apply Kd.R_drewN | apply Kd.R_drew)); exact HO_7.out))) (Kd.R_lt (by (with_reducible repeat (first | apply Kd.R_alloc | apply Kd.R_drewN | apply Kd.R_drew)); exact HO_11.out))) (below_size (by repeat (first | (with_reducible first | exact HB.out | apply below_alloc | apply pw_below_drewN | apply below_drew1) | exact HB.out)))); have n7_ := Aside0.mk (below_step (by repeat (first | (with_reducible first | exact HB.out | apply below_alloc | apply pw_below_drewN | apply below_drew1) | exact HB.out)) hb); clear HO_0; clear HO_1; clear HO_2; clear HO_7; clear HO_9; clear HO_11; clear HB; have HO_0 := n0_; have HO_1 := n1_; have HO_2 := n2_; have HO_7 := n3_; have HO_9 := n4_; have HO_11 := n5_; have HO262 := n6_; have HB := n7_; clear n0_ n1_ n2_ n3_ n4_ n5_ n6_ n7_; (try clear hb); (try clear hb2); (try clear hk); (try clear hi); (try clear ho0); obtain ⟨Ao58, co58, eo58⟩ := Kd.R_slice HO262.out; subst eo58))
                go_meet
                case rel => exact ⟨_, H', ⟨by have := HJ12.out; first | omega | exact Nat.le_refl _⟩, ⟨by (with_reducible repeat (first | apply Kd.V_alloc | apply Kd.V_drewN | apply Kd.V_drew)); exact Kd.V_mono HO_0.out (fun _ hk => ⟨hk.1.2.1, hk.1.2.2⟩)⟩, ⟨by (with_reducible repeat (first | apply Kd.V_alloc | apply Kd.V_drewN | apply Kd.V_drew)); exact Kd.V_mono HO_2.out (fun _ hk => ⟨hk.1.2.1, hk.1.2.2⟩)⟩, ⟨by (with_reducible repeat (first | apply Kd.R_alloc | apply Kd.R_drewN | apply Kd.R_drew)); exact HO_9.out⟩, ⟨by (with_reducible repeat (first | apply Kd.R_alloc | apply Kd.R_drewN | apply Kd.R_drew)); exact Kd.R_mono HO_11.out (fun _ hk => trivial)⟩, ⟨by repeat (first | (with_reducible first | exact HB.out | apply below_alloc | apply pw_below_drewN | apply below_drew1) | exact HB.out)⟩⟩
        case rest =>
          clear HC31
          try clear c1
          try clear c2
          try clear p2
          try clear c3
          try clear c4
          try clear c5
          try clear c6
          try clear c9
          try clear c10
          try clear c12
          try clear c12b0
          try clear c12b1
          try clear c12b2
          try clear c13
          try clear c14
          try clear c15
          try clear c16
          try clear c17
          try clear c18
          try clear c19
          try clear c26
          try clear c32
          try clear c33
          try clear c33b0
          try clear c33b1
          try clear c34
          try clear c34b0
          try clear c34b1
          try clear c37
          try clear c37b0
          try clear c37b1
          try clear c38
          try clear c38b0
          try clear c38b1
          try clear c39
          try clear c39b0
          try clear c39b1
          try clear c40
          try clear c40b0
          try clear c40b1
          try clear c42
          try clear c43
          try clear c43b0
          try clear c43b1
          try clear c50
          try clear c50b0
          try clear c50b1
          try clear c52
          try clear c53
          try clear c53b0
          try clear c53b1
          try clear p2
          obtain ⟨kq, HA, HJ30, HO_0, HO_2, HO_9, HO_11, HB⟩ := hcut
          cases kq with
          | zero => exact absurd HA.out (by simp [tattlelaw15_PlanTells.j1])
          | succ kj30 =>
            have H := HA.out
            clear HA
            simp only [tattlelaw15_PlanTells.j1] at H
            replace H := Option.bind_eq_some_iff.mp H
            obtain ⟨t265, A590, H⟩ := H
            replace H : (if t265 = true then (tattlelaw15_PlanTells.l0 kj30 t235 t241 t248 t249 t252 t253 ([] : List (S36)) 0) else (if (t248.length : Int) = 0 then (if t249 = 1 then (if (t252.length : Int) = 0 then (if t253 = 1 then ((tattlelaw15_awake.f kj30).bind fun t266 => (some t266)) else (none)) else (none)) else (none)) else (none))) = some r := H
            have A59 := Aside0.mk A590
            clear A590
            by_cases c60 : t265 = true
            · subst c60
              have H1 : (tattlelaw15_PlanTells.l0 kj30 t235 t241 t248 t249 t252 t253 ([] : List (S36)) 0) = some r := by rw [if_pos rfl] at H; exact H
              clear H
              have H := H1
              clear H1
              have H' := Aside0.mk H
              clear H
              go_wp2_with (first | ((with_reducible refine gate_callee (f := 17) rfl ?_); refine goesL_ (some 93) rfl rfl Try.func17 (by kernel_rfl) rfl #[.slice Ao20 t241.length co20] rfl (by (try simp only [List.map_toArray, List.map_cons, List.map_nil]); first | done | rfl | (simp only [List.length_drop, List.length_take]; rfl)) ?_; (with_reducible refine (tattleref15_May.calls kj30 _ _ t241 true _ ?side1 ?side2 A59.out).mono ?_); (case side1 => repeat (first | exact (Kd.V_reads' HO_2.out).2.2 | (with_reducible refine Kd.C_alloc ?_ _) | (with_reducible refine Kd.C_drewN ?_ _) | (with_reducible refine Kd.C_drew ?_))); (case side2 => exact (Kd.V_reads' HO_2.out).2.1); rintro e w61 ⟨rfl, hb⟩; refine ⟨_, rfl, ?_⟩; have n0_ := Aside0.mk (Kd.V_below (by (with_reducible repeat (first | apply Kd.V_alloc | apply Kd.V_drewN | apply Kd.V_drew)); exact HO_0.out) hb); have n1_ := Aside0.mk (Kd.V_below (by (with_reducible repeat (first | apply Kd.V_alloc | apply Kd.V_drewN | apply Kd.V_drew)); exact HO_2.out) hb); have n2_ := Aside0.mk (Kd.R_below (by (with_reducible repeat (first | apply Kd.R_alloc | apply Kd.R_drewN | apply Kd.R_drew)); exact HO_9.out) hb); have n3_ := Aside0.mk (Kd.R_below (by (with_reducible repeat (first | apply Kd.R_alloc | apply Kd.R_drewN | apply Kd.R_drew)); exact HO_11.out) hb); have n4_ := Aside0.mk (below_step (by repeat (first | (with_reducible first | exact HB.out | apply below_alloc | apply pw_below_drewN | apply below_drew1) | exact HB.out)) hb); clear HO_0; clear HO_2; clear HO_9; clear HO_11; clear HB; have HO_0 := n0_; have HO_2 := n1_; have HO_9 := n2_; have HO_11 := n3_; have HB := n4_; clear n0_ n1_ n2_ n3_ n4_; (try clear hb); (try clear hb2); (try clear hk); (try clear hi)))
              go_loopg [14, 15] kj30 (fun kq v14 v15 w' => ∃ (x14_3 : List (S36)) (x15_3 : Int), v15 = .int .i64 x15_3 ∧ Aside0 (tattlelaw15_PlanTells.l0 kq t235 t241 t248 t249 t252 t253 x14_3 x15_3 = some r) ∧ Aside0 (kq ≤ kj30) ∧ Aside0 (Kd.V k52 52 w' w.heap.size (fun k_ => some k_ ≠ (v250 : Value).ownBlock ∧ some k_ ≠ (v254 : Value).ownBlock ∧ some k_ ≠ (v14 : Value).ownBlock) (.slice Ao17 t235.length co17) t235) ∧ Aside0 (Kd.V k36 36 w' w.heap.size (fun k_ => some k_ ≠ (v250 : Value).ownBlock ∧ some k_ ≠ (v254 : Value).ownBlock ∧ some k_ ≠ (v14 : Value).ownBlock) (.slice Ao20 t241.length co20) t241) ∧ Aside0 (Kd.R k52 52 w' w.heap.size (fun _ => True) v250 t248) ∧ Aside0 (Kd.R k36 36 w' w.heap.size (fun k_ => some k_ ≠ (v14 : Value).ownBlock) v254 t252) ∧ Aside0 (Kd.R k36 36 w' w.heap.size (fun k_ => some k_ ≠ (v254 : Value).ownBlock) v14 x14_3) ∧ Aside0 (Below w.heap.size w w'))
              case atStart => exact ⟨(([] : List (S36))), (0), (by first | rfl | (simp; done) | (simp [*]; done)), H', ⟨Nat.le_refl _⟩, ⟨by (with_reducible repeat (first | apply Kd.V_alloc | apply Kd.V_drewN | apply Kd.V_drew)); exact Kd.V_mono HO_0.out (fun _ hk => ⟨hk.1, ⟨hk.2, (by simp [Value.ownBlock])⟩⟩)⟩, ⟨by (with_reducible repeat (first | apply Kd.V_alloc | apply Kd.V_drewN | apply Kd.V_drew)); exact Kd.V_mono HO_2.out (fun _ hk => ⟨hk.1, ⟨hk.2, (by simp [Value.ownBlock])⟩⟩)⟩, ⟨by (with_reducible repeat (first | apply Kd.R_alloc | apply Kd.R_drewN | apply Kd.R_drew)); exact HO_9.out⟩, ⟨by (with_reducible repeat (first | apply Kd.R_alloc | apply Kd.R_drewN | apply Kd.R_drew)); exact Kd.R_mono HO_11.out (fun _ hk => (by simp [Value.ownBlock]))⟩, ⟨by first | exact Kd.R_nil _ _ _ _ _ | exact Kd.N_nil _ _ _ _ _ | exact Kd.V_nil _ _ _ _ _ | exact Kd.Q_nil _ _ _ _ _ | exact Kd.S_nil _ _ _ _ _⟩, ⟨by repeat (first | (with_reducible first | exact HB.out | apply below_alloc | apply pw_below_drewN | apply below_drew1) | exact HB.out)⟩⟩
              case round =>
                clear H'
                try clear c1
                try clear c2
                try clear p2
                try clear c3
                try clear c4
                try clear c5
                try clear c6
                try clear c9
                try clear c10
                try clear c12
                try clear c12b0
                try clear c12b1
                try clear c12b2
                try clear c13
                try clear c14
                try clear c15
                try clear c16
                try clear c17
                try clear c18
                try clear c19
                try clear c26
                try clear c32
                try clear c33
                try clear c33b0
                try clear c33b1
                try clear c34
                try clear c34b0
                try clear c34b1
                try clear c37
                try clear c37b0
                try clear c37b1
                try clear c38
                try clear c38b0
                try clear c38b1
                try clear c39
                try clear c39b0
                try clear c39b1
                try clear c40
                try clear c40b0
                try clear c40b1
                try clear c42
                try clear c43
                try clear c43b0
                try clear c43b1
                try clear c50
                try clear c50b0
                try clear c50b1
                try clear c52
                try clear c53
                try clear c53b0
                try clear c53b1
                try clear c60
                try clear p2
                obtain ⟨x14_3, x15_3, rfl, HA, HK3, HO_0, HO_2, HO_9, HO_11, HO_14, HB⟩ := hrel
                cases gk with
                | zero => exact absurd HA.out (by simp [tattlelaw15_PlanTells.l0])
                | succ k3 =>
                  have H := HA.out
                  clear HA
                  simp only [tattlelaw15_PlanTells.l0] at H
                  by_cases c62 : x15_3 < (t241.length : Int)
                  · rw [if_pos c62] at H
                    have c62b0 : decide (x15_3 < (t241.length : Int)) = true := decide_eq_true c62
                    clear c62
                    by_cases c63 : 0 ≤ x15_3
                    · rw [if_pos c63] at H
                      have c63b0 : decide (0 ≤ x15_3) = true := decide_eq_true c63
                      clear c63
                      by_cases c64 : x14_3.length < 4398046511104
                      · rw [if_pos c64] at H
                        have LMc64 := Aside0.mk c64
                        clear c64
                        obtain ⟨y270, hy270⟩ : ∃ y_ : List (S36), y_ = (x14_3 ++ [(⟨(rd_T36 t241 x15_3).f0, (rd_T36 t241 x15_3).f2, (rd_T36 t241 x15_3).f1⟩ : S36)]) := ⟨_, rfl⟩
                        replace H : (tattlelaw15_PlanTells.l0 k3 t235 t241 t248 t249 t252 t253 y270 (wrap64 (x15_3 + 1))) = some r := by first | (rw [hy270]; with_reducible exact H) | (have H2_ := (Option.bind_some _ _).symm.trans H; rw [hy270]; with_reducible exact H2_) | (have H2_ := (Option.bind_some _ _).symm.trans H; with_reducible exact H2_) | with_reducible exact H | (rw [hy270]; exact H) | exact H
                        have Ny270 := Aside0.mk hy270
                        clear hy270
                        have H' := Aside0.mk H
                        clear H
                        try go_wp2
                        have n0_ := Aside0.mk (Kd.V_drew HO_0.out)
                        have n1_ := Aside0.mk (Kd.V_drew HO_2.out)
                        have n2_ := Aside0.mk (Kd.R_drew HO_9.out)
                        have n3_ := Aside0.mk (Kd.R_drew HO_11.out)
                        have n4_ := Aside0.mk (Kd.R_drew HO_14.out)
                        have n5_ := Aside0.mk (below_drew1 HB.out)
                        clear HO_0
                        clear HO_2
                        clear HO_9
                        clear HO_11
                        clear HO_14
                        clear HB
                        have HO_0 := n0_
                        have HO_2 := n1_
                        have HO_9 := n2_
                        have HO_11 := n3_
                        have HO_14 := n4_
                        have HB := n5_
                        clear n0_ n1_ n2_ n3_ n4_ n5_
                        have p267 : 0 ≤ (x15_3 : Int) := of_decide_eq_true (by first | (with_reducible assumption) | assumption)
                        have q267 : x15_3 < (t241.length : Int) := of_decide_eq_true (by first | (with_reducible assumption) | assumption)
                        obtain ⟨ad267, e267, hx267_0, hx267_1, hx267_2⟩ := at_T36 (Kd.V_reads' HO_2.out).2.2 x15_3 p267 q267
                        cases e267
                        replace p267 := eq_true p267
                        replace q267 := eq_true q267
                        have p268 : 0 ≤ (x15_3 : Int) := of_decide_eq_true (by first | (with_reducible assumption) | assumption)
                        have q268 : x15_3 < (t241.length : Int) := of_decide_eq_true (by first | (with_reducible assumption) | assumption)
                        obtain ⟨ad268, e268, hx268_0, hx268_1, hx268_2⟩ := at_T36 (Kd.V_reads' HO_2.out).2.2 x15_3 p268 q268
                        obtain rfl : ad267 = ad268 := (by injection e268)
                        replace p268 := eq_true p268
                        replace q268 := eq_true q268
                        have p269 : 0 ≤ (x15_3 : Int) := of_decide_eq_true (by first | (with_reducible assumption) | assumption)
                        have q269 : x15_3 < (t241.length : Int) := of_decide_eq_true (by first | (with_reducible assumption) | assumption)
                        obtain ⟨ad269, e269, hx269_0, hx269_1, hx269_2⟩ := at_T36 (Kd.V_reads' HO_2.out).2.2 x15_3 p269 q269
                        obtain rfl : ad267 = ad269 := (by injection e269)
                        replace p269 := eq_true p269
                        replace q269 := eq_true q269
                        refine start_ (n := 20) (S := fun w' => w'.cell? (ad267.add ((x15_3).toNat * 3)) = some (.string ((rd_T36 t241 x15_3).f0)) ∧ w'.cell? ⟨(ad267.add ((x15_3).toNat * 3)).block, (ad267.add ((x15_3).toNat * 3)).off + 1, none⟩ = some (.int .i64 ((rd_T36 t241 x15_3).f1)) ∧ w'.cell? ⟨(ad267.add ((x15_3).toNat * 3)).block, (ad267.add ((x15_3).toNat * 3)).off + 2, none⟩ = some (.int .i64 ((rd_T36 t241 x15_3).f2)) ∧ w'.cell? (ad267.add ((x15_3).toNat * 3)) = some (.string ((rd_T36 t241 x15_3).f0)) ∧ w'.cell? ⟨(ad267.add ((x15_3).toNat * 3)).block, (ad267.add ((x15_3).toNat * 3)).off + 1, none⟩ = some (.int .i64 ((rd_T36 t241 x15_3).f1)) ∧ w'.cell? ⟨(ad267.add ((x15_3).toNat * 3)).block, (ad267.add ((x15_3).toNat * 3)).off + 2, none⟩ = some (.int .i64 ((rd_T36 t241 x15_3).f2)) ∧ w'.cell? (ad267.add ((x15_3).toNat * 3)) = some (.string ((rd_T36 t241 x15_3).f0)) ∧ w'.cell? ⟨(ad267.add ((x15_3).toNat * 3)).block, (ad267.add ((x15_3).toNat * 3)).off + 1, none⟩ = some (.int .i64 ((rd_T36 t241 x15_3).f1)) ∧ w'.cell? ⟨(ad267.add ((x15_3).toNat * 3)).block, (ad267.add ((x15_3).toNat * 3)).off + 2, none⟩ = some (.int .i64 ((rd_T36 t241 x15_3).f2))) (ds := [17, 18]) #[false, false, false, false, false, false, false, false, false, false, false, false, false, false, false, false, false, false, false, false] (by kernel_rfl) rfl rfl ⟨hx267_0, hx267_1, hx267_2, hx268_0, hx268_1, hx268_2, hx269_0, hx269_1, hx269_2⟩ (fun hHeld => ?_); refine with_tabW tattlelaw15_PlanTells.tab19 tattlelaw15_PlanTells.bits19 (fun HT_ HW_ => ?_)
                        generalize wr.drew = w65 at HO_0 HO_2 HO_9 HO_11 HO_14 HB hx267_0 hx267_1 hx267_2 hx268_0 hx268_1 hx268_2 hx269_0 hx269_1 hx269_2 hHeld ⊢
                        refine pure_ (i := 0) (N := some 120) (v := ?_) (a' := ?_) #[true, false, false, false, false, false, false, false, false, false, false, false, false, false, false, false, false, false, false, false] rfl rfl (any_of HT_.out (by kernel_rfl)) (fun _ _ _ h => h) (Or.inl ⟨by rfl, ?_⟩) ?_ ?_
                        rotate_left
                        · intro w'
                          go_simp
                          with_reducible rfl
                        rotate_left
                        · simp only [Act.put, List.setIfInBounds_toArray, List.set_cons_zero, List.set_cons_succ, i64_w, i32_w]
                          rfl
                        refine pure_ (i := 1) (N := some 121) (v := ?_) (a' := ?_) #[true, true, false, false, false, false, false, false, false, false, false, false, false, false, false, false, false, false, false, false] rfl rfl (any_of HT_.out (by kernel_rfl)) (fun _ _ _ h => h) (Or.inl ⟨by rfl, ?_⟩) ?_ ?_
                        rotate_left
                        · intro w'
                          go_simp
                          with_reducible rfl
                        rotate_left
                        · simp only [Act.put, List.setIfInBounds_toArray, List.set_cons_zero, List.set_cons_succ, i64_w, i32_w]
                          rfl
                        refine pure_ (i := 2) (N := some 122) (v := ?_) (a' := ?_) #[true, true, true, false, false, false, false, false, false, false, false, false, false, false, false, false, false, false, false, false] rfl rfl (any_of HT_.out (by kernel_rfl)) (fun _ _ _ h => h) (Or.inl ⟨by rfl, ?_⟩) ?_ ?_
                        rotate_left
                        · intro w'
                          go_simp
                          with_reducible rfl
                        rotate_left
                        · simp only [Act.put, List.setIfInBounds_toArray, List.set_cons_zero, List.set_cons_succ, i64_w, i32_w]
                          rfl
                        refine pure_ (i := 3) (N := some 123) (v := ?_) (a' := ?_) #[true, true, true, true, false, false, false, false, false, false, false, false, false, false, false, false, false, false, false, false] rfl rfl (any_of HT_.out (by kernel_rfl)) (fun _ _ _ h => h) (Or.inl ⟨by rfl, ?_⟩) ?_ ?_
                        rotate_left
                        · intro w'
                          go_simp
                          with_reducible rfl
                        rotate_left
                        · simp only [Act.put, List.setIfInBounds_toArray, List.set_cons_zero, List.set_cons_succ, i64_w, i32_w]
                          rfl
                        refine pure_ (i := 4) (N := some 124) (v := ?_) (a' := ?_) #[true, true, true, true, true, false, false, false, false, false, false, false, false, false, false, false, false, false, false, false] rfl rfl (any_of HT_.out (by kernel_rfl)) (fun _ _ _ h => h) (Or.inl ⟨by rfl, ?_⟩) ?_ ?_
                        rotate_left
                        · intro w'
                          go_simp
                          with_reducible rfl
                        rotate_left
                        · simp only [Act.put, List.setIfInBounds_toArray, List.set_cons_zero, List.set_cons_succ, i64_w, i32_w]
                          rfl
                        refine pure_ (i := 6) (N := some 126) (v := ?_) (a' := ?_) #[true, true, true, true, true, false, true, false, false, false, false, false, false, false, false, false, false, false, false, false] rfl rfl (any_of HT_.out (by kernel_rfl)) (fun _ _ _ h => h) (Or.inl ⟨by rfl, ?_⟩) ?_ ?_
                        rotate_left
                        · intro w'
                          go_simp
                          with_reducible rfl
                        rotate_left
                        · simp only [Act.put, List.setIfInBounds_toArray, List.set_cons_zero, List.set_cons_succ, i64_w, i32_w]
                          rfl
                        refine pure_ (i := 7) (N := some 127) (v := ?_) (a' := ?_) #[true, true, true, true, true, false, true, true, false, false, false, false, false, false, false, false, false, false, false, false] rfl rfl (any_of HT_.out (by kernel_rfl)) (fun _ _ _ h => h) (Or.inl ⟨by rfl, ?_⟩) ?_ ?_
                        rotate_left
                        · intro w'
                          go_simp
                          with_reducible rfl
                        rotate_left
                        · simp only [Act.put, List.setIfInBounds_toArray, List.set_cons_zero, List.set_cons_succ, i64_w, i32_w]
                          rfl
                        refine pure_ (i := 8) (N := some 128) (v := ?_) (a' := ?_) #[true, true, true, true, true, false, true, true, true, false, false, false, false, false, false, false, false, false, false, false] rfl rfl (any_of HT_.out (by kernel_rfl)) (fun _ _ _ h => h) (Or.inl ⟨by rfl, ?_⟩) ?_ ?_
                        rotate_left
                        · intro w'
                          go_simp
                          with_reducible rfl
                        rotate_left
                        · simp only [Act.put, List.setIfInBounds_toArray, List.set_cons_zero, List.set_cons_succ, i64_w, i32_w]
                          rfl
                        refine pure_ (i := 9) (N := some 129) (v := ?_) (a' := ?_) #[true, true, true, true, true, false, true, true, true, true, false, false, false, false, false, false, false, false, false, false] rfl rfl (any_of HT_.out (by kernel_rfl)) (fun _ _ _ h => h) (Or.inl ⟨by rfl, ?_⟩) ?_ ?_
                        rotate_left
                        · intro w'
                          go_simp
                          with_reducible rfl
                        rotate_left
                        · simp only [Act.put, List.setIfInBounds_toArray, List.set_cons_zero, List.set_cons_succ, i64_w, i32_w]
                          rfl
                        refine pure_ (i := 11) (N := some 131) (v := ?_) (a' := ?_) #[true, true, true, true, true, false, true, true, true, true, false, true, false, false, false, false, false, false, false, false] rfl rfl (any_of HT_.out (by kernel_rfl)) (fun _ _ _ h => h) (Or.inl ⟨by rfl, ?_⟩) ?_ ?_
                        rotate_left
                        · intro w'
                          go_simp
                          with_reducible rfl
                        rotate_left
                        · simp only [Act.put, List.setIfInBounds_toArray, List.set_cons_zero, List.set_cons_succ, i64_w, i32_w]
                          rfl
                        refine pure_ (i := 12) (N := some 132) (v := ?_) (a' := ?_) #[true, true, true, true, true, false, true, true, true, true, false, true, true, false, false, false, false, false, false, false] rfl rfl (any_of HT_.out (by kernel_rfl)) (fun _ _ _ h => h) (Or.inl ⟨by rfl, ?_⟩) ?_ ?_
                        rotate_left
                        · intro w'
                          go_simp
                          with_reducible rfl
                        rotate_left
                        · simp only [Act.put, List.setIfInBounds_toArray, List.set_cons_zero, List.set_cons_succ, i64_w, i32_w]
                          rfl
                        refine pure_ (i := 13) (N := some 133) (v := ?_) (a' := ?_) #[true, true, true, true, true, false, true, true, true, true, false, true, true, true, false, false, false, false, false, false] rfl rfl (any_of HT_.out (by kernel_rfl)) (fun _ _ _ h => h) (Or.inl ⟨by rfl, ?_⟩) ?_ ?_
                        rotate_left
                        · intro w'
                          go_simp
                          with_reducible rfl
                        rotate_left
                        · simp only [Act.put, List.setIfInBounds_toArray, List.set_cons_zero, List.set_cons_succ, i64_w, i32_w]
                          rfl
                        refine pure_ (i := 14) (N := some 134) (v := ?_) (a' := ?_) #[true, true, true, true, true, false, true, true, true, true, false, true, true, true, true, false, false, false, false, false] rfl rfl (any_of HT_.out (by kernel_rfl)) (fun _ _ _ h => h) (Or.inl ⟨by rfl, ?_⟩) ?_ ?_
                        rotate_left
                        · intro w'
                          go_simp
                          with_reducible rfl
                        rotate_left
                        · simp only [Act.put, List.setIfInBounds_toArray, List.set_cons_zero, List.set_cons_succ, i64_w, i32_w]
                          rfl
                        refine take_ (i := 5) (N := some 125) (v := ?_) (a' := ?_) #[true, true, true, true, true, true, true, true, true, true, false, true, true, true, true, false, false, false, false, false] rfl rfl (take_ofW HT_.out HW_.out (by kernel_rfl)) (fun _ _ _ h => h) (Or.inl ⟨by rfl, ?_⟩) hHeld ?_ ?_
                        rotate_left
                        · rintro w' ⟨s0, s1, s2, s3, s4, s5, s6, s7, s8⟩
                          go_simp
                          with_reducible rfl
                        rotate_left
                        · simp only [Act.put, List.setIfInBounds_toArray, List.set_cons_zero, List.set_cons_succ, i64_w, i32_w]
                          rfl
                        refine take_ (i := 10) (N := some 130) (v := ?_) (a' := ?_) #[true, true, true, true, true, true, true, true, true, true, true, true, true, true, true, false, false, false, false, false] rfl rfl (take_ofW HT_.out HW_.out (by kernel_rfl)) (fun _ _ _ h => h) (Or.inl ⟨by rfl, ?_⟩) hHeld ?_ ?_
                        rotate_left
                        · rintro w' ⟨s0, s1, s2, s3, s4, s5, s6, s7, s8⟩
                          go_simp
                          with_reducible rfl
                        rotate_left
                        · simp only [Act.put, List.setIfInBounds_toArray, List.set_cons_zero, List.set_cons_succ, i64_w, i32_w]
                          rfl
                        refine take_ (i := 15) (N := some 135) (v := ?_) (a' := ?_) #[true, true, true, true, true, true, true, true, true, true, true, true, true, true, true, true, false, false, false, false] rfl rfl (take_ofW HT_.out HW_.out (by kernel_rfl)) (fun _ _ _ h => h) (Or.inl ⟨by rfl, ?_⟩) hHeld ?_ ?_
                        rotate_left
                        · rintro w' ⟨s0, s1, s2, s3, s4, s5, s6, s7, s8⟩
                          go_simp
                          with_reducible rfl
                        rotate_left
                        · simp only [Act.put, List.setIfInBounds_toArray, List.set_cons_zero, List.set_cons_succ, i64_w, i32_w]
                          rfl
                        refine pure_ (i := 16) (N := some 136) (v := ?_) (a' := ?_) #[true, true, true, true, true, true, true, true, true, true, true, true, true, true, true, true, true, false, false, false] rfl rfl (any_of HT_.out (by kernel_rfl)) (fun _ _ _ h => h) (Or.inl ⟨by rfl, ?_⟩) ?_ ?_
                        rotate_left
                        · intro w'
                          go_simp
                          with_reducible rfl
                        rotate_left
                        · simp only [Act.put, List.setIfInBounds_toArray, List.set_cons_zero, List.set_cons_succ, i64_w, i32_w]
                          rfl
                        refine last_ (i := 17) (N := some 137) #[true, true, true, true, true, true, true, true, true, true, true, true, true, true, true, true, true, true, false, false] rfl rfl (one_of HT_.out (by kernel_rfl)) (by decide) (fun K hK => ?_)
                        refine value_ (w1 := ?_) (v := ?_) (by rfl) rfl ?_ ?_
                        rotate_left 2
                        · go_simp
                          constructor
                          · rfl
                          · rfl
                        refine hK.out _ _ ?_
                        clear hK K
                        refine norm_ (a' := ?_) ?_ ?_
                        rotate_left
                        · show Act.put _ (some 137) _ = _
                          simp only [Act.put, List.setIfInBounds_toArray, List.set_cons_zero, List.set_cons_succ, i64_w, i32_w]
                          rfl
                        refine last_ (i := 18) (N := some 138) #[true, true, true, true, true, true, true, true, true, true, true, true, true, true, true, true, true, true, true, false] rfl rfl (one_of HT_.out (by kernel_rfl)) (by decide) (fun K hK => ?_)
                        refine Kd.R_append_step k36 (w0 := w) w.heap.size (by rfl) (.tmp 120) (.tmp 137) 24 36 (.agg #[(.string ⟨#[]⟩), (.int .i64 0), (.int .i64 0)]) 32 rfl Try.underlying24 info36 rfl (by decide) (by omega) u14 x14_3 (⟨(rd_T36 t241 x15_3).f0, (rd_T36 t241 x15_3).f2, (rd_T36 t241 x15_3).f1⟩ : S36) [.string ((rd_T36 t241 x15_3).f0), .int .i64 ((rd_T36 t241 x15_3).f2), .int .i64 ((rd_T36 t241 x15_3).f1)] (fun k_ => some k_ ≠ (v254 : Value).ownBlock) (fun _ => False) rfl rfl ?aP (fun _ hk => hk.elim) ?aF ?aO ?aB ?aS ?aL ?_
                        (case aP => exact k36_mkM _ _ _ (⟨(rd_T36 t241 x15_3).f0, (rd_T36 t241 x15_3).f2, (rd_T36 t241 x15_3).f1⟩ : S36))
                        (case aB => exact (by repeat (first | (with_reducible first | exact HB.out | apply below_alloc | apply pw_below_drewN | apply below_drew1) | exact HB.out)))
                        (case aF => exact (fun k_ hk => Kd.fresh' (Kd.R_lt (by (with_reducible repeat (first | apply Kd.R_alloc | apply Kd.R_drewN | apply Kd.R_drew)); exact HO_11.out)) k_ hk))
                        (case aO => exact (by (with_reducible repeat (first | apply Kd.R_alloc | apply Kd.R_drewN | apply Kd.R_drew)); exact HO_14.out))
                        (case aS => exact (below_size (by repeat (first | (with_reducible first | exact HB.out | apply below_alloc | apply pw_below_drewN | apply below_drew1) | exact HB.out))))
                        (case aL => have := LMc64.out; omega)
                        intro v271 w66 ho hb hg hat
                        rw [← Ny270.out] at ho
                        have n0_ := Aside0.mk (Kd.V_afterv (ok := (fun k_ => some k_ ≠ (v250 : Value).ownBlock ∧ some k_ ≠ (v254 : Value).ownBlock)) (by (with_reducible repeat (first | apply Kd.V_alloc | apply Kd.V_drewN | apply Kd.V_drew)); exact Kd.V_mono HO_0.out (fun _ hk => ⟨⟨hk.1, hk.2.1⟩, hk.2.2⟩)) hg hat)
                        have n1_ := Aside0.mk (Kd.V_afterv (ok := (fun k_ => some k_ ≠ (v250 : Value).ownBlock ∧ some k_ ≠ (v254 : Value).ownBlock)) (by (with_reducible repeat (first | apply Kd.V_alloc | apply Kd.V_drewN | apply Kd.V_drew)); exact Kd.V_mono HO_2.out (fun _ hk => ⟨⟨hk.1, hk.2.1⟩, hk.2.2⟩)) hg hat)
                        have n2_ := Aside0.mk (Kd.R_over' (by (with_reducible repeat (first | apply Kd.R_alloc | apply Kd.R_drewN | apply Kd.R_drew)); exact HO_9.out) (Kd.R_typed (by (with_reducible repeat (first | apply Kd.R_alloc | apply Kd.R_drewN | apply Kd.R_drew)); exact HO_14.out)) (by decide) hg)
                        have n3_ := Aside0.mk (Kd.R_after (ok := (fun _ => True)) (by (with_reducible repeat (first | apply Kd.R_alloc | apply Kd.R_drewN | apply Kd.R_drew)); exact Kd.R_mono HO_11.out (fun _ hk => ⟨trivial, hk⟩)) hg hat)
                        have n4_ := Aside0.mk (hb)
                        have n5_ := Aside0.mk (ho)
                        clear HO_0
                        clear HO_2
                        clear HO_9
                        clear HO_11
                        clear HB
                        clear HO_14
                        have HO_0 := n0_
                        have HO_2 := n1_
                        have HO_9 := n2_
                        have HO_11 := n3_
                        have HB := n4_
                        have HO272 := n5_
                        clear n0_ n1_ n2_ n3_ n4_ n5_
                        clear ho hb hg hat
                        refine hK.out _ _ ?_
                        clear hK K
                        refine norm_ (a' := ?_) ?_ ?_
                        rotate_left
                        · show Act.put _ (some 138) _ = _
                          simp only [Act.put, List.setIfInBounds_toArray, List.set_cons_zero, List.set_cons_succ, i64_w, i32_w]
                          rfl
                        refine pure_ (i := 19) (N := some 14) (v := ?_) (a' := ?_) #[true, true, true, true, true, true, true, true, true, true, true, true, true, true, true, true, true, true, true, true] rfl rfl (any_of HT_.out (by kernel_rfl)) (fun _ _ _ h => h) (Or.inl ⟨by rfl, ?_⟩) ?_ ?_
                        rotate_left
                        · intro w'
                          go_simp
                          with_reducible rfl
                        rotate_left
                        · simp only [Act.put, List.setIfInBounds_toArray, List.set_cons_zero, List.set_cons_succ, i64_w, i32_w]
                          rfl
                        refine done_ (done_of HT_.out (by kernel_rfl)) ?_
                        try go_wp2
                        go_roundg k3
                        case measure => have := HJ12.out; have := HJ30.out; have := HK3.out; omega
                        case rel => exact ⟨(y270), (wrap64 (x15_3 + 1)), (by first | rfl | (simp; done) | (simp [*]; done)), H', ⟨by have := HJ12.out; have := HJ30.out; have := HK3.out; omega⟩, ⟨by (with_reducible repeat (first | apply Kd.V_alloc | apply Kd.V_drewN | apply Kd.V_drew)); exact Kd.V_mono HO_0.out (fun _ hk => ⟨hk.1.1, ⟨hk.1.2, hk.2⟩⟩)⟩, ⟨by (with_reducible repeat (first | apply Kd.V_alloc | apply Kd.V_drewN | apply Kd.V_drew)); exact Kd.V_mono HO_2.out (fun _ hk => ⟨hk.1.1, ⟨hk.1.2, hk.2⟩⟩)⟩, ⟨by (with_reducible repeat (first | apply Kd.R_alloc | apply Kd.R_drewN | apply Kd.R_drew)); exact HO_9.out⟩, ⟨by (with_reducible repeat (first | apply Kd.R_alloc | apply Kd.R_drewN | apply Kd.R_drew)); exact Kd.R_mono HO_11.out (fun _ hk => hk.2)⟩, ⟨by (with_reducible repeat (first | apply Kd.R_alloc | apply Kd.R_drewN | apply Kd.R_drew)); exact HO272.out⟩, ⟨by repeat (first | (with_reducible first | exact HB.out | apply below_alloc | apply pw_below_drewN | apply below_drew1) | exact HB.out)⟩⟩
                      · rw [if_neg c64] at H
                        exact absurd H (by simp)
                    · rw [if_neg c63] at H
                      exact absurd H (by simp)
                  · rw [if_neg c62] at H
                    have c62b0 : decide (x15_3 < (t241.length : Int)) = false := decide_eq_false c62
                    clear c62
                    have HC67 := Aside0.mk H
                    clear H
                    go_upto_region 20 with (fail)
                    go_cut [146] (fun v146 wc => ∃ (kq : Nat) (x146_66 : Bool), v146 = .bool x146_66 ∧ Aside0 (tattlelaw15_PlanTells.j3 kq t235 t241 t248 t249 x146_66 = some r) ∧ Aside0 (kq ≤ k3) ∧ Aside0 (Kd.V k52 52 wc w.heap.size (fun k_ => some k_ ≠ (v250 : Value).ownBlock) (.slice Ao17 t235.length co17) t235) ∧ Aside0 (Kd.V k36 36 wc w.heap.size (fun k_ => some k_ ≠ (v250 : Value).ownBlock) (.slice Ao20 t241.length co20) t241) ∧ Aside0 (Kd.R k52 52 wc w.heap.size (fun _ => True) v250 t248) ∧ Aside0 (Below w.heap.size w wc))
                    case first =>
                      have H := HC67.out
                      clear HC67
                      replace H := Option.bind_eq_some_iff.mp H
                      obtain ⟨t273, A680, H⟩ := H
                      replace H : (if t273 = true then (tattlelaw15_PlanTells.j3 k3 t235 t241 t248 t249 (t253 != 0)) else (tattlelaw15_PlanTells.j3 k3 t235 t241 t248 t249 true)) = some r := H
                      have A68 := Aside0.mk A680
                      clear A680
                      by_cases c69 : t273 = true
                      · subst c69
                        have H1 : (tattlelaw15_PlanTells.j3 k3 t235 t241 t248 t249 (t253 != 0)) = some r := by rw [if_pos rfl] at H; exact H
                        clear H
                        have H := H1
                        clear H1
                        have H' := Aside0.mk H
                        clear H
                        obtain ⟨Ao70, co70, eo70⟩ := Kd.R_slice HO_11.out
                        subst eo70
                        obtain ⟨Ao71, co71, eo71⟩ := Kd.R_slice HO_14.out
                        subst eo71
                        go_wp2_with (first | ((with_reducible refine gate_callee (f := 20) rfl ?_); refine goesL_ (some 141) rfl rfl Try.func20 (by kernel_rfl) rfl #[.slice Ao70 t252.length co70, .slice Ao71 x14_3.length co71] rfl (by (try simp only [List.map_toArray, List.map_cons, List.map_nil]); first | done | rfl | (simp only [List.length_drop, List.length_take]; rfl)) ?_; (with_reducible refine (tattleref15_Same.calls k3 _ _ t252 _ _ x14_3 true _ ?side1 ?side2 ?side3 ?side4 A68.out).mono ?_); (case side1 => repeat (first | exact (Kd.R_reads' HO_11.out).2.2 | (with_reducible refine Kd.C_alloc ?_ _) | (with_reducible refine Kd.C_drewN ?_ _) | (with_reducible refine Kd.C_drew ?_))); (case side2 => exact (Kd.R_reads' HO_11.out).2.1); (case side3 => repeat (first | exact (Kd.R_reads' HO_14.out).2.2 | (with_reducible refine Kd.C_alloc ?_ _) | (with_reducible refine Kd.C_drewN ?_ _) | (with_reducible refine Kd.C_drew ?_))); (case side4 => exact (Kd.R_reads' HO_14.out).2.1); rintro e w' ⟨rfl, ⟨nd, rfl⟩⟩; refine ⟨_, rfl, ?_⟩))
                        go_meet
                        case rel => exact ⟨_, ((t253 != 0)), (by first | rfl | (simp; done) | (simp [*]; done)), H', ⟨by have := HJ12.out; have := HJ30.out; have := HK3.out; first | omega | exact Nat.le_refl _⟩, ⟨by (with_reducible repeat (first | apply Kd.V_alloc | apply Kd.V_drewN | apply Kd.V_drew)); exact Kd.V_mono HO_0.out (fun _ hk => hk.1)⟩, ⟨by (with_reducible repeat (first | apply Kd.V_alloc | apply Kd.V_drewN | apply Kd.V_drew)); exact Kd.V_mono HO_2.out (fun _ hk => hk.1)⟩, ⟨by (with_reducible repeat (first | apply Kd.R_alloc | apply Kd.R_drewN | apply Kd.R_drew)); exact HO_9.out⟩, ⟨by repeat (first | (with_reducible first | exact HB.out | apply below_alloc | apply pw_below_drewN | apply below_drew1) | exact HB.out)⟩⟩
                      · replace c69 := Bool.eq_false_iff.mpr c69
                        subst c69
                        have H1 : (tattlelaw15_PlanTells.j3 k3 t235 t241 t248 t249 true) = some r := by rw [if_neg (show ¬ (false = true) by decide)] at H; exact H
                        clear H
                        have H := H1
                        clear H1
                        have H' := Aside0.mk H
                        clear H
                        obtain ⟨Ao72, co72, eo72⟩ := Kd.R_slice HO_11.out
                        subst eo72
                        obtain ⟨Ao73, co73, eo73⟩ := Kd.R_slice HO_14.out
                        subst eo73
                        go_wp2_with (first | ((with_reducible refine gate_callee (f := 20) rfl ?_); refine goesL_ (some 141) rfl rfl Try.func20 (by kernel_rfl) rfl #[.slice Ao72 t252.length co72, .slice Ao73 x14_3.length co73] rfl (by (try simp only [List.map_toArray, List.map_cons, List.map_nil]); first | done | rfl | (simp only [List.length_drop, List.length_take]; rfl)) ?_; (with_reducible refine (tattleref15_Same.calls k3 _ _ t252 _ _ x14_3 false _ ?side1 ?side2 ?side3 ?side4 A68.out).mono ?_); (case side1 => repeat (first | exact (Kd.R_reads' HO_11.out).2.2 | (with_reducible refine Kd.C_alloc ?_ _) | (with_reducible refine Kd.C_drewN ?_ _) | (with_reducible refine Kd.C_drew ?_))); (case side2 => exact (Kd.R_reads' HO_11.out).2.1); (case side3 => repeat (first | exact (Kd.R_reads' HO_14.out).2.2 | (with_reducible refine Kd.C_alloc ?_ _) | (with_reducible refine Kd.C_drewN ?_ _) | (with_reducible refine Kd.C_drew ?_))); (case side4 => exact (Kd.R_reads' HO_14.out).2.1); rintro e w' ⟨rfl, ⟨nd, rfl⟩⟩; refine ⟨_, rfl, ?_⟩))
                        go_meet
                        case rel => exact ⟨_, (true), (by first | rfl | (simp; done) | (simp [*]; done)), H', ⟨by have := HJ12.out; have := HJ30.out; have := HK3.out; first | omega | exact Nat.le_refl _⟩, ⟨by (with_reducible repeat (first | apply Kd.V_alloc | apply Kd.V_drewN | apply Kd.V_drew)); exact Kd.V_mono HO_0.out (fun _ hk => hk.1)⟩, ⟨by (with_reducible repeat (first | apply Kd.V_alloc | apply Kd.V_drewN | apply Kd.V_drew)); exact Kd.V_mono HO_2.out (fun _ hk => hk.1)⟩, ⟨by (with_reducible repeat (first | apply Kd.R_alloc | apply Kd.R_drewN | apply Kd.R_drew)); exact HO_9.out⟩, ⟨by repeat (first | (with_reducible first | exact HB.out | apply below_alloc | apply pw_below_drewN | apply below_drew1) | exact HB.out)⟩⟩
                    case rest =>
                      clear HC67
                      try clear c1
                      try clear c2
                      try clear p2
                      try clear q2
                      try clear hx2
                      try clear c3
                      try clear c4
                      try clear c5
                      try clear c6
                      try clear p6
                      try clear c9
                      try clear c10
                      try clear c12
                      try clear c12b0
                      try clear c12b1
                      try clear c12b2
                      try clear c13
                      try clear c14
                      try clear c15
                      try clear c16
                      try clear c17
                      try clear c18
                      try clear c19
                      try clear c20
                      try clear c26
                      try clear p26
                      try clear q26
                      try clear hx26
                      try clear c32
                      try clear c33
                      try clear c33b0
                      try clear c33b1
                      try clear c34
                      try clear c34b0
                      try clear c34b1
                      try clear c37
                      try clear c37b0
                      try clear c37b1
                      try clear c38
                      try clear c38b0
                      try clear c38b1
                      try clear c39
                      try clear c39b0
                      try clear c39b1
                      try clear c40
                      try clear c40b0
                      try clear c40b1
                      try clear c42
                      try clear c43
                      try clear c43b0
                      try clear c43b1
                      try clear c50
                      try clear c50b0
                      try clear c50b1
                      try clear c52
                      try clear c53
                      try clear c53b0
                      try clear c53b1
                      try clear c60
                      try clear c62
                      try clear c62b0
                      try clear c63
                      try clear c63b0
                      try clear c64
                      try clear p64
                      try clear c69
                      try clear hx267_0
                      try clear hx267_1
                      try clear hx267_2
                      try clear hx268_0
                      try clear hx268_1
                      try clear hx268_2
                      try clear hx269_0
                      try clear hx269_1
                      try clear hx269_2
                      try clear p2
                      try clear p267
                      try clear p268
                      try clear p269
                      try clear q267
                      try clear q268
                      try clear q269
                      obtain ⟨kq, x146_66, rfl, HA, HJ66, HO_0, HO_2, HO_9, HB⟩ := hcut
                      cases kq with
                      | zero => exact absurd HA.out (by simp [tattlelaw15_PlanTells.j3])
                      | succ kj66 =>
                        have H := HA.out
                        clear HA
                        simp only [tattlelaw15_PlanTells.j3] at H
                        by_cases c74 : x146_66 = true
                        · subst c74
                          have H1 : (none) = some r := by rw [if_pos rfl] at H; exact H
                          clear H
                          have H := H1
                          clear H1
                          exact absurd H (by simp)
                        · replace c74 := Bool.eq_false_iff.mpr c74
                          subst c74
                          have H1 : ((tattleref14_May.f kj66 t235).bind fun t274 => (if t274 = true then ((tattleref15_Apply.f kj66 t235 t241).bind fun bt275 => ((tattleref14_Same.f kj66 t248 bt275.1).bind fun t279 => (if t279 = true then (if t249 = bt275.2 then ((tattlelaw15_awake.f kj66).bind fun t280 => (some t280)) else (none)) else (none)))) else (if (t248.length : Int) = 0 then (if t249 = 1 then ((tattlelaw15_awake.f kj66).bind fun t281 => (some t281)) else (none)) else (none)))) = some r := by rw [if_neg (show ¬ (false = true) by decide)] at H; exact H
                          clear H
                          have H := H1
                          clear H1
                          replace H := Option.bind_eq_some_iff.mp H
                          obtain ⟨t274, A750, H⟩ := H
                          replace H : (if t274 = true then ((tattleref15_Apply.f kj66 t235 t241).bind fun bt275 => ((tattleref14_Same.f kj66 t248 bt275.1).bind fun t279 => (if t279 = true then (if t249 = bt275.2 then ((tattlelaw15_awake.f kj66).bind fun t280 => (some t280)) else (none)) else (none)))) else (if (t248.length : Int) = 0 then (if t249 = 1 then ((tattlelaw15_awake.f kj66).bind fun t281 => (some t281)) else (none)) else (none))) = some r := H
                          have A75 := Aside0.mk A750
                          clear A750
                          by_cases c76 : t274 = true
                          · subst c76
                            have H1 : ((tattleref15_Apply.f kj66 t235 t241).bind fun bt275 => ((tattleref14_Same.f kj66 t248 bt275.1).bind fun t279 => (if t279 = true then (if t249 = bt275.2 then ((tattlelaw15_awake.f kj66).bind fun t280 => (some t280)) else (none)) else (none)))) = some r := by rw [if_pos rfl] at H; exact H
                            clear H
                            have H := H1
                            clear H1
                            replace H := Option.bind_eq_some_iff.mp H
                            obtain ⟨⟨t275, t276⟩, A770, H⟩ := H
                            replace H : ((tattleref14_Same.f kj66 t248 t275).bind fun t279 => (if t279 = true then (if t249 = t276 then ((tattlelaw15_awake.f kj66).bind fun t280 => (some t280)) else (none)) else (none))) = some r := H
                            have A77 := Aside0.mk A770
                            clear A770
                            replace H := Option.bind_eq_some_iff.mp H
                            obtain ⟨t279, A780, H⟩ := H
                            replace H : (if t279 = true then (if t249 = t276 then ((tattlelaw15_awake.f kj66).bind fun t280 => (some t280)) else (none)) else (none)) = some r := H
                            have A78 := Aside0.mk A780
                            clear A780
                            by_cases c79 : t279 = true
                            · subst c79
                              have H1 : (if t249 = t276 then ((tattlelaw15_awake.f kj66).bind fun t280 => (some t280)) else (none)) = some r := by rw [if_pos rfl] at H; exact H
                              clear H
                              have H := H1
                              clear H1
                              by_cases c80 : t249 = t276
                              · rw [if_pos c80] at H
                                have c80b0 : (t249 == t276) = true := beq_iff_eq.mpr c80
                                have c80b1 : (t249 != t276) = false := bne_eq_false_iff_eq.mpr c80
                                clear c80
                                replace H := Option.bind_eq_some_iff.mp H
                                obtain ⟨t280, A810, H⟩ := H
                                replace H : (some t280) = some r := H
                                have A81 := Aside0.mk A810
                                clear A810
                                obtain rfl := Option.some.inj H
                                go_wp2_with (first | ((with_reducible refine gate_callee (f := 18) rfl ?_); refine goesL_ (some 148) rfl rfl Try.func18 (by kernel_rfl) rfl #[.slice Ao17 t235.length co17] rfl (by (try simp only [List.map_toArray, List.map_cons, List.map_nil]); first | done | rfl | (simp only [List.length_drop, List.length_take]; rfl)) ?_; (with_reducible refine (tattleref14_May.calls kj66 _ _ t235 true _ ?side1 ?side2 A75.out).mono ?_); (case side1 => repeat (first | exact (Kd.V_reads' HO_0.out).2.2 | (with_reducible refine Kd.C_alloc ?_ _) | (with_reducible refine Kd.C_drewN ?_ _) | (with_reducible refine Kd.C_drew ?_))); (case side2 => exact (Kd.V_reads' HO_0.out).2.1); rintro e w82 ⟨rfl, hb⟩; refine ⟨_, rfl, ?_⟩; have n0_ := Aside0.mk (Kd.V_below (by (with_reducible repeat (first | apply Kd.V_alloc | apply Kd.V_drewN | apply Kd.V_drew)); exact HO_0.out) hb); have n1_ := Aside0.mk (Kd.V_below (by (with_reducible repeat (first | apply Kd.V_alloc | apply Kd.V_drewN | apply Kd.V_drew)); exact HO_2.out) hb); have n2_ := Aside0.mk (Kd.R_below (by (with_reducible repeat (first | apply Kd.R_alloc | apply Kd.R_drewN | apply Kd.R_drew)); exact HO_9.out) hb); have n3_ := Aside0.mk (below_step (by repeat (first | (with_reducible first | exact HB.out | apply below_alloc | apply pw_below_drewN | apply below_drew1) | exact HB.out)) hb); clear HO_0; clear HO_2; clear HO_9; clear HB; have HO_0 := n0_; have HO_2 := n1_; have HO_9 := n2_; have HB := n3_; clear n0_ n1_ n2_ n3_; (try clear hb); (try clear hb2); (try clear hk); (try clear hi)) | ((with_reducible refine gate_callee (f := 21) rfl ?_); refine goesL_ (some 163) rfl rfl Try.func21 (by kernel_rfl) rfl #[.slice Ao17 t235.length co17, .slice Ao20 t241.length co20] rfl (by (try simp only [List.map_toArray, List.map_cons, List.map_nil]); first | done | rfl | (simp only [List.length_drop, List.length_take]; rfl)) ?_; (with_reducible refine (tattleref15_Apply.calls kj66 _ _ t235 _ _ t241 t275 t276 _ ?side1 ?side2 ?side3 ?side4 A77.out).mono ?_); (case side1 => repeat (first | exact (Kd.V_reads' HO_0.out).2.2 | (with_reducible refine Kd.C_alloc ?_ _) | (with_reducible refine Kd.C_drewN ?_ _) | (with_reducible refine Kd.C_drew ?_))); (case side2 => exact (Kd.V_reads' HO_0.out).2.1); (case side3 => repeat (first | exact (Kd.V_reads' HO_2.out).2.2 | (with_reducible refine Kd.C_alloc ?_ _) | (with_reducible refine Kd.C_drewN ?_ _) | (with_reducible refine Kd.C_drew ?_))); (case side4 => exact (Kd.V_reads' HO_2.out).2.1); rintro e w83 ⟨v277, rfl, ho0, hb⟩; refine ⟨_, rfl, ?_⟩; have n0_ := Aside0.mk (Kd.V_elder' (by (with_reducible repeat (first | apply Kd.V_alloc | apply Kd.V_drewN | apply Kd.V_drew)); exact HO_0.out) (Kd.R_base ho0) hb); have n1_ := Aside0.mk (Kd.V_elder' (by (with_reducible repeat (first | apply Kd.V_alloc | apply Kd.V_drewN | apply Kd.V_drew)); exact HO_2.out) (Kd.R_base ho0) hb); have n2_ := Aside0.mk (Kd.R_elder' (by (with_reducible repeat (first | apply Kd.R_alloc | apply Kd.R_drewN | apply Kd.R_drew)); exact HO_9.out) (Kd.R_base ho0) hb); have n3_ := Aside0.mk (Kd.R_lower (Kd.R_new' ho0 (Kd.R_lt (by (with_reducible repeat (first | apply Kd.R_alloc | apply Kd.R_drewN | apply Kd.R_drew)); exact HO_9.out))) (below_size (by repeat (first | (with_reducible first | exact HB.out | apply below_alloc | apply pw_below_drewN | apply below_drew1) | exact HB.out)))); have n4_ := Aside0.mk (below_step (by repeat (first | (with_reducible first | exact HB.out | apply below_alloc | apply pw_below_drewN | apply below_drew1) | exact HB.out)) hb); clear HO_0; clear HO_2; clear HO_9; clear HB; have HO_0 := n0_; have HO_2 := n1_; have HO_9 := n2_; have HO278 := n3_; have HB := n4_; clear n0_ n1_ n2_ n3_ n4_; (try clear hb); (try clear hb2); (try clear hk); (try clear hi); (try clear ho0); obtain ⟨Ao84, co84, eo84⟩ := Kd.R_slice HO_9.out; subst eo84; obtain ⟨Ao85, co85, eo85⟩ := Kd.R_slice HO278.out; subst eo85) | ((with_reducible refine gate_callee (f := 12) rfl ?_); refine goesL_ (some 168) rfl rfl Try.func12 (by kernel_rfl) rfl #[.slice Ao84 t248.length co84, .slice Ao85 t275.length co85] rfl (by (try simp only [List.map_toArray, List.map_cons, List.map_nil]); first | done | rfl | (simp only [List.length_drop, List.length_take]; rfl)) ?_; (with_reducible refine (tattleref14_Same.calls kj66 _ _ t248 _ _ t275 true _ ?side1 ?side2 ?side3 ?side4 A78.out).mono ?_); (case side1 => repeat (first | exact (Kd.R_reads' HO_9.out).2.2 | (with_reducible refine Kd.C_alloc ?_ _) | (with_reducible refine Kd.C_drewN ?_ _) | (with_reducible refine Kd.C_drew ?_))); (case side2 => exact (Kd.R_reads' HO_9.out).2.1); (case side3 => repeat (first | exact (Kd.R_reads' HO278.out).2.2 | (with_reducible refine Kd.C_alloc ?_ _) | (with_reducible refine Kd.C_drewN ?_ _) | (with_reducible refine Kd.C_drew ?_))); (case side4 => exact (Kd.R_reads' HO278.out).2.1); rintro e w' ⟨rfl, ⟨nd, rfl⟩⟩; refine ⟨_, rfl, ?_⟩) | (go_at_call 11; (with_reducible refine (tattlelaw15_awake.calls kj66  t280 _ A81.out).mono ?_); rintro e w86 ⟨rfl, hb⟩; have n0_ := Aside0.mk (Kd.V_below (by (with_reducible repeat (first | apply Kd.V_alloc | apply Kd.V_drewN | apply Kd.V_drew)); exact HO_0.out) hb); have n1_ := Aside0.mk (Kd.V_below (by (with_reducible repeat (first | apply Kd.V_alloc | apply Kd.V_drewN | apply Kd.V_drew)); exact HO_2.out) hb); have n2_ := Aside0.mk (Kd.R_below (by (with_reducible repeat (first | apply Kd.R_alloc | apply Kd.R_drewN | apply Kd.R_drew)); exact HO_9.out) hb); have n3_ := Aside0.mk (Kd.R_below (by (with_reducible repeat (first | apply Kd.R_alloc | apply Kd.R_drewN | apply Kd.R_drew)); exact HO278.out) hb); have n4_ := Aside0.mk (below_step (by repeat (first | (with_reducible first | exact HB.out | apply below_alloc | apply pw_below_drewN | apply below_drew1) | exact HB.out)) hb); clear HO_0; clear HO_2; clear HO_9; clear HO278; clear HB; have HO_0 := n0_; have HO_2 := n1_; have HO_9 := n2_; have HO278 := n3_; have HB := n4_; clear n0_ n1_ n2_ n3_ n4_; (try clear hb); (try clear hb2); (try clear hk); (try clear hi)))
                                go_ret
                                exact ⟨by first | rfl | (simp [errW_none, errW_some] <;> rfl) | (simp [*, errW_none, errW_some] <;> rfl), by repeat (first | (with_reducible first | exact HB.out | apply below_alloc | apply pw_below_drewN | apply below_drew1) | exact HB.out)⟩
                              · rw [if_neg c80] at H
                                exact absurd H (by simp)
                            · replace c79 := Bool.eq_false_iff.mpr c79
                              subst c79
                              have H1 : (none) = some r := by rw [if_neg (show ¬ (false = true) by decide)] at H; exact H
                              clear H
                              have H := H1
                              clear H1
                              exact absurd H (by simp)
                          · replace c76 := Bool.eq_false_iff.mpr c76
                            subst c76
                            have H1 : (if (t248.length : Int) = 0 then (if t249 = 1 then ((tattlelaw15_awake.f kj66).bind fun t281 => (some t281)) else (none)) else (none)) = some r := by rw [if_neg (show ¬ (false = true) by decide)] at H; exact H
                            clear H
                            have H := H1
                            clear H1
                            by_cases c87 : (t248.length : Int) = 0
                            · rw [if_pos c87] at H
                              have c87b0 : ((t248.length : Int) == 0) = true := beq_iff_eq.mpr c87
                              have c87b1 : ((t248.length : Int) != 0) = false := bne_eq_false_iff_eq.mpr c87
                              clear c87
                              by_cases c88 : t249 = 1
                              · rw [if_pos c88] at H
                                have c88b0 : (t249 == 1) = true := beq_iff_eq.mpr c88
                                have c88b1 : (t249 != 1) = false := bne_eq_false_iff_eq.mpr c88
                                clear c88
                                replace H := Option.bind_eq_some_iff.mp H
                                obtain ⟨t281, A890, H⟩ := H
                                replace H : (some t281) = some r := H
                                have A89 := Aside0.mk A890
                                clear A890
                                obtain rfl := Option.some.inj H
                                go_wp2_with (first | ((with_reducible refine gate_callee (f := 18) rfl ?_); refine goesL_ (some 148) rfl rfl Try.func18 (by kernel_rfl) rfl #[.slice Ao17 t235.length co17] rfl (by (try simp only [List.map_toArray, List.map_cons, List.map_nil]); first | done | rfl | (simp only [List.length_drop, List.length_take]; rfl)) ?_; (with_reducible refine (tattleref14_May.calls kj66 _ _ t235 false _ ?side1 ?side2 A75.out).mono ?_); (case side1 => repeat (first | exact (Kd.V_reads' HO_0.out).2.2 | (with_reducible refine Kd.C_alloc ?_ _) | (with_reducible refine Kd.C_drewN ?_ _) | (with_reducible refine Kd.C_drew ?_))); (case side2 => exact (Kd.V_reads' HO_0.out).2.1); rintro e w90 ⟨rfl, hb⟩; refine ⟨_, rfl, ?_⟩; have n0_ := Aside0.mk (Kd.V_below (by (with_reducible repeat (first | apply Kd.V_alloc | apply Kd.V_drewN | apply Kd.V_drew)); exact HO_0.out) hb); have n1_ := Aside0.mk (Kd.V_below (by (with_reducible repeat (first | apply Kd.V_alloc | apply Kd.V_drewN | apply Kd.V_drew)); exact HO_2.out) hb); have n2_ := Aside0.mk (Kd.R_below (by (with_reducible repeat (first | apply Kd.R_alloc | apply Kd.R_drewN | apply Kd.R_drew)); exact HO_9.out) hb); have n3_ := Aside0.mk (below_step (by repeat (first | (with_reducible first | exact HB.out | apply below_alloc | apply pw_below_drewN | apply below_drew1) | exact HB.out)) hb); clear HO_0; clear HO_2; clear HO_9; clear HB; have HO_0 := n0_; have HO_2 := n1_; have HO_9 := n2_; have HB := n3_; clear n0_ n1_ n2_ n3_; (try clear hb); (try clear hb2); (try clear hk); (try clear hi); obtain ⟨Ao91, co91, eo91⟩ := Kd.R_slice HO_9.out; subst eo91) | (go_at_call 11; (with_reducible refine (tattlelaw15_awake.calls kj66  t281 _ A89.out).mono ?_); rintro e w92 ⟨rfl, hb⟩; have n0_ := Aside0.mk (Kd.V_below (by (with_reducible repeat (first | apply Kd.V_alloc | apply Kd.V_drewN | apply Kd.V_drew)); exact HO_0.out) hb); have n1_ := Aside0.mk (Kd.V_below (by (with_reducible repeat (first | apply Kd.V_alloc | apply Kd.V_drewN | apply Kd.V_drew)); exact HO_2.out) hb); have n2_ := Aside0.mk (Kd.R_below (by (with_reducible repeat (first | apply Kd.R_alloc | apply Kd.R_drewN | apply Kd.R_drew)); exact HO_9.out) hb); have n3_ := Aside0.mk (below_step (by repeat (first | (with_reducible first | exact HB.out | apply below_alloc | apply pw_below_drewN | apply below_drew1) | exact HB.out)) hb); clear HO_0; clear HO_2; clear HO_9; clear HB; have HO_0 := n0_; have HO_2 := n1_; have HO_9 := n2_; have HB := n3_; clear n0_ n1_ n2_ n3_; (try clear hb); (try clear hb2); (try clear hk); (try clear hi)))
                                go_ret
                                exact ⟨by first | rfl | (simp [errW_none, errW_some] <;> rfl) | (simp [*, errW_none, errW_some] <;> rfl), by repeat (first | (with_reducible first | exact HB.out | apply below_alloc | apply pw_below_drewN | apply below_drew1) | exact HB.out)⟩
                              · rw [if_neg c88] at H
                                exact absurd H (by simp)
                            · rw [if_neg c87] at H
                              exact absurd H (by simp)
            · replace c60 := Bool.eq_false_iff.mpr c60
              subst c60
              have H1 : (if (t248.length : Int) = 0 then (if t249 = 1 then (if (t252.length : Int) = 0 then (if t253 = 1 then ((tattlelaw15_awake.f kj30).bind fun t266 => (some t266)) else (none)) else (none)) else (none)) else (none)) = some r := by rw [if_neg (show ¬ (false = true) by decide)] at H; exact H
              clear H
              have H := H1
              clear H1
              by_cases c93 : (t248.length : Int) = 0
              · rw [if_pos c93] at H
                have c93b0 : ((t248.length : Int) == 0) = true := beq_iff_eq.mpr c93
                have c93b1 : ((t248.length : Int) != 0) = false := bne_eq_false_iff_eq.mpr c93
                clear c93
                by_cases c94 : t249 = 1
                · rw [if_pos c94] at H
                  have c94b0 : (t249 == 1) = true := beq_iff_eq.mpr c94
                  have c94b1 : (t249 != 1) = false := bne_eq_false_iff_eq.mpr c94
                  clear c94
                  by_cases c95 : (t252.length : Int) = 0
                  · rw [if_pos c95] at H
                    have c95b0 : ((t252.length : Int) == 0) = true := beq_iff_eq.mpr c95
                    have c95b1 : ((t252.length : Int) != 0) = false := bne_eq_false_iff_eq.mpr c95
                    clear c95
                    by_cases c96 : t253 = 1
                    · rw [if_pos c96] at H
                      have c96b0 : (t253 == 1) = true := beq_iff_eq.mpr c96
                      have c96b1 : (t253 != 1) = false := bne_eq_false_iff_eq.mpr c96
                      clear c96
                      replace H := Option.bind_eq_some_iff.mp H
                      obtain ⟨t266, A970, H⟩ := H
                      replace H : (some t266) = some r := H
                      have A97 := Aside0.mk A970
                      clear A970
                      obtain rfl := Option.some.inj H
                      go_wp2_with (first | ((with_reducible refine gate_callee (f := 17) rfl ?_); refine goesL_ (some 93) rfl rfl Try.func17 (by kernel_rfl) rfl #[.slice Ao20 t241.length co20] rfl (by (try simp only [List.map_toArray, List.map_cons, List.map_nil]); first | done | rfl | (simp only [List.length_drop, List.length_take]; rfl)) ?_; (with_reducible refine (tattleref15_May.calls kj30 _ _ t241 false _ ?side1 ?side2 A59.out).mono ?_); (case side1 => repeat (first | exact (Kd.V_reads' HO_2.out).2.2 | (with_reducible refine Kd.C_alloc ?_ _) | (with_reducible refine Kd.C_drewN ?_ _) | (with_reducible refine Kd.C_drew ?_))); (case side2 => exact (Kd.V_reads' HO_2.out).2.1); rintro e w98 ⟨rfl, hb⟩; refine ⟨_, rfl, ?_⟩; have n0_ := Aside0.mk (Kd.V_below (by (with_reducible repeat (first | apply Kd.V_alloc | apply Kd.V_drewN | apply Kd.V_drew)); exact HO_0.out) hb); have n1_ := Aside0.mk (Kd.V_below (by (with_reducible repeat (first | apply Kd.V_alloc | apply Kd.V_drewN | apply Kd.V_drew)); exact HO_2.out) hb); have n2_ := Aside0.mk (Kd.R_below (by (with_reducible repeat (first | apply Kd.R_alloc | apply Kd.R_drewN | apply Kd.R_drew)); exact HO_9.out) hb); have n3_ := Aside0.mk (Kd.R_below (by (with_reducible repeat (first | apply Kd.R_alloc | apply Kd.R_drewN | apply Kd.R_drew)); exact HO_11.out) hb); have n4_ := Aside0.mk (below_step (by repeat (first | (with_reducible first | exact HB.out | apply below_alloc | apply pw_below_drewN | apply below_drew1) | exact HB.out)) hb); clear HO_0; clear HO_2; clear HO_9; clear HO_11; clear HB; have HO_0 := n0_; have HO_2 := n1_; have HO_9 := n2_; have HO_11 := n3_; have HB := n4_; clear n0_ n1_ n2_ n3_ n4_; (try clear hb); (try clear hb2); (try clear hk); (try clear hi); obtain ⟨Ao99, co99, eo99⟩ := Kd.R_slice HO_9.out; subst eo99; obtain ⟨Ao100, co100, eo100⟩ := Kd.R_slice HO_11.out; subst eo100) | (go_at_call 11; (with_reducible refine (tattlelaw15_awake.calls kj30  t266 _ A97.out).mono ?_); rintro e w101 ⟨rfl, hb⟩; have n0_ := Aside0.mk (Kd.V_below (by (with_reducible repeat (first | apply Kd.V_alloc | apply Kd.V_drewN | apply Kd.V_drew)); exact HO_0.out) hb); have n1_ := Aside0.mk (Kd.V_below (by (with_reducible repeat (first | apply Kd.V_alloc | apply Kd.V_drewN | apply Kd.V_drew)); exact HO_2.out) hb); have n2_ := Aside0.mk (Kd.R_below (by (with_reducible repeat (first | apply Kd.R_alloc | apply Kd.R_drewN | apply Kd.R_drew)); exact HO_9.out) hb); have n3_ := Aside0.mk (Kd.R_below (by (with_reducible repeat (first | apply Kd.R_alloc | apply Kd.R_drewN | apply Kd.R_drew)); exact HO_11.out) hb); have n4_ := Aside0.mk (below_step (by repeat (first | (with_reducible first | exact HB.out | apply below_alloc | apply pw_below_drewN | apply below_drew1) | exact HB.out)) hb); clear HO_0; clear HO_2; clear HO_9; clear HO_11; clear HB; have HO_0 := n0_; have HO_2 := n1_; have HO_9 := n2_; have HO_11 := n3_; have HB := n4_; clear n0_ n1_ n2_ n3_ n4_; (try clear hb); (try clear hb2); (try clear hk); (try clear hi)))
                      go_ret
                      exact ⟨by first | rfl | (simp [errW_none, errW_some] <;> rfl) | (simp [*, errW_none, errW_some] <;> rfl), by repeat (first | (with_reducible first | exact HB.out | apply below_alloc | apply pw_below_drewN | apply below_drew1) | exact HB.out)⟩
                    · rw [if_neg c96] at H
                      exact absurd H (by simp)
                  · rw [if_neg c95] at H
                    exact absurd H (by simp)
                · rw [if_neg c94] at H
                  exact absurd H (by simp)
              · rw [if_neg c93] at H
                exact absurd H (by simp)

end Go.Proofs.Ythbebfjoennmfaa.PPlanTells
