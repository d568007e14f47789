-- Written by a program of this session (see NOTES.md) out of the print of Lean's own loaded functions; Lean checks it.
import Derived.Test.YtldeanlnfhgjfaaPDiskStepsx0
import Derived.Test.YtldeanlnfhgjfaaPDiskStepsx1
import Derived.Test.YtldeanlnfhgjfaaPDiskStepsx5
import Derived.Test.YtldeanlnfhgjfaaPDiskStepsx6
namespace Go.Proofs.Ytldeanlnfhgjfaa.PDiskSteps
open Go.RowKit Go.Proofs.YtldeanlnfhgjfaaW.PrintWords Go.Proofs.YtldeanlnfhgjfaaW.PrintLast Go.Proofs.YtldeanlnfhgjfaaW.PrintMore
attribute [local go_sem] max2_int min2_int max_two min_two max_three min_three max_four min_four   -- for this text's walks alone
set_option linter.unusedVariables false
set_option linter.unusedSimpArgs false

attribute [local go_sem high] eqA23
/-! ### tattlelaw16_DiskSteps: function 6 -/
mutual
def tattlelaw16_DiskSteps.l0 : Nat → List (S26) → List Int → Bool → Int → ByteArray → ByteArray → Int → Int → Int → Int → Int → Option (Bool)
  | 0, _, _, _, _, _, _, _, _, _, _, _ => none
  | k + 1, x0, x1, x7, x8, x225000, x225001, x226000, x226001, x226002, x226003, x226004 => if x8 < (x0.length : Int) then (tattlelaw16_DiskSteps.j1 k x0 x1 x7 x8 (decide (x8 < 20)) x225000 x225001 x226000 x226001 x226002 x226003 x226004) else (tattlelaw16_DiskSteps.j1 k x0 x1 x7 x8 false x225000 x225001 x226000 x226001 x226002 x226003 x226004)
def tattlelaw16_DiskSteps.j1 : Nat → List (S26) → List Int → Bool → Int → Bool → ByteArray → ByteArray → Int → Int → Int → Int → Int → Option (Bool)
  | 0, _, _, _, _, _, _, _, _, _, _, _, _ => none
  | k + 1, x0, x1, x7, x8, x27, x225000, x225001, x226000, x226001, x226002, x226003, x226004 => if x27 = true then (if 0 ≤ x8 then (if x8 < (x0.length : Int) then ((tattleref16_May.f ((rd_T26 x0 x8).f0) ((rd_T26 x0 x8).f1) ((rd_T26 x0 x8).f2) ((rd_T26 x0 x8).f3) ((rd_T26 x0 x8).f4)).bind fun t228 => (if t228 = true then (if x8 < (x1.length : Int) then (tattlelaw16_DiskSteps.j2 k x0 x1 x7 x8 200 (decide ((Int.tmod (rd x1 x8) 3) > 0)) x225000 x225001 x226000 x226001 x226002 x226003 x226004) else (tattlelaw16_DiskSteps.j2 k x0 x1 x7 x8 200 false x225000 x225001 x226000 x226001 x226002 x226003 x226004)) else (tattlelaw16_DiskSteps.l0 k x0 x1 x7 (wrap64 (x8 + 1)) x225000 x225001 x226000 x226001 x226002 x226003 x226004))) else (none)) else (none)) else ((tattlelaw16_awake.f k).bind fun t226 => (some t226))
def tattlelaw16_DiskSteps.j2 : Nat → List (S26) → List Int → Bool → Int → Int → Bool → ByteArray → ByteArray → Int → Int → Int → Int → Int → Option (Bool)
  | 0, _, _, _, _, _, _, _, _, _, _, _, _, _ => none
  | k + 1, x0, x1, x7, x8, x9, x47, x225000, x225001, x226000, x226001, x226002, x226003, x226004 => if x47 = true then (if 0 ≤ x8 then (if x8 < (x1.length : Int) then (tattlelaw16_DiskSteps.j3 k x0 x1 x7 x8 (wrap64 (rd x1 x8)) x225000 x225001 x226000 x226001 x226002 x226003 x226004) else (none)) else (none)) else (tattlelaw16_DiskSteps.j3 k x0 x1 x7 x8 x9 x225000 x225001 x226000 x226001 x226002 x226003 x226004)
def tattlelaw16_DiskSteps.j3 : Nat → List (S26) → List Int → Bool → Int → Int → ByteArray → ByteArray → Int → Int → Int → Int → Int → Option (Bool)
  | 0, _, _, _, _, _, _, _, _, _, _, _, _ => none
  | k + 1, x0, x1, x7, x8, x9, x225000, x225001, x226000, x226001, x226002, x226003, x226004 => if 0 ≤ x8 then (if x8 < (x0.length : Int) then ((disk_Tear.f k x225000 x225001 ((rd_T26 x0 x8).f0) ((rd_T26 x0 x8).f1) ((rd_T26 x0 x8).f2) ((rd_T26 x0 x8).f3) ((rd_T26 x0 x8).f4) x9).bind fun bt232 => ((disk_Write.f k x225000 x225001 ((rd_T26 x0 x8).f0) ((rd_T26 x0 x8).f1) ((rd_T26 x0 x8).f2) ((rd_T26 x0 x8).f3) ((rd_T26 x0 x8).f4)).bind fun bt237 => (if bt232.2.2 = 0 then (tattlelaw16_DiskSteps.j4 k x0 x1 x7 x8 (bt237.2.2 != 0) x225000 x225001 x226000 x226001 x226002 x226003 x226004 bt232.1 bt232.2.1 bt237.1 bt237.2.1) else (tattlelaw16_DiskSteps.j4 k x0 x1 x7 x8 true x225000 x225001 x226000 x226001 x226002 x226003 x226004 bt232.1 bt232.2.1 bt237.1 bt237.2.1)))) else (none)) else (none)
def tattlelaw16_DiskSteps.j4 : Nat → List (S26) → List Int → Bool → Int → Bool → ByteArray → ByteArray → Int → Int → Int → Int → Int → ByteArray → ByteArray → ByteArray → ByteArray → Option (Bool)
  | 0, _, _, _, _, _, _, _, _, _, _, _, _, _, _, _, _ => none
  | k + 1, x0, x1, x7, x8, x77, x225000, x225001, x226000, x226001, x226002, x226003, x226004, x236000, x236001, x241000, x241001 => if x77 = true then (none) else (if (x236000.toList == x241000.toList && (x236001.toList == x241001.toList)) = true then (if 0 ≤ x8 then (if x8 < (x0.length : Int) then (tattlelaw16_DiskSteps.j5 k x0 x1 true x8 x225000 x225001 ((rd_T26 x0 x8).f0) ((rd_T26 x0 x8).f1) ((rd_T26 x0 x8).f2) ((rd_T26 x0 x8).f3) ((rd_T26 x0 x8).f4) x236000 x236001) else (none)) else (none)) else (tattlelaw16_DiskSteps.j5 k x0 x1 x7 x8 x225000 x225001 x226000 x226001 x226002 x226003 x226004 x236000 x236001))
def tattlelaw16_DiskSteps.j5 : Nat → List (S26) → List Int → Bool → Int → ByteArray → ByteArray → Int → Int → Int → Int → Int → ByteArray → ByteArray → Option (Bool)
  | 0, _, _, _, _, _, _, _, _, _, _, _, _, _ => none
  | k + 1, x0, x1, x7, x8, x225000, x225001, x226000, x226001, x226002, x226003, x226004, x236000, x236001 => (disk_Read.f k x225000 x225001).bind fun bt242 => ((disk_Read.f k x236000 x236001).bind fun bt249 => (if ((bt249.2.2.2.2.2 == 0) != x7) = true then (none) else (if bt249.1 < bt242.1 then (none) else (if x7 = true then (if bt249.2.1 = x226001 then (if bt249.2.2.1 = x226002 then (if bt249.2.2.2.1 = x226003 then (if bt249.2.2.2.2.1 = x226004 then (tattlelaw16_DiskSteps.l0 k x0 x1 x7 (wrap64 (x8 + 1)) x236000 x236001 x226000 x226001 x226002 x226003 x226004) else (none)) else (none)) else (none)) else (none)) else (tattlelaw16_DiskSteps.l0 k x0 x1 x7 (wrap64 (x8 + 1)) x236000 x236001 x226000 x226001 x226002 x226003 x226004)))))
end
def tattlelaw16_DiskSteps.f (k : Nat) (l0 : List (S26)) (l1 : List Int) : Option (Bool) := tattlelaw16_DiskSteps.l0 k l0 l1 false 0 (⟨#[]⟩ : ByteArray) (⟨#[]⟩ : ByteArray) 0 0 0 0 0
theorem tattlelaw16_DiskSteps.mono_l : ∀ k, (∀ y0 y1 y2 y3 y4 y5 y6 y7 y8 y9 y10, LeO (tattlelaw16_DiskSteps.l0 k y0 y1 y2 y3 y4 y5 y6 y7 y8 y9 y10) (tattlelaw16_DiskSteps.l0 (k + 1) y0 y1 y2 y3 y4 y5 y6 y7 y8 y9 y10)) ∧ (∀ y0 y1 y2 y3 y4 y5 y6 y7 y8 y9 y10 y11, LeO (tattlelaw16_DiskSteps.j1 k y0 y1 y2 y3 y4 y5 y6 y7 y8 y9 y10 y11) (tattlelaw16_DiskSteps.j1 (k + 1) y0 y1 y2 y3 y4 y5 y6 y7 y8 y9 y10 y11)) ∧ (∀ y0 y1 y2 y3 y4 y5 y6 y7 y8 y9 y10 y11 y12, LeO (tattlelaw16_DiskSteps.j2 k y0 y1 y2 y3 y4 y5 y6 y7 y8 y9 y10 y11 y12) (tattlelaw16_DiskSteps.j2 (k + 1) y0 y1 y2 y3 y4 y5 y6 y7 y8 y9 y10 y11 y12)) ∧ (∀ y0 y1 y2 y3 y4 y5 y6 y7 y8 y9 y10 y11, LeO (tattlelaw16_DiskSteps.j3 k y0 y1 y2 y3 y4 y5 y6 y7 y8 y9 y10 y11) (tattlelaw16_DiskSteps.j3 (k + 1) y0 y1 y2 y3 y4 y5 y6 y7 y8 y9 y10 y11)) ∧ (∀ y0 y1 y2 y3 y4 y5 y6 y7 y8 y9 y10 y11 y12 y13 y14 y15, LeO (tattlelaw16_DiskSteps.j4 k y0 y1 y2 y3 y4 y5 y6 y7 y8 y9 y10 y11 y12 y13 y14 y15) (tattlelaw16_DiskSteps.j4 (k + 1) y0 y1 y2 y3 y4 y5 y6 y7 y8 y9 y10 y11 y12 y13 y14 y15)) ∧ (∀ y0 y1 y2 y3 y4 y5 y6 y7 y8 y9 y10 y11 y12, LeO (tattlelaw16_DiskSteps.j5 k y0 y1 y2 y3 y4 y5 y6 y7 y8 y9 y10 y11 y12) (tattlelaw16_DiskSteps.j5 (k + 1) y0 y1 y2 y3 y4 y5 y6 y7 y8 y9 y10 y11 y12))
  | 0 => ⟨fun _ _ _ _ _ _ _ _ _ _ _ r h => by simp [tattlelaw16_DiskSteps.l0] at h, fun _ _ _ _ _ _ _ _ _ _ _ _ r h => by simp [tattlelaw16_DiskSteps.j1] at h, fun _ _ _ _ _ _ _ _ _ _ _ _ _ r h => by simp [tattlelaw16_DiskSteps.j2] at h, fun _ _ _ _ _ _ _ _ _ _ _ _ r h => by simp [tattlelaw16_DiskSteps.j3] at h, fun _ _ _ _ _ _ _ _ _ _ _ _ _ _ _ _ r h => by simp [tattlelaw16_DiskSteps.j4] at h, fun _ _ _ _ _ _ _ _ _ _ _ _ _ r h => by simp [tattlelaw16_DiskSteps.j5] at h⟩
  | k + 1 => by
    obtain ⟨ih0, ih1, ih2, ih3, ih4, ih5⟩ := tattlelaw16_DiskSteps.mono_l k
    refine ⟨?_, ?_, ?_, ?_, ?_, ?_⟩
    · intro y0 y1 y2 y3 y4 y5 y6 y7 y8 y9 y10
      unfold tattlelaw16_DiskSteps.l0
      repeat' first
      | (with_reducible exact ih0 _ _ _ _ _ _ _ _ _ _ _)
      | (with_reducible exact ih1 _ _ _ _ _ _ _ _ _ _ _ _)
      | (with_reducible exact ih2 _ _ _ _ _ _ _ _ _ _ _ _ _)
      | (with_reducible exact ih3 _ _ _ _ _ _ _ _ _ _ _ _)
      | (with_reducible exact ih4 _ _ _ _ _ _ _ _ _ _ _ _ _ _ _ _)
      | (with_reducible exact ih5 _ _ _ _ _ _ _ _ _ _ _ _ _)
      | (with_reducible exact disk_Read.mono _ _ _)
      | (with_reducible exact disk_Tear.mono _ _ _ _ _ _ _ _ _)
      | (with_reducible exact disk_Write.mono _ _ _ _ _ _ _ _)
      | (with_reducible exact tattlelaw16_awake.mono _)
      | (with_reducible exact LeO.refl _)
      | (with_reducible exact LeO.none _)
      | (with_reducible refine LeO.ite ?_ ?_)
      | (with_reducible refine LeO.bind ?_ (fun _ => ?_))
      | exact ih0 _ _ _ _ _ _ _ _ _ _ _
      | exact ih1 _ _ _ _ _ _ _ _ _ _ _ _
      | exact ih2 _ _ _ _ _ _ _ _ _ _ _ _ _
      | exact ih3 _ _ _ _ _ _ _ _ _ _ _ _
      | exact ih4 _ _ _ _ _ _ _ _ _ _ _ _ _ _ _ _
      | exact ih5 _ _ _ _ _ _ _ _ _ _ _ _ _
      | exact disk_Read.mono _ _ _
      | exact disk_Tear.mono _ _ _ _ _ _ _ _ _
      | exact disk_Write.mono _ _ _ _ _ _ _ _
      | exact tattlelaw16_awake.mono _
      | exact LeO.none _
      | refine LeO.ite ?_ ?_
      | refine LeO.bind ?_ (fun _ => ?_)
    · intro y0 y1 y2 y3 y4 y5 y6 y7 y8 y9 y10 y11
      unfold tattlelaw16_DiskSteps.j1
      repeat' first
      | (with_reducible exact ih0 _ _ _ _ _ _ _ _ _ _ _)
      | (with_reducible exact ih1 _ _ _ _ _ _ _ _ _ _ _ _)
      | (with_reducible exact ih2 _ _ _ _ _ _ _ _ _ _ _ _ _)
      | (with_reducible exact ih3 _ _ _ _ _ _ _ _ _ _ _ _)
      | (with_reducible exact ih4 _ _ _ _ _ _ _ _ _ _ _ _ _ _ _ _)
      | (with_reducible exact ih5 _ _ _ _ _ _ _ _ _ _ _ _ _)
      | (with_reducible exact disk_Read.mono _ _ _)
      | (with_reducible exact disk_Tear.mono _ _ _ _ _ _ _ _ _)
      | (with_reducible exact disk_Write.mono _ _ _ _ _ _ _ _)
      | (with_reducible exact tattlelaw16_awake.mono _)
      | (with_reducible exact LeO.refl _)
      | (with_reducible exact LeO.none _)
      | (with_reducible refine LeO.ite ?_ ?_)
      | (with_reducible refine LeO.bind ?_ (fun _ => ?_))
      | exact ih0 _ _ _ _ _ _ _ _ _ _ _
      | exact ih1 _ _ _ _ _ _ _ _ _ _ _ _
      | exact ih2 _ _ _ _ _ _ _ _ _ _ _ _ _
      | exact ih3 _ _ _ _ _ _ _ _ _ _ _ _
      | exact ih4 _ _ _ _ _ _ _ _ _ _ _ _ _ _ _ _
      | exact ih5 _ _ _ _ _ _ _ _ _ _ _ _ _
      | exact disk_Read.mono _ _ _
      | exact disk_Tear.mono _ _ _ _ _ _ _ _ _
      | exact disk_Write.mono _ _ _ _ _ _ _ _
      | exact tattlelaw16_awake.mono _
      | exact LeO.none _
      | refine LeO.ite ?_ ?_
      | refine LeO.bind ?_ (fun _ => ?_)
    · intro y0 y1 y2 y3 y4 y5 y6 y7 y8 y9 y10 y11 y12
      unfold tattlelaw16_DiskSteps.j2
      repeat' first
      | (with_reducible exact ih0 _ _ _ _ _ _ _ _ _ _ _)
      | (with_reducible exact ih1 _ _ _ _ _ _ _ _ _ _ _ _)
      | (with_reducible exact ih2 _ _ _ _ _ _ _ _ _ _ _ _ _)
      | (with_reducible exact ih3 _ _ _ _ _ _ _ _ _ _ _ _)
      | (with_reducible exact ih4 _ _ _ _ _ _ _ _ _ _ _ _ _ _ _ _)
      | (with_reducible exact ih5 _ _ _ _ _ _ _ _ _ _ _ _ _)
      | (with_reducible exact disk_Read.mono _ _ _)
      | (with_reducible exact disk_Tear.mono _ _ _ _ _ _ _ _ _)
      | (with_reducible exact disk_Write.mono _ _ _ _ _ _ _ _)
      | (with_reducible exact tattlelaw16_awake.mono _)
      | (with_reducible exact LeO.refl _)
      | (with_reducible exact LeO.none _)
      | (with_reducible refine LeO.ite ?_ ?_)
      | (with_reducible refine LeO.bind ?_ (fun _ => ?_))
      | exact ih0 _ _ _ _ _ _ _ _ _ _ _
      | exact ih1 _ _ _ _ _ _ _ _ _ _ _ _
      | exact ih2 _ _ _ _ _ _ _ _ _ _ _ _ _
      | exact ih3 _ _ _ _ _ _ _ _ _ _ _ _
      | exact ih4 _ _ _ _ _ _ _ _ _ _ _ _ _ _ _ _
      | exact ih5 _ _ _ _ _ _ _ _ _ _ _ _ _
      | exact disk_Read.mono _ _ _
      | exact disk_Tear.mono _ _ _ _ _ _ _ _ _
      | exact disk_Write.mono _ _ _ _ _ _ _ _
      | exact tattlelaw16_awake.mono _
      | exact LeO.none _
      | refine LeO.ite ?_ ?_
      | refine LeO.bind ?_ (fun _ => ?_)
    · intro y0 y1 y2 y3 y4 y5 y6 y7 y8 y9 y10 y11
      unfold tattlelaw16_DiskSteps.j3
      repeat' first
      | (with_reducible exact ih0 _ _ _ _ _ _ _ _ _ _ _)
      | (with_reducible exact ih1 _ _ _ _ _ _ _ _ _ _ _ _)
      | (with_reducible exact ih2 _ _ _ _ _ _ _ _ _ _ _ _ _)
      | (with_reducible exact ih3 _ _ _ _ _ _ _ _ _ _ _ _)
      | (with_reducible exact ih4 _ _ _ _ _ _ _ _ _ _ _ _ _ _ _ _)
      | (with_reducible exact ih5 _ _ _ _ _ _ _ _ _ _ _ _ _)
      | (with_reducible exact disk_Read.mono _ _ _)
      | (with_reducible exact disk_Tear.mono _ _ _ _ _ _ _ _ _)
      | (with_reducible exact disk_Write.mono _ _ _ _ _ _ _ _)
      | (with_reducible exact tattlelaw16_awake.mono _)
      | (with_reducible exact LeO.refl _)
      | (with_reducible exact LeO.none _)
      | (with_reducible refine LeO.ite ?_ ?_)
      | (with_reducible refine LeO.bind ?_ (fun _ => ?_))
      | exact ih0 _ _ _ _ _ _ _ _ _ _ _
      | exact ih1 _ _ _ _ _ _ _ _ _ _ _ _
      | exact ih2 _ _ _ _ _ _ _ _ _ _ _ _ _
      | exact ih3 _ _ _ _ _ _ _ _ _ _ _ _
      | exact ih4 _ _ _ _ _ _ _ _ _ _ _ _ _ _ _ _
      | exact ih5 _ _ _ _ _ _ _ _ _ _ _ _ _
      | exact disk_Read.mono _ _ _
      | exact disk_Tear.mono _ _ _ _ _ _ _ _ _
      | exact disk_Write.mono _ _ _ _ _ _ _ _
      | exact tattlelaw16_awake.mono _
      | exact LeO.none _
      | refine LeO.ite ?_ ?_
      | refine LeO.bind ?_ (fun _ => ?_)
    · intro y0 y1 y2 y3 y4 y5 y6 y7 y8 y9 y10 y11 y12 y13 y14 y15
      unfold tattlelaw16_DiskSteps.j4
      repeat' first
      | (with_reducible exact ih0 _ _ _ _ _ _ _ _ _ _ _)
      | (with_reducible exact ih1 _ _ _ _ _ _ _ _ _ _ _ _)
      | (with_reducible exact ih2 _ _ _ _ _ _ _ _ _ _ _ _ _)
      | (with_reducible exact ih3 _ _ _ _ _ _ _ _ _ _ _ _)
      | (with_reducible exact ih4 _ _ _ _ _ _ _ _ _ _ _ _ _ _ _ _)
      | (with_reducible exact ih5 _ _ _ _ _ _ _ _ _ _ _ _ _)
      | (with_reducible exact disk_Read.mono _ _ _)
      | (with_reducible exact disk_Tear.mono _ _ _ _ _ _ _ _ _)
      | (with_reducible exact disk_Write.mono _ _ _ _ _ _ _ _)
      | (with_reducible exact tattlelaw16_awake.mono _)
      | (with_reducible exact LeO.refl _)
      | (with_reducible exact LeO.none _)
      | (with_reducible refine LeO.ite ?_ ?_)
      | (with_reducible refine LeO.bind ?_ (fun _ => ?_))
      | exact ih0 _ _ _ _ _ _ _ _ _ _ _
      | exact ih1 _ _ _ _ _ _ _ _ _ _ _ _
      | exact ih2 _ _ _ _ _ _ _ _ _ _ _ _ _
      | exact ih3 _ _ _ _ _ _ _ _ _ _ _ _
      | exact ih4 _ _ _ _ _ _ _ _ _ _ _ _ _ _ _ _
      | exact ih5 _ _ _ _ _ _ _ _ _ _ _ _ _
      | exact disk_Read.mono _ _ _
      | exact disk_Tear.mono _ _ _ _ _ _ _ _ _
      | exact disk_Write.mono _ _ _ _ _ _ _ _
      | exact tattlelaw16_awake.mono _
      | exact LeO.none _
      | refine LeO.ite ?_ ?_
      | refine LeO.bind ?_ (fun _ => ?_)
    · intro y0 y1 y2 y3 y4 y5 y6 y7 y8 y9 y10 y11 y12
      unfold tattlelaw16_DiskSteps.j5
      repeat' first
      | (with_reducible exact ih0 _ _ _ _ _ _ _ _ _ _ _)
      | (with_reducible exact ih1 _ _ _ _ _ _ _ _ _ _ _ _)
      | (with_reducible exact ih2 _ _ _ _ _ _ _ _ _ _ _ _ _)
      | (with_reducible exact ih3 _ _ _ _ _ _ _ _ _ _ _ _)
      | (with_reducible exact ih4 _ _ _ _ _ _ _ _ _ _ _ _ _ _ _ _)
      | (with_reducible exact ih5 _ _ _ _ _ _ _ _ _ _ _ _ _)
      | (with_reducible exact disk_Read.mono _ _ _)
      | (with_reducible exact disk_Tear.mono _ _ _ _ _ _ _ _ _)
      | (with_reducible exact disk_Write.mono _ _ _ _ _ _ _ _)
      | (with_reducible exact tattlelaw16_awake.mono _)
      | (with_reducible exact LeO.refl _)
      | (with_reducible exact LeO.none _)
      | (with_reducible refine LeO.ite ?_ ?_)
      | (with_reducible refine LeO.bind ?_ (fun _ => ?_))
      | exact ih0 _ _ _ _ _ _ _ _ _ _ _
      | exact ih1 _ _ _ _ _ _ _ _ _ _ _ _
      | exact ih2 _ _ _ _ _ _ _ _ _ _ _ _ _
      | exact ih3 _ _ _ _ _ _ _ _ _ _ _ _
      | exact ih4 _ _ _ _ _ _ _ _ _ _ _ _ _ _ _ _
      | exact ih5 _ _ _ _ _ _ _ _ _ _ _ _ _
      | exact disk_Read.mono _ _ _
      | exact disk_Tear.mono _ _ _ _ _ _ _ _ _
      | exact disk_Write.mono _ _ _ _ _ _ _ _
      | exact tattlelaw16_awake.mono _
      | exact LeO.none _
      | refine LeO.ite ?_ ?_
      | refine LeO.bind ?_ (fun _ => ?_)
theorem tattlelaw16_DiskSteps.mono : ∀ a0 a1 k, LeO (tattlelaw16_DiskSteps.f k a0 a1) (tattlelaw16_DiskSteps.f (k + 1) a0 a1) := by
  intro a0 a1 k
  obtain ⟨ih0, ih1, ih2, ih3, ih4, ih5⟩ := tattlelaw16_DiskSteps.mono_l k
  unfold tattlelaw16_DiskSteps.f
  repeat' first
      | (with_reducible exact ih0 _ _ _ _ _ _ _ _ _ _ _)
      | (with_reducible exact ih1 _ _ _ _ _ _ _ _ _ _ _ _)
      | (with_reducible exact ih2 _ _ _ _ _ _ _ _ _ _ _ _ _)
      | (with_reducible exact ih3 _ _ _ _ _ _ _ _ _ _ _ _)
      | (with_reducible exact ih4 _ _ _ _ _ _ _ _ _ _ _ _ _ _ _ _)
      | (with_reducible exact ih5 _ _ _ _ _ _ _ _ _ _ _ _ _)
      | (with_reducible exact disk_Read.mono _ _ _)
      | (with_reducible exact disk_Tear.mono _ _ _ _ _ _ _ _ _)
      | (with_reducible exact disk_Write.mono _ _ _ _ _ _ _ _)
      | (with_reducible exact tattlelaw16_awake.mono _)
      | (with_reducible exact LeO.refl _)
      | (with_reducible exact LeO.none _)
      | (with_reducible refine LeO.ite ?_ ?_)
      | (with_reducible refine LeO.bind ?_ (fun _ => ?_))
      | exact ih0 _ _ _ _ _ _ _ _ _ _ _
      | exact ih1 _ _ _ _ _ _ _ _ _ _ _ _
      | exact ih2 _ _ _ _ _ _ _ _ _ _ _ _ _
      | exact ih3 _ _ _ _ _ _ _ _ _ _ _ _
      | exact ih4 _ _ _ _ _ _ _ _ _ _ _ _ _ _ _ _
      | exact ih5 _ _ _ _ _ _ _ _ _ _ _ _ _
      | exact disk_Read.mono _ _ _
      | exact disk_Tear.mono _ _ _ _ _ _ _ _ _
      | exact disk_Write.mono _ _ _ _ _ _ _ _
      | exact tattlelaw16_awake.mono _
      | exact LeO.none _
      | refine LeO.ite ?_ ?_
      | refine LeO.bind ?_ (fun _ => ?_)
def tattlelaw16_DiskSteps.T10 : Bool × List (List Nat × List Nat) := (true, [([], []), ([], []), ([], []), ([1, 2], [1, 2]), ([3], [3]), ([], []), ([0, 4, 5], [0, 4, 5]), ([6], [6]), ([7], [7]), ([7], [7]), ([], []), ([10, 8, 6, 0, 1, 2, 3, 4, 5, 6, 7, 8, 10], [8, 10]), ([9, 11, 0, 1, 2, 3, 4, 5, 6, 7, 8, 9, 10, 11], [9])])
def tattlelaw16_DiskSteps.B10 : List Nat := [0, 0, 0, 6, 14, 0, 63, 127, 255, 255, 0, 1535, 4095]
theorem tattlelaw16_DiskSteps.tab10 : rtab .any (opsOf Try.f6 10) = tattlelaw16_DiskSteps.T10 := by kernel_rfl
theorem tattlelaw16_DiskSteps.bits10 : waitsOk tattlelaw16_DiskSteps.T10.2 tattlelaw16_DiskSteps.B10 = true := by kernel_rfl
def tattlelaw16_DiskSteps.T11 : Bool × List (List Nat × List Nat) := (true, [([], []), ([], []), ([], []), ([1, 2], [1, 2]), ([3], [3]), ([0, 4], [0, 4]), ([5], [5]), ([6], [6]), ([6], [6]), ([], []), ([9, 7, 5, 0, 1, 2, 3, 4, 5, 6, 7, 9], [7, 9]), ([8, 10, 0, 1, 2, 3, 4, 5, 6, 7, 8, 9, 10], [8])])
def tattlelaw16_DiskSteps.B11 : List Nat := [0, 0, 0, 6, 14, 31, 63, 127, 127, 0, 767, 2047]
theorem tattlelaw16_DiskSteps.tab11 : rtab .any (opsOf Try.f6 11) = tattlelaw16_DiskSteps.T11 := by kernel_rfl
theorem tattlelaw16_DiskSteps.bits11 : waitsOk tattlelaw16_DiskSteps.T11.2 tattlelaw16_DiskSteps.B11 = true := by kernel_rfl
set_option maxHeartbeats 8000000 in
set_option maxRecDepth 100000 in
theorem tattlelaw16_DiskSteps.calls (k : Nat) (A0 : Option Addr) (c0 : Nat) (l0 : List (S26)) (A1 : Option Addr) (c1 : Nat) (l1 : List Int) (r : Bool) (w : World) (hr0 : Kd.C k26 w A0 l0.length l0) (hc0 : l0.length ≤ c0) (hr1 : Kd.C (Kd.int .u8) w A1 l1.length l1) (hc1 : l1.length ≤ c1) (h : tattlelaw16_DiskSteps.f k l0 l1 = some r) :
    Calls Try.prog 6 #[.slice A0 l0.length c0, .slice A1 l1.length c1] w fun e w' => e = .returned (.bool r) ∧ Below w.heap.size w w' := by
  have hu23 := Try.underlying23
  have hu26 := Try.underlying26
  have HR0 := Aside0.mk hr0
  have HC0 := Aside0.mk hc0
  clear hr0 hc0
  have HR1 := Aside0.mk hr1
  have HC1 := Aside0.mk hc1
  clear hr1 hc1
  have HB := Aside0.mk (Below.refl w.heap.size w)
  have H : (tattlelaw16_DiskSteps.l0 k l0 l1 false 0 (⟨#[]⟩ : ByteArray) (⟨#[]⟩ : ByteArray) 0 0 0 0 0) = some r := h
  clear h
  have H' := Aside0.mk H
  clear H
  go_enter Try.func6, Try.ntmps6
  go_wp2_with (first | ((with_reducible refine gate_dst (N := 5) rfl ?_); refine box_event ?hg (N := 5) ?hd (cs := #[.string (⟨#[]⟩ : ByteArray), .string (⟨#[]⟩ : ByteArray)]) (t := 23) ?hr ?_; (case hd => rfl); (case hg => rfl); (case hr => first | (go_simp; done) | (go_simp; rfl)); intro gb224 hg w3 hbox hb; have n0_ := Aside0.mk (below_step (by repeat (first | (with_reducible first | exact HB.out | apply below_alloc | apply pw_below_drewN | apply below_drew1) | exact HB.out)) hb); have n1_ := Aside0.mk (hbox); have n2_ := Aside0.mk ((by rw [hg]; exact (below_size (by repeat (first | (with_reducible first | exact HB.out | apply below_alloc | apply pw_below_drewN | apply below_drew1) | exact HB.out))) : w.heap.size ≤ gb224)); have n3_ := Aside0.mk ((by rw [hg]; exact (below_size (by repeat (first | (with_reducible first | exact HB.out | apply below_alloc | apply pw_below_drewN | apply below_drew1) | exact HB.out))) : w.heap.size ≤ gb224)); clear HB; have HB := n0_; have BK224 := n1_; have GW224 := n2_; have GE224 := n3_; clear n0_ n1_ n2_ n3_; clear hb hbox hg; have hcz4_0 : w3.cell? ⟨gb224, 0, none⟩ = some (.string (⟨#[]⟩ : ByteArray)) := (blk_cell BK224.out 0).trans rfl; have hcz4_1 : w3.cell? ⟨gb224, 1, none⟩ = some (.string (⟨#[]⟩ : ByteArray)) := (blk_cell BK224.out 1).trans rfl; have hfz4_0 := blk_frozen BK224.out 0; have hfz4_1 := blk_frozen BK224.out 1) | ((with_reducible refine gate_dst (N := 6) rfl ?_); refine box_event ?hg (N := 6) ?hd (cs := #[.int .u64 0, .int .u64 0, .int .u64 0, .int .u64 0, .int .i64 0]) (t := 26) ?hr ?_; (case hd => rfl); (case hg => rfl); (case hr => first | (go_simp; done) | (go_simp; rfl)); intro gb225 hg w5 hbox hb; have n0_ := Aside0.mk (blk_below (g := gb224) (o := .cells #[.string (⟨#[]⟩ : ByteArray), .string (⟨#[]⟩ : ByteArray)] 23 (0, 0)) (by (with_reducible repeat (first | refine blk_drewN ?_ _ | refine blk_drew ?_ | refine blk_alloc ?_ _)); refine blk_put (cs := #[.string (⟨#[]⟩ : ByteArray), .string (⟨#[]⟩ : ByteArray)]) ?_ 1 _ rfl; (with_reducible repeat (first | refine blk_drewN ?_ _ | refine blk_drew ?_ | refine blk_alloc ?_ _)); refine blk_put (cs := #[.string (⟨#[]⟩ : ByteArray), .string (⟨#[]⟩ : ByteArray)]) ?_ 0 _ rfl; (with_reducible repeat (first | refine blk_drewN ?_ _ | refine blk_drew ?_ | refine blk_alloc ?_ _)); exact BK224.out) hb); have n1_ := Aside0.mk (below_step (by repeat (first | (with_reducible first | exact HB.out | apply below_alloc | apply pw_below_drewN | apply below_drew1 | refine below_set ?_ GE224.out) | exact HB.out)) hb); have n2_ := Aside0.mk (hbox); have n3_ := Aside0.mk ((by rw [hg]; exact (below_size (by repeat (first | (with_reducible first | exact HB.out | apply below_alloc | apply pw_below_drewN | apply below_drew1 | refine below_set ?_ GE224.out) | exact HB.out))) : w.heap.size ≤ gb225)); have n4_ := Aside0.mk ((by rw [hg]; exact (below_size (by repeat (first | (with_reducible first | exact HB.out | apply below_alloc | apply pw_below_drewN | apply below_drew1 | refine below_set ?_ GE224.out) | exact HB.out))) : w.heap.size ≤ gb225)); have n5_ := Aside0.mk ((by rw [hg]; exact Nat.ne_of_lt (blk_lt (g := gb224) (o := .cells #[.string (⟨#[]⟩ : ByteArray), .string (⟨#[]⟩ : ByteArray)] 23 (0, 0)) (by (with_reducible repeat (first | refine blk_drewN ?_ _ | refine blk_drew ?_ | refine blk_alloc ?_ _)); refine blk_put (cs := #[.string (⟨#[]⟩ : ByteArray), .string (⟨#[]⟩ : ByteArray)]) ?_ 1 _ rfl; (with_reducible repeat (first | refine blk_drewN ?_ _ | refine blk_drew ?_ | refine blk_alloc ?_ _)); refine blk_put (cs := #[.string (⟨#[]⟩ : ByteArray), .string (⟨#[]⟩ : ByteArray)]) ?_ 0 _ rfl; (with_reducible repeat (first | refine blk_drewN ?_ _ | refine blk_drew ?_ | refine blk_alloc ?_ _)); exact BK224.out)) : gb224 ≠ gb225)); have n6_ := Aside0.mk ((by rw [hg]; exact Nat.ne_of_gt (blk_lt (g := gb224) (o := .cells #[.string (⟨#[]⟩ : ByteArray), .string (⟨#[]⟩ : ByteArray)] 23 (0, 0)) (by (with_reducible repeat (first | refine blk_drewN ?_ _ | refine blk_drew ?_ | refine blk_alloc ?_ _)); refine blk_put (cs := #[.string (⟨#[]⟩ : ByteArray), .string (⟨#[]⟩ : ByteArray)]) ?_ 1 _ rfl; (with_reducible repeat (first | refine blk_drewN ?_ _ | refine blk_drew ?_ | refine blk_alloc ?_ _)); refine blk_put (cs := #[.string (⟨#[]⟩ : ByteArray), .string (⟨#[]⟩ : ByteArray)]) ?_ 0 _ rfl; (with_reducible repeat (first | refine blk_drewN ?_ _ | refine blk_drew ?_ | refine blk_alloc ?_ _)); exact BK224.out)) : gb225 ≠ gb224)); clear BK224; clear HB; have BK224 := n0_; have HB := n1_; have BK225 := n2_; have GW225 := n3_; have GE225 := n4_; have NB224_225 := n5_; have NB225_224 := n6_; clear n0_ n1_ n2_ n3_ n4_ n5_ n6_; clear hb hbox hg; have hnb6 := NB225_224.out; have hnc6 := NB224_225.out; have hcz7_0 : w5.cell? ⟨gb225, 0, none⟩ = some (.int .u64 0) := (blk_cell BK225.out 0).trans rfl; have hcz7_1 : w5.cell? ⟨gb225, 1, none⟩ = some (.int .u64 0) := (blk_cell BK225.out 1).trans rfl; have hcz7_2 : w5.cell? ⟨gb225, 2, none⟩ = some (.int .u64 0) := (blk_cell BK225.out 2).trans rfl; have hcz7_3 : w5.cell? ⟨gb225, 3, none⟩ = some (.int .u64 0) := (blk_cell BK225.out 3).trans rfl; have hcz7_4 : w5.cell? ⟨gb225, 4, none⟩ = some (.int .i64 0) := (blk_cell BK225.out 4).trans rfl; have hfz7_0 := blk_frozen BK225.out 0; have hfz7_1 := blk_frozen BK225.out 1; have hfz7_2 := blk_frozen BK225.out 2; have hfz7_3 := blk_frozen BK225.out 3; have hfz7_4 := blk_frozen BK225.out 4))
  go_loopg [7, 8] k (fun kq v7 v8 w' => ∃ (x7_1 : Bool) (x8_1 : Int) (x225000_1 : ByteArray) (x225001_1 : ByteArray) (x226000_1 : Int) (x226001_1 : Int) (x226002_1 : Int) (x226003_1 : Int) (x226004_1 : Int), v7 = .bool x7_1 ∧ v8 = .int .i64 x8_1 ∧ Aside0 (tattlelaw16_DiskSteps.l0 kq l0 l1 x7_1 x8_1 x225000_1 x225001_1 x226000_1 x226001_1 x226002_1 x226003_1 x226004_1 = some r) ∧ Aside0 (kq ≤ k) ∧ Aside0 (w'.heap[gb224]? = some (.cells #[.string x225000_1, .string x225001_1] 23 (0, 0))) ∧ Aside0 (w'.heap[gb225]? = some (.cells #[.int .u64 x226000_1, .int .u64 x226001_1, .int .u64 x226002_1, .int .u64 x226003_1, .int .i64 x226004_1] 26 (0, 0))) ∧ Aside0 (Below w.heap.size w w'))
  case atStart => exact ⟨(false), (0), ((⟨#[]⟩ : ByteArray)), ((⟨#[]⟩ : ByteArray)), (0), (0), (0), (0), (0), (by first | rfl | (simp; done) | (simp [*]; done)), (by first | rfl | (simp; done) | (simp [*]; done)), H', ⟨Nat.le_refl _⟩, ⟨by (with_reducible repeat (first | refine blk_drewN ?_ _ | refine blk_drew ?_ | refine blk_alloc ?_ _)); refine blk_far ?_ NB224_225.out _; (with_reducible repeat (first | refine blk_drewN ?_ _ | refine blk_drew ?_ | refine blk_alloc ?_ _)); refine blk_far ?_ NB224_225.out _; (with_reducible repeat (first | refine blk_drewN ?_ _ | refine blk_drew ?_ | refine blk_alloc ?_ _)); refine blk_far ?_ NB224_225.out _; (with_reducible repeat (first | refine blk_drewN ?_ _ | refine blk_drew ?_ | refine blk_alloc ?_ _)); refine blk_far ?_ NB224_225.out _; (with_reducible repeat (first | refine blk_drewN ?_ _ | refine blk_drew ?_ | refine blk_alloc ?_ _)); refine blk_far ?_ NB224_225.out _; (with_reducible repeat (first | refine blk_drewN ?_ _ | refine blk_drew ?_ | refine blk_alloc ?_ _)); exact BK224.out⟩, ⟨by (with_reducible repeat (first | refine blk_drewN ?_ _ | refine blk_drew ?_ | refine blk_alloc ?_ _)); refine blk_put (cs := #[.int .u64 0, .int .u64 0, .int .u64 0, .int .u64 0, .int .i64 0]) ?_ 4 _ rfl; (with_reducible repeat (first | refine blk_drewN ?_ _ | refine blk_drew ?_ | refine blk_alloc ?_ _)); refine blk_put (cs := #[.int .u64 0, .int .u64 0, .int .u64 0, .int .u64 0, .int .i64 0]) ?_ 3 _ rfl; (with_reducible repeat (first | refine blk_drewN ?_ _ | refine blk_drew ?_ | refine blk_alloc ?_ _)); refine blk_put (cs := #[.int .u64 0, .int .u64 0, .int .u64 0, .int .u64 0, .int .i64 0]) ?_ 2 _ rfl; (with_reducible repeat (first | refine blk_drewN ?_ _ | refine blk_drew ?_ | refine blk_alloc ?_ _)); refine blk_put (cs := #[.int .u64 0, .int .u64 0, .int .u64 0, .int .u64 0, .int .i64 0]) ?_ 1 _ rfl; (with_reducible repeat (first | refine blk_drewN ?_ _ | refine blk_drew ?_ | refine blk_alloc ?_ _)); refine blk_put (cs := #[.int .u64 0, .int .u64 0, .int .u64 0, .int .u64 0, .int .i64 0]) ?_ 0 _ rfl; (with_reducible repeat (first | refine blk_drewN ?_ _ | refine blk_drew ?_ | refine blk_alloc ?_ _)); exact BK225.out⟩, ⟨by repeat (first | (with_reducible first | exact HB.out | apply below_alloc | apply pw_below_drewN | apply below_drew1 | refine below_set ?_ GE224.out | refine below_set ?_ GE225.out) | exact HB.out)⟩⟩
  case round =>
    clear H'
    try clear c1
    try clear p2
    try clear c6
    try clear hcz4_0
    try clear hcz4_1
    try clear hcz7_0
    try clear hcz7_1
    try clear hcz7_2
    try clear hcz7_3
    try clear hcz7_4
    try clear hfz4_0
    try clear hfz4_1
    try clear hfz7_0
    try clear hfz7_1
    try clear hfz7_2
    try clear hfz7_3
    try clear hfz7_4
    obtain ⟨x7_1, x8_1, x225000_1, x225001_1, x226000_1, x226001_1, x226002_1, x226003_1, x226004_1, rfl, rfl, HA, HK1, BK224, BK225, HB⟩ := hrel
    cases gk with
    | zero => exact absurd HA.out (by simp [tattlelaw16_DiskSteps.l0])
    | succ k1 =>
      have H := HA.out
      clear HA
      simp only [tattlelaw16_DiskSteps.l0] at H
      have HC8 := Aside0.mk H
      clear H
      go_upto_region 4 with (fail)
      go_cut [27] (fun v27 wc => ∃ (kq : Nat) (x27_7 : Bool), v27 = .bool x27_7 ∧ Aside0 (tattlelaw16_DiskSteps.j1 kq l0 l1 x7_1 x8_1 x27_7 x225000_1 x225001_1 x226000_1 x226001_1 x226002_1 x226003_1 x226004_1 = some r) ∧ Aside0 (kq ≤ k1) ∧ Aside0 (wc.heap[gb224]? = some (.cells #[.string x225000_1, .string x225001_1] 23 (0, 0))) ∧ Aside0 (wc.heap[gb225]? = some (.cells #[.int .u64 x226000_1, .int .u64 x226001_1, .int .u64 x226002_1, .int .u64 x226003_1, .int .i64 x226004_1] 26 (0, 0))) ∧ Aside0 (Below w.heap.size w wc))
      case first =>
        have H := HC8.out
        clear HC8
        by_cases c9 : x8_1 < (l0.length : Int)
        · rw [if_pos c9] at H
          have c9b0 : decide (x8_1 < (l0.length : Int)) = true := decide_eq_true c9
          clear c9
          (first | rw [c9b0] | (simp only [i64_w, i32_w]; rw [c9b0]) | skip)
          have H' := Aside0.mk H
          clear H
          go_wp2
          go_meet
          case rel => exact ⟨_, (decide (x8_1 < 20)), (by first | rfl | (simp; done) | (simp [*]; done)), H', ⟨by have := HK1.out; first | omega | exact Nat.le_refl _⟩, ⟨by (with_reducible repeat (first | refine blk_drewN ?_ _ | refine blk_drew ?_ | refine blk_alloc ?_ _)); exact BK224.out⟩, ⟨by (with_reducible repeat (first | refine blk_drewN ?_ _ | refine blk_drew ?_ | refine blk_alloc ?_ _)); exact BK225.out⟩, ⟨by repeat (first | (with_reducible first | exact HB.out | apply below_alloc | apply pw_below_drewN | apply below_drew1 | refine below_set ?_ GE224.out | refine below_set ?_ GE225.out) | exact HB.out)⟩⟩
        · rw [if_neg c9] at H
          have c9b0 : decide (x8_1 < (l0.length : Int)) = false := decide_eq_false c9
          clear c9
          (first | rw [c9b0] | (simp only [i64_w, i32_w]; rw [c9b0]) | skip)
          have H' := Aside0.mk H
          clear H
          go_wp2
          go_meet
          case rel => exact ⟨_, (false), (by first | rfl | (simp; done) | (simp [*]; done)), H', ⟨by have := HK1.out; first | omega | exact Nat.le_refl _⟩, ⟨by (with_reducible repeat (first | refine blk_drewN ?_ _ | refine blk_drew ?_ | refine blk_alloc ?_ _)); exact BK224.out⟩, ⟨by (with_reducible repeat (first | refine blk_drewN ?_ _ | refine blk_drew ?_ | refine blk_alloc ?_ _)); exact BK225.out⟩, ⟨by repeat (first | (with_reducible first | exact HB.out | apply below_alloc | apply pw_below_drewN | apply below_drew1 | refine below_set ?_ GE224.out | refine below_set ?_ GE225.out) | exact HB.out)⟩⟩
      case rest =>
        clear HC8
        try clear c1
        try clear p2
        try clear c6
        try clear c9
        try clear c9b0
        try clear hcz4_0
        try clear hcz4_1
        try clear hcz7_0
        try clear hcz7_1
        try clear hcz7_2
        try clear hcz7_3
        try clear hcz7_4
        try clear hfz4_0
        try clear hfz4_1
        try clear hfz7_0
        try clear hfz7_1
        try clear hfz7_2
        try clear hfz7_3
        try clear hfz7_4
        try clear p2
        obtain ⟨kq, x27_7, rfl, HA, HJ7, BK224, BK225, HB⟩ := hcut
        cases kq with
        | zero => exact absurd HA.out (by simp [tattlelaw16_DiskSteps.j1])
        | succ kj7 =>
          have H := HA.out
          clear HA
          simp only [tattlelaw16_DiskSteps.j1] at H
          by_cases c10 : x27_7 = true
          · subst c10
            have H1 : (if 0 ≤ x8_1 then (if x8_1 < (l0.length : Int) then ((tattleref16_May.f ((rd_T26 l0 x8_1).f0) ((rd_T26 l0 x8_1).f1) ((rd_T26 l0 x8_1).f2) ((rd_T26 l0 x8_1).f3) ((rd_T26 l0 x8_1).f4)).bind fun t228 => (if t228 = true then (if x8_1 < (l1.length : Int) then (tattlelaw16_DiskSteps.j2 kj7 l0 l1 x7_1 x8_1 200 (decide ((Int.tmod (rd l1 x8_1) 3) > 0)) x225000_1 x225001_1 x226000_1 x226001_1 x226002_1 x226003_1 x226004_1) else (tattlelaw16_DiskSteps.j2 kj7 l0 l1 x7_1 x8_1 200 false x225000_1 x225001_1 x226000_1 x226001_1 x226002_1 x226003_1 x226004_1)) else (tattlelaw16_DiskSteps.l0 kj7 l0 l1 x7_1 (wrap64 (x8_1 + 1)) x225000_1 x225001_1 x226000_1 x226001_1 x226002_1 x226003_1 x226004_1))) else (none)) else (none)) = some r := by rw [if_pos rfl] at H; exact H
            clear H
            have H := H1
            clear H1
            by_cases c11 : 0 ≤ x8_1
            · rw [if_pos c11] at H
              have c11b0 : decide (0 ≤ x8_1) = true := decide_eq_true c11
              clear c11
              by_cases c12 : x8_1 < (l0.length : Int)
              · rw [if_pos c12] at H
                have c12b0 : decide (x8_1 < (l0.length : Int)) = true := decide_eq_true c12
                clear c12
                replace H := Option.bind_eq_some_iff.mp H
                obtain ⟨t228, A130, H⟩ := H
                replace H : (if t228 = true then (if x8_1 < (l1.length : Int) then (tattlelaw16_DiskSteps.j2 kj7 l0 l1 x7_1 x8_1 200 (decide ((Int.tmod (rd l1 x8_1) 3) > 0)) x225000_1 x225001_1 x226000_1 x226001_1 x226002_1 x226003_1 x226004_1) else (tattlelaw16_DiskSteps.j2 kj7 l0 l1 x7_1 x8_1 200 false x225000_1 x225001_1 x226000_1 x226001_1 x226002_1 x226003_1 x226004_1)) else (tattlelaw16_DiskSteps.l0 kj7 l0 l1 x7_1 (wrap64 (x8_1 + 1)) x225000_1 x225001_1 x226000_1 x226001_1 x226002_1 x226003_1 x226004_1)) = some r := H
                have A13 := Aside0.mk A130
                clear A130
                by_cases c14 : t228 = true
                · subst c14
                  have H1 : (if x8_1 < (l1.length : Int) then (tattlelaw16_DiskSteps.j2 kj7 l0 l1 x7_1 x8_1 200 (decide ((Int.tmod (rd l1 x8_1) 3) > 0)) x225000_1 x225001_1 x226000_1 x226001_1 x226002_1 x226003_1 x226004_1) else (tattlelaw16_DiskSteps.j2 kj7 l0 l1 x7_1 x8_1 200 false x225000_1 x225001_1 x226000_1 x226001_1 x226002_1 x226003_1 x226004_1)) = some r := by rw [if_pos rfl] at H; exact H
                  clear H
                  have H := H1
                  clear H1
                  have HC15 := Aside0.mk H
                  clear H
                  have p227 : 0 ≤ (x8_1 : Int) := of_decide_eq_true (by first | (with_reducible assumption) | assumption)
                  have q227 : x8_1 < (l0.length : Int) := of_decide_eq_true (by first | (with_reducible assumption) | assumption)
                  obtain ⟨ad227, e227, hx227_0, hx227_1, hx227_2, hx227_3, hx227_4⟩ := at_T26 HR0.out x8_1 p227 q227
                  cases e227
                  replace hx227_0 := (HB.out.cell (World.block_lt_of_cell? w _ hx227_0)).trans hx227_0
                  replace hx227_1 := (HB.out.cell (World.block_lt_of_cell? w _ hx227_1)).trans hx227_1
                  replace hx227_2 := (HB.out.cell (World.block_lt_of_cell? w _ hx227_2)).trans hx227_2
                  replace hx227_3 := (HB.out.cell (World.block_lt_of_cell? w _ hx227_3)).trans hx227_3
                  replace hx227_4 := (HB.out.cell (World.block_lt_of_cell? w _ hx227_4)).trans hx227_4
                  replace p227 := eq_true p227
                  replace q227 := eq_true q227
                  go_upto_region 8 with (first | ((with_reducible refine gate_callee (f := 15) rfl ?_); refine goesL_ (some 34) rfl rfl Try.func15 (by kernel_rfl) rfl #[.agg #[.int .u64 ((rd_T26 l0 x8_1).f0), .int .u64 ((rd_T26 l0 x8_1).f1), .int .u64 ((rd_T26 l0 x8_1).f2), .int .u64 ((rd_T26 l0 x8_1).f3), .int .i64 ((rd_T26 l0 x8_1).f4)]] rfl (by (try simp only [List.map_toArray, List.map_cons, List.map_nil]); first | done | rfl | (simp only [List.length_drop, List.length_take]; rfl)) ?_; (with_reducible refine (tattleref16_May.calls ((rd_T26 l0 x8_1).f0) ((rd_T26 l0 x8_1).f1) ((rd_T26 l0 x8_1).f2) ((rd_T26 l0 x8_1).f3) ((rd_T26 l0 x8_1).f4) true _ A13.out).mono ?_); rintro e w16 ⟨rfl, hb⟩; refine ⟨_, rfl, ?_⟩; have n0_ := Aside0.mk (blk_below (g := gb224) (o := .cells #[.string x225000_1, .string x225001_1] 23 (0, 0)) (by (with_reducible repeat (first | refine blk_drewN ?_ _ | refine blk_drew ?_ | refine blk_alloc ?_ _)); exact BK224.out) hb); have n1_ := Aside0.mk (blk_below (g := gb225) (o := .cells #[.int .u64 x226000_1, .int .u64 x226001_1, .int .u64 x226002_1, .int .u64 x226003_1, .int .i64 x226004_1] 26 (0, 0)) (by (with_reducible repeat (first | refine blk_drewN ?_ _ | refine blk_drew ?_ | refine blk_alloc ?_ _)); exact BK225.out) hb); have n2_ := Aside0.mk (below_step (by repeat (first | (with_reducible first | exact HB.out | apply below_alloc | apply pw_below_drewN | apply below_drew1 | refine below_set ?_ GE224.out | refine below_set ?_ GE225.out) | exact HB.out)) hb); clear BK224; clear BK225; clear HB; have BK224 := n0_; have BK225 := n1_; have HB := n2_; clear n0_ n1_ n2_; (try clear hb); (try clear hb2); (try clear hk); (try clear hi)))
                  (try simp only [Act.put, List.setIfInBounds_toArray, List.set_cons_zero, List.set_cons_succ])
                  go_cut [47] (fun v47 wc => ∃ (kq : Nat) (x47_14 : Bool), v47 = .bool x47_14 ∧ Aside0 (tattlelaw16_DiskSteps.j2 kq l0 l1 x7_1 x8_1 200 x47_14 x225000_1 x225001_1 x226000_1 x226001_1 x226002_1 x226003_1 x226004_1 = some r) ∧ Aside0 (kq ≤ kj7) ∧ Aside0 (wc.heap[gb224]? = some (.cells #[.string x225000_1, .string x225001_1] 23 (0, 0))) ∧ Aside0 (wc.heap[gb225]? = some (.cells #[.int .u64 x226000_1, .int .u64 x226001_1, .int .u64 x226002_1, .int .u64 x226003_1, .int .i64 x226004_1] 26 (0, 0))) ∧ Aside0 (Below w.heap.size w wc))
                  case first =>
                    have H := HC15.out
                    clear HC15
                    by_cases c17 : x8_1 < (l1.length : Int)
                    · rw [if_pos c17] at H
                      have c17b0 : decide (x8_1 < (l1.length : Int)) = true := decide_eq_true c17
                      clear c17
                      (first | rw [c17b0] | (simp only [i64_w, i32_w]; rw [c17b0]) | skip)
                      have H' := Aside0.mk H
                      clear H
                      have p229 : 0 ≤ (x8_1 : Int) := of_decide_eq_true (by first | (with_reducible assumption) | assumption)
                      have q229 : x8_1 < (l1.length : Int) := of_decide_eq_true (by first | (with_reducible assumption) | assumption)
                      obtain ⟨ad229, e229, hx229_0⟩ := Kd.at_int HR1.out x8_1 p229 q229
                      cases e229
                      replace hx229_0 := (HB.out.cell (World.block_lt_of_cell? w _ hx229_0)).trans hx229_0
                      replace p229 := eq_true p229
                      replace q229 := eq_true q229
                      go_wp2
                      go_meet
                      case rel => exact ⟨_, (decide ((Int.tmod (rd l1 x8_1) 3) > 0)), (by first | rfl | (simp; done) | (simp [*]; done)), H', ⟨by have := HK1.out; have := HJ7.out; first | omega | exact Nat.le_refl _⟩, ⟨by (with_reducible repeat (first | refine blk_drewN ?_ _ | refine blk_drew ?_ | refine blk_alloc ?_ _)); exact BK224.out⟩, ⟨by (with_reducible repeat (first | refine blk_drewN ?_ _ | refine blk_drew ?_ | refine blk_alloc ?_ _)); exact BK225.out⟩, ⟨by repeat (first | (with_reducible first | exact HB.out | apply below_alloc | apply pw_below_drewN | apply below_drew1 | refine below_set ?_ GE224.out | refine below_set ?_ GE225.out) | exact HB.out)⟩⟩
                    · rw [if_neg c17] at H
                      have c17b0 : decide (x8_1 < (l1.length : Int)) = false := decide_eq_false c17
                      clear c17
                      (first | rw [c17b0] | (simp only [i64_w, i32_w]; rw [c17b0]) | skip)
                      have H' := Aside0.mk H
                      clear H
                      go_wp2
                      go_meet
                      case rel => exact ⟨_, (false), (by first | rfl | (simp; done) | (simp [*]; done)), H', ⟨by have := HK1.out; have := HJ7.out; first | omega | exact Nat.le_refl _⟩, ⟨by (with_reducible repeat (first | refine blk_drewN ?_ _ | refine blk_drew ?_ | refine blk_alloc ?_ _)); exact BK224.out⟩, ⟨by (with_reducible repeat (first | refine blk_drewN ?_ _ | refine blk_drew ?_ | refine blk_alloc ?_ _)); exact BK225.out⟩, ⟨by repeat (first | (with_reducible first | exact HB.out | apply below_alloc | apply pw_below_drewN | apply below_drew1 | refine below_set ?_ GE224.out | refine below_set ?_ GE225.out) | exact HB.out)⟩⟩
                  case rest =>
                    clear HC15
                    try clear c1
                    try clear p2
                    try clear q2
                    try clear hx2
                    try clear c6
                    try clear p6
                    try clear c9
                    try clear c9b0
                    try clear c10
                    try clear c11
                    try clear c11b0
                    try clear c12
                    try clear c12b0
                    try clear c14
                    try clear c15
                    try clear c17
                    try clear c17b0
                    try clear hcz4_0
                    try clear hcz4_1
                    try clear hcz7_0
                    try clear hcz7_1
                    try clear hcz7_2
                    try clear hcz7_3
                    try clear hcz7_4
                    try clear hfz4_0
                    try clear hfz4_1
                    try clear hfz7_0
                    try clear hfz7_1
                    try clear hfz7_2
                    try clear hfz7_3
                    try clear hfz7_4
                    try clear hx227_0
                    try clear hx227_1
                    try clear hx227_2
                    try clear hx227_3
                    try clear hx227_4
                    try clear hx229_0
                    try clear p2
                    try clear p227
                    try clear p229
                    try clear q227
                    try clear q229
                    obtain ⟨kq, x47_14, rfl, HA, HJ14, BK224, BK225, HB⟩ := hcut
                    cases kq with
                    | zero => exact absurd HA.out (by simp [tattlelaw16_DiskSteps.j2])
                    | succ kj14 =>
                      have H := HA.out
                      clear HA
                      simp only [tattlelaw16_DiskSteps.j2] at H
                      have HC18 := Aside0.mk H
                      clear H
                      go_upto_if 47 with (fail)
                      go_cut [9] (fun v9 wc => ∃ (kq : Nat) (x9_17 : Int), v9 = .int .i64 x9_17 ∧ Aside0 (tattlelaw16_DiskSteps.j3 kq l0 l1 x7_1 x8_1 x9_17 x225000_1 x225001_1 x226000_1 x226001_1 x226002_1 x226003_1 x226004_1 = some r) ∧ Aside0 (kq ≤ kj14) ∧ Aside0 (wc.heap[gb224]? = some (.cells #[.string x225000_1, .string x225001_1] 23 (0, 0))) ∧ Aside0 (wc.heap[gb225]? = some (.cells #[.int .u64 x226000_1, .int .u64 x226001_1, .int .u64 x226002_1, .int .u64 x226003_1, .int .i64 x226004_1] 26 (0, 0))) ∧ Aside0 (Below w.heap.size w wc))
                      case first =>
                        have H := HC18.out
                        clear HC18
                        by_cases c19 : x47_14 = true
                        · subst c19
                          have H1 : (if 0 ≤ x8_1 then (if x8_1 < (l1.length : Int) then (tattlelaw16_DiskSteps.j3 kj14 l0 l1 x7_1 x8_1 (wrap64 (rd l1 x8_1)) x225000_1 x225001_1 x226000_1 x226001_1 x226002_1 x226003_1 x226004_1) else (none)) else (none)) = some r := by rw [if_pos rfl] at H; exact H
                          clear H
                          have H := H1
                          clear H1
                          by_cases c20 : 0 ≤ x8_1
                          · rw [if_pos c20] at H
                            have c20b0 : decide (0 ≤ x8_1) = true := decide_eq_true c20
                            clear c20
                            (first | rw [c20b0] | (simp only [i64_w, i32_w]; rw [c20b0]) | skip)
                            by_cases c21 : x8_1 < (l1.length : Int)
                            · rw [if_pos c21] at H
                              have c21b0 : decide (x8_1 < (l1.length : Int)) = true := decide_eq_true c21
                              clear c21
                              have H' := Aside0.mk H
                              clear H
                              have p230 : 0 ≤ (x8_1 : Int) := of_decide_eq_true (by first | (with_reducible assumption) | assumption)
                              have q230 : x8_1 < (l1.length : Int) := of_decide_eq_true (by first | (with_reducible assumption) | assumption)
                              obtain ⟨ad230, e230, hx230_0⟩ := Kd.at_int HR1.out x8_1 p230 q230
                              cases e230
                              replace hx230_0 := (HB.out.cell (World.block_lt_of_cell? w _ hx230_0)).trans hx230_0
                              replace p230 := eq_true p230
                              replace q230 := eq_true q230
                              go_wp2
                              go_meet
                              case rel => exact ⟨_, (wrap64 (rd l1 x8_1)), (by first | rfl | (simp; done) | (simp [*]; done)), H', ⟨by have := HK1.out; have := HJ7.out; have := HJ14.out; first | omega | exact Nat.le_refl _⟩, ⟨by (with_reducible repeat (first | refine blk_drewN ?_ _ | refine blk_drew ?_ | refine blk_alloc ?_ _)); exact BK224.out⟩, ⟨by (with_reducible repeat (first | refine blk_drewN ?_ _ | refine blk_drew ?_ | refine blk_alloc ?_ _)); exact BK225.out⟩, ⟨by repeat (first | (with_reducible first | exact HB.out | apply below_alloc | apply pw_below_drewN | apply below_drew1 | refine below_set ?_ GE224.out | refine below_set ?_ GE225.out) | exact HB.out)⟩⟩
                            · rw [if_neg c21] at H
                              exact absurd H (by simp)
                          · rw [if_neg c20] at H
                            exact absurd H (by simp)
                        · replace c19 := Bool.eq_false_iff.mpr c19
                          subst c19
                          have H1 : (tattlelaw16_DiskSteps.j3 kj14 l0 l1 x7_1 x8_1 200 x225000_1 x225001_1 x226000_1 x226001_1 x226002_1 x226003_1 x226004_1) = some r := by rw [if_neg (show ¬ (false = true) by decide)] at H; exact H
                          clear H
                          have H := H1
                          clear H1
                          have H' := Aside0.mk H
                          clear H
                          go_wp2
                          go_meet
                          case rel => exact ⟨_, (200), (by first | rfl | (simp; done) | (simp [*]; done)), H', ⟨by have := HK1.out; have := HJ7.out; have := HJ14.out; first | omega | exact Nat.le_refl _⟩, ⟨by (with_reducible repeat (first | refine blk_drewN ?_ _ | refine blk_drew ?_ | refine blk_alloc ?_ _)); exact BK224.out⟩, ⟨by (with_reducible repeat (first | refine blk_drewN ?_ _ | refine blk_drew ?_ | refine blk_alloc ?_ _)); exact BK225.out⟩, ⟨by repeat (first | (with_reducible first | exact HB.out | apply below_alloc | apply pw_below_drewN | apply below_drew1 | refine below_set ?_ GE224.out | refine below_set ?_ GE225.out) | exact HB.out)⟩⟩
                      case rest =>
                        clear HC18
                        try clear c1
                        try clear c2
                        try clear p2
                        try clear q2
                        try clear hx2
                        try clear c6
                        try clear p6
                        try clear c9
                        try clear c9b0
                        try clear c10
                        try clear c11
                        try clear c11b0
                        try clear c12
                        try clear c12b0
                        try clear c14
                        try clear c15
                        try clear c17
                        try clear c17b0
                        try clear c19
                        try clear c20
                        try clear c20b0
                        try clear c21
                        try clear c21b0
                        try clear hcz4_0
                        try clear hcz4_1
                        try clear hcz7_0
                        try clear hcz7_1
                        try clear hcz7_2
                        try clear hcz7_3
                        try clear hcz7_4
                        try clear hfz4_0
                        try clear hfz4_1
                        try clear hfz7_0
                        try clear hfz7_1
                        try clear hfz7_2
                        try clear hfz7_3
                        try clear hfz7_4
                        try clear hx227_0
                        try clear hx227_1
                        try clear hx227_2
                        try clear hx227_3
                        try clear hx227_4
                        try clear hx229_0
                        try clear hx230_0
                        try clear p2
                        try clear p227
                        try clear p229
                        try clear p230
                        try clear p6
                        try clear q2
                        try clear q227
                        try clear q229
                        try clear q230
                        obtain ⟨kq, x9_17, rfl, HA, HJ17, BK224, BK225, HB⟩ := hcut
                        cases kq with
                        | zero => exact absurd HA.out (by simp [tattlelaw16_DiskSteps.j3])
                        | succ kj17 =>
                          have H := HA.out
                          clear HA
                          simp only [tattlelaw16_DiskSteps.j3] at H
                          by_cases c22 : 0 ≤ x8_1
                          · rw [if_pos c22] at H
                            have c22b0 : decide (0 ≤ x8_1) = true := decide_eq_true c22
                            clear c22
                            by_cases c23 : x8_1 < (l0.length : Int)
                            · rw [if_pos c23] at H
                              have c23b0 : decide (x8_1 < (l0.length : Int)) = true := decide_eq_true c23
                              clear c23
                              replace H := Option.bind_eq_some_iff.mp H
                              obtain ⟨⟨t232, t233, t234⟩, A240, H⟩ := H
                              replace H : ((disk_Write.f kj17 x225000_1 x225001_1 ((rd_T26 l0 x8_1).f0) ((rd_T26 l0 x8_1).f1) ((rd_T26 l0 x8_1).f2) ((rd_T26 l0 x8_1).f3) ((rd_T26 l0 x8_1).f4)).bind fun bt237 => (if t234 = 0 then (tattlelaw16_DiskSteps.j4 kj17 l0 l1 x7_1 x8_1 (bt237.2.2 != 0) x225000_1 x225001_1 x226000_1 x226001_1 x226002_1 x226003_1 x226004_1 t232 t233 bt237.1 bt237.2.1) else (tattlelaw16_DiskSteps.j4 kj17 l0 l1 x7_1 x8_1 true x225000_1 x225001_1 x226000_1 x226001_1 x226002_1 x226003_1 x226004_1 t232 t233 bt237.1 bt237.2.1))) = some r := H
                              have A24 := Aside0.mk A240
                              clear A240
                              replace H := Option.bind_eq_some_iff.mp H
                              obtain ⟨⟨t237, t238, t239⟩, A250, H⟩ := H
                              replace H : (if t234 = 0 then (tattlelaw16_DiskSteps.j4 kj17 l0 l1 x7_1 x8_1 (t239 != 0) x225000_1 x225001_1 x226000_1 x226001_1 x226002_1 x226003_1 x226004_1 t232 t233 t237 t238) else (tattlelaw16_DiskSteps.j4 kj17 l0 l1 x7_1 x8_1 true x225000_1 x225001_1 x226000_1 x226001_1 x226002_1 x226003_1 x226004_1 t232 t233 t237 t238)) = some r := H
                              have A25 := Aside0.mk A250
                              clear A250
                              have HC26 := Aside0.mk H
                              clear H
                              try go_wp2
                              have n0_ := Aside0.mk (blk_drew BK224.out)
                              have n1_ := Aside0.mk (blk_drew BK225.out)
                              have n2_ := Aside0.mk (below_drew1 HB.out)
                              clear BK224
                              clear BK225
                              clear HB
                              have BK224 := n0_
                              have BK225 := n1_
                              have HB := n2_
                              clear n0_ n1_ n2_
                              have p231 : 0 ≤ (x8_1 : Int) := of_decide_eq_true (by first | (with_reducible assumption) | assumption)
                              have q231 : x8_1 < (l0.length : Int) := of_decide_eq_true (by first | (with_reducible assumption) | assumption)
                              obtain ⟨ad231, e231, hx231_0, hx231_1, hx231_2, hx231_3, hx231_4⟩ := at_T26 HR0.out x8_1 p231 q231
                              have hw231_4 := hx231_4
                              have hw231_3 := hx231_3
                              have hw231_2 := hx231_2
                              have hw231_1 := hx231_1
                              have hw231_0 := hx231_0
                              obtain rfl : ad227 = ad231 := (by injection e231)
                              replace hx231_0 := (HB.out.cell (World.block_lt_of_cell? w _ hx231_0)).trans hx231_0
                              replace hx231_1 := (HB.out.cell (World.block_lt_of_cell? w _ hx231_1)).trans hx231_1
                              replace hx231_2 := (HB.out.cell (World.block_lt_of_cell? w _ hx231_2)).trans hx231_2
                              replace hx231_3 := (HB.out.cell (World.block_lt_of_cell? w _ hx231_3)).trans hx231_3
                              replace hx231_4 := (HB.out.cell (World.block_lt_of_cell? w _ hx231_4)).trans hx231_4
                              replace p231 := eq_true p231
                              replace q231 := eq_true q231
                              refine start_ (n := 13) (S := fun w' => w'.cell? ⟨gb224, 0, none⟩ = some (.string x225000_1) ∧ w'.cell? ⟨gb224, 1, none⟩ = some (.string x225001_1) ∧ w'.cell? (ad227.add ((x8_1).toNat * 5)) = some (.int .u64 ((rd_T26 l0 x8_1).f0)) ∧ w'.cell? ⟨(ad227.add ((x8_1).toNat * 5)).block, (ad227.add ((x8_1).toNat * 5)).off + 1, none⟩ = some (.int .u64 ((rd_T26 l0 x8_1).f1)) ∧ w'.cell? ⟨(ad227.add ((x8_1).toNat * 5)).block, (ad227.add ((x8_1).toNat * 5)).off + 2, none⟩ = some (.int .u64 ((rd_T26 l0 x8_1).f2)) ∧ w'.cell? ⟨(ad227.add ((x8_1).toNat * 5)).block, (ad227.add ((x8_1).toNat * 5)).off + 3, none⟩ = some (.int .u64 ((rd_T26 l0 x8_1).f3)) ∧ w'.cell? ⟨(ad227.add ((x8_1).toNat * 5)).block, (ad227.add ((x8_1).toNat * 5)).off + 4, none⟩ = some (.int .i64 ((rd_T26 l0 x8_1).f4))) (ds := []) #[false, false, false, false, false, false, false, false, false, false, false, false, false] (by kernel_rfl) rfl rfl ⟨(blk_cell BK224.out 0).trans rfl, (blk_cell BK224.out 1).trans rfl, ((HB.out.cell (World.block_lt_of_cell? w _ hw231_0)).trans hw231_0), ((HB.out.cell (World.block_lt_of_cell? w _ hw231_1)).trans hw231_1), ((HB.out.cell (World.block_lt_of_cell? w _ hw231_2)).trans hw231_2), ((HB.out.cell (World.block_lt_of_cell? w _ hw231_3)).trans hw231_3), ((HB.out.cell (World.block_lt_of_cell? w _ hw231_4)).trans hw231_4)⟩ (fun hHeld => ?_); refine with_tabW tattlelaw16_DiskSteps.tab10 tattlelaw16_DiskSteps.bits10 (fun HT_ HW_ => ?_)
                              generalize wc.drew = w27 at BK224 BK225 HB hx231_0 hx231_1 hx231_2 hx231_3 hx231_4 hHeld ⊢
                              refine pure_ (i := 1) (N := some 55) (v := ?_) (a' := ?_) #[false, true, false, false, false, false, false, false, false, false, false, false, false] rfl rfl (any_of HT_.out (by kernel_rfl)) (fun _ _ _ h => h) (Or.inl ⟨by rfl, ?_⟩) ?_ ?_
                              rotate_left
                              · intro w'
                                go_simp
                                with_reducible rfl
                              rotate_left
                              · simp only [Act.put, List.setIfInBounds_toArray, List.set_cons_zero, List.set_cons_succ, i64_w, i32_w]
                                rfl
                              refine pure_ (i := 2) (N := some 56) (v := ?_) (a' := ?_) #[false, true, true, false, false, false, false, false, false, false, false, false, false] rfl rfl (any_of HT_.out (by kernel_rfl)) (fun _ _ _ h => h) (Or.inl ⟨by rfl, ?_⟩) ?_ ?_
                              rotate_left
                              · intro w'
                                go_simp
                                with_reducible rfl
                              rotate_left
                              · simp only [Act.put, List.setIfInBounds_toArray, List.set_cons_zero, List.set_cons_succ, i64_w, i32_w]
                                rfl
                              refine pure_ (i := 3) (N := some 57) (v := ?_) (a' := ?_) #[false, true, true, true, false, false, false, false, false, false, false, false, false] rfl rfl (any_of HT_.out (by kernel_rfl)) (fun _ _ _ h => h) (Or.inl ⟨by rfl, ?_⟩) ?_ ?_
                              rotate_left
                              · intro w'
                                go_simp
                                with_reducible rfl
                              rotate_left
                              · simp only [Act.put, List.setIfInBounds_toArray, List.set_cons_zero, List.set_cons_succ, i64_w, i32_w]
                                rfl
                              refine pure_ (i := 5) (N := some 59) (v := ?_) (a' := ?_) #[false, true, true, true, false, true, false, false, false, false, false, false, false] rfl rfl (any_of HT_.out (by kernel_rfl)) (fun _ _ _ h => h) (Or.inl ⟨by rfl, ?_⟩) ?_ ?_
                              rotate_left
                              · intro w'
                                go_simp
                                with_reducible rfl
                              rotate_left
                              · simp only [Act.put, List.setIfInBounds_toArray, List.set_cons_zero, List.set_cons_succ, i64_w, i32_w]
                                rfl
                              refine take_ (i := 0) (N := some 54) (v := ?_) (a' := ?_) #[true, true, true, true, false, true, false, false, false, false, false, false, false] rfl rfl (take_ofW HT_.out HW_.out (by kernel_rfl)) (fun _ _ _ h => h) (Or.inl ⟨by rfl, ?_⟩) hHeld ?_ ?_
                              rotate_left
                              · rintro w' ⟨s0, s1, s2, s3, s4, s5, s6⟩
                                go_simp
                                with_reducible rfl
                              rotate_left
                              · simp only [Act.put, List.setIfInBounds_toArray, List.set_cons_zero, List.set_cons_succ, i64_w, i32_w]
                                rfl
                              refine take_ (i := 4) (N := some 58) (v := ?_) (a' := ?_) #[true, true, true, true, true, true, false, false, false, false, false, false, false] rfl rfl (take_ofW HT_.out HW_.out (by kernel_rfl)) (fun _ _ _ h => h) (Or.inl ⟨by rfl, ?_⟩) hHeld ?_ ?_
                              rotate_left
                              · rintro w' ⟨s0, s1, s2, s3, s4, s5, s6⟩
                                go_simp
                                with_reducible rfl
                              rotate_left
                              · simp only [Act.put, List.setIfInBounds_toArray, List.set_cons_zero, List.set_cons_succ, i64_w, i32_w]
                                rfl
                              refine join_ (σ := Nat) 2 #[true, true, true, true, true, true, true, true, true, true, true, false, false] (fun s_ => [(60, .tuple #[.agg #[.string t232, .string t233], .int .i64 t234]), (10, .pointer (some ⟨s_, 0, none⟩)), (53, .tuple #[.agg #[.string t232, .string t233], .int .i64 t234]), (61, .agg #[.string t232, .string t233]), (62, .int .i64 t234)]) (fun s_ w' => (w'.cell? ⟨gb224, 0, none⟩ = some (.string x225000_1) ∧ w'.cell? ⟨gb224, 1, none⟩ = some (.string x225001_1) ∧ w'.cell? (ad227.add ((x8_1).toNat * 5)) = some (.int .u64 ((rd_T26 l0 x8_1).f0)) ∧ w'.cell? ⟨(ad227.add ((x8_1).toNat * 5)).block, (ad227.add ((x8_1).toNat * 5)).off + 1, none⟩ = some (.int .u64 ((rd_T26 l0 x8_1).f1)) ∧ w'.cell? ⟨(ad227.add ((x8_1).toNat * 5)).block, (ad227.add ((x8_1).toNat * 5)).off + 2, none⟩ = some (.int .u64 ((rd_T26 l0 x8_1).f2)) ∧ w'.cell? ⟨(ad227.add ((x8_1).toNat * 5)).block, (ad227.add ((x8_1).toNat * 5)).off + 3, none⟩ = some (.int .u64 ((rd_T26 l0 x8_1).f3)) ∧ w'.cell? ⟨(ad227.add ((x8_1).toNat * 5)).block, (ad227.add ((x8_1).toNat * 5)).off + 4, none⟩ = some (.int .i64 ((rd_T26 l0 x8_1).f4))) ∧ (w'.heap[gb224]? = some (.cells #[.string x225000_1, .string x225001_1] 23 (0, 0))) ∧ (w'.heap[gb225]? = some (.cells #[.int .u64 x226000_1, .int .u64 x226001_1, .int .u64 x226002_1, .int .u64 x226003_1, .int .i64 x226004_1] 26 (0, 0))) ∧ (w'.heap[s_]? = some (.cells #[.string (⟨#[]⟩ : ByteArray), .string (⟨#[]⟩ : ByteArray)] 23 (0, 0))) ∧ (w.heap.size ≤ s_) ∧ (w.heap.size ≤ s_) ∧ (gb224 ≠ s_) ∧ (s_ ≠ gb224) ∧ (gb225 ≠ s_) ∧ (s_ ≠ gb225) ∧ (Below w.heap.size w w')) ?_ ?_
                              rotate_left
                              · intro hCont
                                refine two_ (i := 6) (j := 10) (Ni := some 60) (Nj := some 10) #[true, true, true, true, true, true, true, false, false, false, false, false, false] #[true, true, true, true, true, true, false, false, false, false, true, false, false] rfl rfl rfl rfl (two_of HT_.out (by kernel_rfl)) (by decide) (by decide) (fun K hK => ?_) (fun K hK => ?_)
                                · skip
                                  refine goes_ Try.func20 (by kernel_rfl) rfl #[.agg #[.string x225000_1, .string x225001_1], .agg #[.int .u64 ((rd_T26 l0 x8_1).f0), .int .u64 ((rd_T26 l0 x8_1).f1), .int .u64 ((rd_T26 l0 x8_1).f2), .int .u64 ((rd_T26 l0 x8_1).f3), .int .i64 ((rd_T26 l0 x8_1).f4)], .int .i64 x9_17] (by rfl) rfl rfl (by (try simp only [List.map_toArray, List.map_cons, List.map_nil]); first | done | rfl | (simp only [List.length_drop, List.length_take]; rfl)) ?_
                                  with_reducible refine (disk_Tear.calls kj17 x225000_1 x225001_1 ((rd_T26 l0 x8_1).f0) ((rd_T26 l0 x8_1).f1) ((rd_T26 l0 x8_1).f2) ((rd_T26 l0 x8_1).f3) ((rd_T26 l0 x8_1).f4) x9_17 t232 t233 t234 _ A24.out).mono ?_
                                  rintro e w28 ⟨rfl, hb⟩
                                  refine ⟨_, rfl, ?_⟩
                                  have n0_ := Aside0.mk (blk_below (g := gb224) (o := .cells #[.string x225000_1, .string x225001_1] 23 (0, 0)) (by (with_reducible repeat (first | refine blk_drewN ?_ _ | refine blk_drew ?_ | refine blk_alloc ?_ _)); exact BK224.out) hb)
                                  have n1_ := Aside0.mk (blk_below (g := gb225) (o := .cells #[.int .u64 x226000_1, .int .u64 x226001_1, .int .u64 x226002_1, .int .u64 x226003_1, .int .i64 x226004_1] 26 (0, 0)) (by (with_reducible repeat (first | refine blk_drewN ?_ _ | refine blk_drew ?_ | refine blk_alloc ?_ _)); exact BK225.out) hb)
                                  have n2_ := Aside0.mk (below_step (by repeat (first | (with_reducible first | exact HB.out | apply below_alloc | apply pw_below_drewN | apply below_drew1 | refine below_set ?_ GE224.out | refine below_set ?_ GE225.out) | exact HB.out)) hb)
                                  clear BK224
                                  clear BK225
                                  clear HB
                                  have BK224 := n0_
                                  have BK225 := n1_
                                  have HB := n2_
                                  clear n0_ n1_ n2_
                                  (try clear hb)
                                  (try clear hb2)
                                  (try clear hk)
                                  (try clear hi)
                                  refine hK.out _ _ ⟨(blk_cell BK224.out 0).trans rfl, (blk_cell BK224.out 1).trans rfl, ((HB.out.cell (World.block_lt_of_cell? w _ hw231_0)).trans hw231_0), ((HB.out.cell (World.block_lt_of_cell? w _ hw231_1)).trans hw231_1), ((HB.out.cell (World.block_lt_of_cell? w _ hw231_2)).trans hw231_2), ((HB.out.cell (World.block_lt_of_cell? w _ hw231_3)).trans hw231_3), ((HB.out.cell (World.block_lt_of_cell? w _ hw231_4)).trans hw231_4)⟩ (fun hHeld => ?_)
                                  clear hK K
                                  refine norm_ (a' := ?_) ?_ ?_
                                  rotate_left
                                  · show Act.put _ (some 60) _ = _
                                    simp only [Act.put, List.setIfInBounds_toArray, List.set_cons_zero, List.set_cons_succ, i64_w, i32_w]
                                    rfl
                                  refine pure_ (i := 7) (N := some 53) (v := ?_) (a' := ?_) #[true, true, true, true, true, true, true, true, false, false, false, false, false] rfl rfl (any_of HT_.out (by kernel_rfl)) (fun _ _ _ h => h) (Or.inl ⟨by rfl, ?_⟩) ?_ ?_
                                  rotate_left
                                  · intro w'
                                    go_simp
                                    with_reducible rfl
                                  rotate_left
                                  · simp only [Act.put, List.setIfInBounds_toArray, List.set_cons_zero, List.set_cons_succ, i64_w, i32_w]
                                    rfl
                                  refine pure_ (i := 8) (N := some 61) (v := ?_) (a' := ?_) #[true, true, true, true, true, true, true, true, true, false, false, false, false] rfl rfl (any_of HT_.out (by kernel_rfl)) (fun _ _ _ h => h) (Or.inl ⟨by rfl, ?_⟩) ?_ ?_
                                  rotate_left
                                  · intro w'
                                    go_simp
                                    with_reducible rfl
                                  rotate_left
                                  · simp only [Act.put, List.setIfInBounds_toArray, List.set_cons_zero, List.set_cons_succ, i64_w, i32_w]
                                    rfl
                                  refine pure_ (i := 9) (N := some 62) (v := ?_) (a' := ?_) #[true, true, true, true, true, true, true, true, true, true, false, false, false] rfl rfl (any_of HT_.out (by kernel_rfl)) (fun _ _ _ h => h) (Or.inl ⟨by rfl, ?_⟩) ?_ ?_
                                  rotate_left
                                  · intro w'
                                    go_simp
                                    with_reducible rfl
                                  rotate_left
                                  · simp only [Act.put, List.setIfInBounds_toArray, List.set_cons_zero, List.set_cons_succ, i64_w, i32_w]
                                    rfl
                                  refine one_ (i := 10) (N := some 10) #[true, true, true, true, true, true, true, true, true, true, true, false, false] rfl rfl (one_of HT_.out (by kernel_rfl)) (by decide) (fun K hK => ?_)
                                  refine box_step ?hg (N := 10) ?hd (cs := #[.string (⟨#[]⟩ : ByteArray), .string (⟨#[]⟩ : ByteArray)]) (t := 23) ?hr ?_; (case hd => rfl); (case hg => rfl); (case hr => first | (go_simp; done) | (go_simp; rfl))
                                  intro gb235 hg w29 hbox hb
                                  have n0_ := Aside0.mk (blk_below (g := gb224) (o := .cells #[.string x225000_1, .string x225001_1] 23 (0, 0)) (by (with_reducible repeat (first | refine blk_drewN ?_ _ | refine blk_drew ?_ | refine blk_alloc ?_ _)); exact BK224.out) hb)
                                  have n1_ := Aside0.mk (blk_below (g := gb225) (o := .cells #[.int .u64 x226000_1, .int .u64 x226001_1, .int .u64 x226002_1, .int .u64 x226003_1, .int .i64 x226004_1] 26 (0, 0)) (by (with_reducible repeat (first | refine blk_drewN ?_ _ | refine blk_drew ?_ | refine blk_alloc ?_ _)); exact BK225.out) hb)
                                  have n2_ := Aside0.mk (below_step (by repeat (first | (with_reducible first | exact HB.out | apply below_alloc | apply pw_below_drewN | apply below_drew1 | refine below_set ?_ GE224.out | refine below_set ?_ GE225.out) | exact HB.out)) hb)
                                  have n3_ := Aside0.mk (hbox)
                                  have n4_ := Aside0.mk ((by rw [hg]; exact (below_size (by repeat (first | (with_reducible first | exact HB.out | apply below_alloc | apply pw_below_drewN | apply below_drew1 | refine below_set ?_ GE224.out | refine below_set ?_ GE225.out) | exact HB.out))) : w.heap.size ≤ gb235))
                                  have n5_ := Aside0.mk ((by rw [hg]; exact (below_size (by repeat (first | (with_reducible first | exact HB.out | apply below_alloc | apply pw_below_drewN | apply below_drew1 | refine below_set ?_ GE224.out | refine below_set ?_ GE225.out) | exact HB.out))) : w.heap.size ≤ gb235))
                                  have n6_ := Aside0.mk ((by rw [hg]; exact Nat.ne_of_lt (blk_lt (g := gb224) (o := .cells #[.string x225000_1, .string x225001_1] 23 (0, 0)) (by (with_reducible repeat (first | refine blk_drewN ?_ _ | refine blk_drew ?_ | refine blk_alloc ?_ _)); exact BK224.out)) : gb224 ≠ gb235))
                                  have n7_ := Aside0.mk ((by rw [hg]; exact Nat.ne_of_gt (blk_lt (g := gb224) (o := .cells #[.string x225000_1, .string x225001_1] 23 (0, 0)) (by (with_reducible repeat (first | refine blk_drewN ?_ _ | refine blk_drew ?_ | refine blk_alloc ?_ _)); exact BK224.out)) : gb235 ≠ gb224))
                                  have n8_ := Aside0.mk ((by rw [hg]; exact Nat.ne_of_lt (blk_lt (g := gb225) (o := .cells #[.int .u64 x226000_1, .int .u64 x226001_1, .int .u64 x226002_1, .int .u64 x226003_1, .int .i64 x226004_1] 26 (0, 0)) (by (with_reducible repeat (first | refine blk_drewN ?_ _ | refine blk_drew ?_ | refine blk_alloc ?_ _)); exact BK225.out)) : gb225 ≠ gb235))
                                  have n9_ := Aside0.mk ((by rw [hg]; exact Nat.ne_of_gt (blk_lt (g := gb225) (o := .cells #[.int .u64 x226000_1, .int .u64 x226001_1, .int .u64 x226002_1, .int .u64 x226003_1, .int .i64 x226004_1] 26 (0, 0)) (by (with_reducible repeat (first | refine blk_drewN ?_ _ | refine blk_drew ?_ | refine blk_alloc ?_ _)); exact BK225.out)) : gb235 ≠ gb225))
                                  clear BK224
                                  clear BK225
                                  clear HB
                                  have BK224 := n0_
                                  have BK225 := n1_
                                  have HB := n2_
                                  have BK235 := n3_
                                  have GW235 := n4_
                                  have GE235 := n5_
                                  have NB224_235 := n6_
                                  have NB235_224 := n7_
                                  have NB225_235 := n8_
                                  have NB235_225 := n9_
                                  clear n0_ n1_ n2_ n3_ n4_ n5_ n6_ n7_ n8_ n9_
                                  clear hb hbox hg
                                  refine hK.out _ _ ⟨(blk_cell BK224.out 0).trans rfl, (blk_cell BK224.out 1).trans rfl, ((HB.out.cell (World.block_lt_of_cell? w _ hw231_0)).trans hw231_0), ((HB.out.cell (World.block_lt_of_cell? w _ hw231_1)).trans hw231_1), ((HB.out.cell (World.block_lt_of_cell? w _ hw231_2)).trans hw231_2), ((HB.out.cell (World.block_lt_of_cell? w _ hw231_3)).trans hw231_3), ((HB.out.cell (World.block_lt_of_cell? w _ hw231_4)).trans hw231_4)⟩ (fun hHeld => ?_)
                                  clear hK K
                                  refine norm_ (a' := ?_) ?_ ?_
                                  rotate_left
                                  · show Act.put _ (some 10) _ = _
                                    simp only [Act.put, List.setIfInBounds_toArray, List.set_cons_zero, List.set_cons_succ, i64_w, i32_w]
                                    rfl
                                  exact norm_ (by simp only [putAll, Act.put, List.setIfInBounds_toArray, List.set_cons_zero, List.set_cons_succ]) (hCont (gb235) _ ⟨hHeld, (by (with_reducible repeat (first | refine blk_drewN ?_ _ | refine blk_drew ?_ | refine blk_alloc ?_ _)); exact BK224.out), (by (with_reducible repeat (first | refine blk_drewN ?_ _ | refine blk_drew ?_ | refine blk_alloc ?_ _)); exact BK225.out), (by (with_reducible repeat (first | refine blk_drewN ?_ _ | refine blk_drew ?_ | refine blk_alloc ?_ _)); exact BK235.out), GW235.out, GE235.out, NB224_235.out, NB235_224.out, NB225_235.out, NB235_225.out, (by repeat (first | (with_reducible first | exact HB.out | apply below_alloc | apply pw_below_drewN | apply below_drew1 | refine below_set ?_ GE224.out | refine below_set ?_ GE225.out | refine below_set ?_ GE235.out) | exact HB.out))⟩)
                                · skip
                                  refine box_step ?hg (N := 10) ?hd (cs := #[.string (⟨#[]⟩ : ByteArray), .string (⟨#[]⟩ : ByteArray)]) (t := 23) ?hr ?_; (case hd => rfl); (case hg => rfl); (case hr => first | (go_simp; done) | (go_simp; rfl))
                                  intro gb235 hg w28 hbox hb
                                  have n0_ := Aside0.mk (blk_below (g := gb224) (o := .cells #[.string x225000_1, .string x225001_1] 23 (0, 0)) (by (with_reducible repeat (first | refine blk_drewN ?_ _ | refine blk_drew ?_ | refine blk_alloc ?_ _)); exact BK224.out) hb)
                                  have n1_ := Aside0.mk (blk_below (g := gb225) (o := .cells #[.int .u64 x226000_1, .int .u64 x226001_1, .int .u64 x226002_1, .int .u64 x226003_1, .int .i64 x226004_1] 26 (0, 0)) (by (with_reducible repeat (first | refine blk_drewN ?_ _ | refine blk_drew ?_ | refine blk_alloc ?_ _)); exact BK225.out) hb)
                                  have n2_ := Aside0.mk (below_step (by repeat (first | (with_reducible first | exact HB.out | apply below_alloc | apply pw_below_drewN | apply below_drew1 | refine below_set ?_ GE224.out | refine below_set ?_ GE225.out) | exact HB.out)) hb)
                                  have n3_ := Aside0.mk (hbox)
                                  have n4_ := Aside0.mk ((by rw [hg]; exact (below_size (by repeat (first | (with_reducible first | exact HB.out | apply below_alloc | apply pw_below_drewN | apply below_drew1 | refine below_set ?_ GE224.out | refine below_set ?_ GE225.out) | exact HB.out))) : w.heap.size ≤ gb235))
                                  have n5_ := Aside0.mk ((by rw [hg]; exact (below_size (by repeat (first | (with_reducible first | exact HB.out | apply below_alloc | apply pw_below_drewN | apply below_drew1 | refine below_set ?_ GE224.out | refine below_set ?_ GE225.out) | exact HB.out))) : w.heap.size ≤ gb235))
                                  have n6_ := Aside0.mk ((by rw [hg]; exact Nat.ne_of_lt (blk_lt (g := gb224) (o := .cells #[.string x225000_1, .string x225001_1] 23 (0, 0)) (by (with_reducible repeat (first | refine blk_drewN ?_ _ | refine blk_drew ?_ | refine blk_alloc ?_ _)); exact BK224.out)) : gb224 ≠ gb235))
                                  have n7_ := Aside0.mk ((by rw [hg]; exact Nat.ne_of_gt (blk_lt (g := gb224) (o := .cells #[.string x225000_1, .string x225001_1] 23 (0, 0)) (by (with_reducible repeat (first | refine blk_drewN ?_ _ | refine blk_drew ?_ | refine blk_alloc ?_ _)); exact BK224.out)) : gb235 ≠ gb224))
                                  have n8_ := Aside0.mk ((by rw [hg]; exact Nat.ne_of_lt (blk_lt (g := gb225) (o := .cells #[.int .u64 x226000_1, .int .u64 x226001_1, .int .u64 x226002_1, .int .u64 x226003_1, .int .i64 x226004_1] 26 (0, 0)) (by (with_reducible repeat (first | refine blk_drewN ?_ _ | refine blk_drew ?_ | refine blk_alloc ?_ _)); exact BK225.out)) : gb225 ≠ gb235))
                                  have n9_ := Aside0.mk ((by rw [hg]; exact Nat.ne_of_gt (blk_lt (g := gb225) (o := .cells #[.int .u64 x226000_1, .int .u64 x226001_1, .int .u64 x226002_1, .int .u64 x226003_1, .int .i64 x226004_1] 26 (0, 0)) (by (with_reducible repeat (first | refine blk_drewN ?_ _ | refine blk_drew ?_ | refine blk_alloc ?_ _)); exact BK225.out)) : gb235 ≠ gb225))
                                  clear BK224
                                  clear BK225
                                  clear HB
                                  have BK224 := n0_
                                  have BK225 := n1_
                                  have HB := n2_
                                  have BK235 := n3_
                                  have GW235 := n4_
                                  have GE235 := n5_
                                  have NB224_235 := n6_
                                  have NB235_224 := n7_
                                  have NB225_235 := n8_
                                  have NB235_225 := n9_
                                  clear n0_ n1_ n2_ n3_ n4_ n5_ n6_ n7_ n8_ n9_
                                  clear hb hbox hg
                                  refine hK.out _ _ ⟨(blk_cell BK224.out 0).trans rfl, (blk_cell BK224.out 1).trans rfl, ((HB.out.cell (World.block_lt_of_cell? w _ hw231_0)).trans hw231_0), ((HB.out.cell (World.block_lt_of_cell? w _ hw231_1)).trans hw231_1), ((HB.out.cell (World.block_lt_of_cell? w _ hw231_2)).trans hw231_2), ((HB.out.cell (World.block_lt_of_cell? w _ hw231_3)).trans hw231_3), ((HB.out.cell (World.block_lt_of_cell? w _ hw231_4)).trans hw231_4)⟩ (fun hHeld => ?_)
                                  clear hK K
                                  refine norm_ (a' := ?_) ?_ ?_
                                  rotate_left
                                  · show Act.put _ (some 10) _ = _
                                    simp only [Act.put, List.setIfInBounds_toArray, List.set_cons_zero, List.set_cons_succ, i64_w, i32_w]
                                    rfl
                                  refine one_ (i := 6) (N := some 60) #[true, true, true, true, true, true, true, false, false, false, true, false, false] rfl rfl (one_of HT_.out (by kernel_rfl)) (by decide) (fun K hK => ?_)
                                  refine goes_ Try.func20 (by kernel_rfl) rfl #[.agg #[.string x225000_1, .string x225001_1], .agg #[.int .u64 ((rd_T26 l0 x8_1).f0), .int .u64 ((rd_T26 l0 x8_1).f1), .int .u64 ((rd_T26 l0 x8_1).f2), .int .u64 ((rd_T26 l0 x8_1).f3), .int .i64 ((rd_T26 l0 x8_1).f4)], .int .i64 x9_17] (by rfl) rfl rfl (by (try simp only [List.map_toArray, List.map_cons, List.map_nil]); first | done | rfl | (simp only [List.length_drop, List.length_take]; rfl)) ?_
                                  with_reducible refine (disk_Tear.calls kj17 x225000_1 x225001_1 ((rd_T26 l0 x8_1).f0) ((rd_T26 l0 x8_1).f1) ((rd_T26 l0 x8_1).f2) ((rd_T26 l0 x8_1).f3) ((rd_T26 l0 x8_1).f4) x9_17 t232 t233 t234 _ A24.out).mono ?_
                                  rintro e w29 ⟨rfl, hb⟩
                                  refine ⟨_, rfl, ?_⟩
                                  have n0_ := Aside0.mk (blk_below (g := gb224) (o := .cells #[.string x225000_1, .string x225001_1] 23 (0, 0)) (by (with_reducible repeat (first | refine blk_drewN ?_ _ | refine blk_drew ?_ | refine blk_alloc ?_ _)); exact BK224.out) hb)
                                  have n1_ := Aside0.mk (blk_below (g := gb225) (o := .cells #[.int .u64 x226000_1, .int .u64 x226001_1, .int .u64 x226002_1, .int .u64 x226003_1, .int .i64 x226004_1] 26 (0, 0)) (by (with_reducible repeat (first | refine blk_drewN ?_ _ | refine blk_drew ?_ | refine blk_alloc ?_ _)); exact BK225.out) hb)
                                  have n2_ := Aside0.mk (blk_below (g := gb235) (o := .cells #[.string (⟨#[]⟩ : ByteArray), .string (⟨#[]⟩ : ByteArray)] 23 (0, 0)) (by (with_reducible repeat (first | refine blk_drewN ?_ _ | refine blk_drew ?_ | refine blk_alloc ?_ _)); exact BK235.out) hb)
                                  have n3_ := Aside0.mk (below_step (by repeat (first | (with_reducible first | exact HB.out | apply below_alloc | apply pw_below_drewN | apply below_drew1 | refine below_set ?_ GE224.out | refine below_set ?_ GE225.out | refine below_set ?_ GE235.out) | exact HB.out)) hb)
                                  clear BK224
                                  clear BK225
                                  clear BK235
                                  clear HB
                                  have BK224 := n0_
                                  have BK225 := n1_
                                  have BK235 := n2_
                                  have HB := n3_
                                  clear n0_ n1_ n2_ n3_
                                  (try clear hb)
                                  (try clear hb2)
                                  (try clear hk)
                                  (try clear hi)
                                  refine hK.out _ _ ⟨(blk_cell BK224.out 0).trans rfl, (blk_cell BK224.out 1).trans rfl, ((HB.out.cell (World.block_lt_of_cell? w _ hw231_0)).trans hw231_0), ((HB.out.cell (World.block_lt_of_cell? w _ hw231_1)).trans hw231_1), ((HB.out.cell (World.block_lt_of_cell? w _ hw231_2)).trans hw231_2), ((HB.out.cell (World.block_lt_of_cell? w _ hw231_3)).trans hw231_3), ((HB.out.cell (World.block_lt_of_cell? w _ hw231_4)).trans hw231_4)⟩ (fun hHeld => ?_)
                                  clear hK K
                                  refine norm_ (a' := ?_) ?_ ?_
                                  rotate_left
                                  · show Act.put _ (some 60) _ = _
                                    simp only [Act.put, List.setIfInBounds_toArray, List.set_cons_zero, List.set_cons_succ, i64_w, i32_w]
                                    rfl
                                  refine pure_ (i := 7) (N := some 53) (v := ?_) (a' := ?_) #[true, true, true, true, true, true, true, true, false, false, true, false, false] rfl rfl (any_of HT_.out (by kernel_rfl)) (fun _ _ _ h => h) (Or.inl ⟨by rfl, ?_⟩) ?_ ?_
                                  rotate_left
                                  · intro w'
                                    go_simp
                                    with_reducible rfl
                                  rotate_left
                                  · simp only [Act.put, List.setIfInBounds_toArray, List.set_cons_zero, List.set_cons_succ, i64_w, i32_w]
                                    rfl
                                  refine pure_ (i := 8) (N := some 61) (v := ?_) (a' := ?_) #[true, true, true, true, true, true, true, true, true, false, true, false, false] rfl rfl (any_of HT_.out (by kernel_rfl)) (fun _ _ _ h => h) (Or.inl ⟨by rfl, ?_⟩) ?_ ?_
                                  rotate_left
                                  · intro w'
                                    go_simp
                                    with_reducible rfl
                                  rotate_left
                                  · simp only [Act.put, List.setIfInBounds_toArray, List.set_cons_zero, List.set_cons_succ, i64_w, i32_w]
                                    rfl
                                  refine pure_ (i := 9) (N := some 62) (v := ?_) (a' := ?_) #[true, true, true, true, true, true, true, true, true, true, true, false, false] rfl rfl (any_of HT_.out (by kernel_rfl)) (fun _ _ _ h => h) (Or.inl ⟨by rfl, ?_⟩) ?_ ?_
                                  rotate_left
                                  · intro w'
                                    go_simp
                                    with_reducible rfl
                                  rotate_left
                                  · simp only [Act.put, List.setIfInBounds_toArray, List.set_cons_zero, List.set_cons_succ, i64_w, i32_w]
                                    rfl
                                  exact norm_ (by simp only [putAll, Act.put, List.setIfInBounds_toArray, List.set_cons_zero, List.set_cons_succ]) (hCont (gb235) _ ⟨hHeld, (by (with_reducible repeat (first | refine blk_drewN ?_ _ | refine blk_drew ?_ | refine blk_alloc ?_ _)); exact BK224.out), (by (with_reducible repeat (first | refine blk_drewN ?_ _ | refine blk_drew ?_ | refine blk_alloc ?_ _)); exact BK225.out), (by (with_reducible repeat (first | refine blk_drewN ?_ _ | refine blk_drew ?_ | refine blk_alloc ?_ _)); exact BK235.out), GW235.out, GE235.out, NB224_235.out, NB235_224.out, NB225_235.out, NB235_225.out, (by repeat (first | (with_reducible first | exact HB.out | apply below_alloc | apply pw_below_drewN | apply below_drew1 | refine below_set ?_ GE224.out | refine below_set ?_ GE225.out | refine below_set ?_ GE235.out) | exact HB.out))⟩)
                              rintro gb235 w30 ⟨hS_, h0_, h1_, h2_, h3_, h4_, h5_, h6_, h7_, h8_, h9_⟩
                              have n0_ : Aside0 (w30.heap[gb224]? = some (.cells #[.string x225000_1, .string x225001_1] 23 (0, 0))) := ⟨h0_⟩
                              have n1_ : Aside0 (w30.heap[gb225]? = some (.cells #[.int .u64 x226000_1, .int .u64 x226001_1, .int .u64 x226002_1, .int .u64 x226003_1, .int .i64 x226004_1] 26 (0, 0))) := ⟨h1_⟩
                              have n2_ : Aside0 (w30.heap[gb235]? = some (.cells #[.string (⟨#[]⟩ : ByteArray), .string (⟨#[]⟩ : ByteArray)] 23 (0, 0))) := ⟨h2_⟩
                              have n3_ : Aside0 (w.heap.size ≤ gb235) := ⟨h3_⟩
                              have n4_ : Aside0 (w.heap.size ≤ gb235) := ⟨h4_⟩
                              have n5_ : Aside0 (gb224 ≠ gb235) := ⟨h5_⟩
                              have n6_ : Aside0 (gb235 ≠ gb224) := ⟨h6_⟩
                              have n7_ : Aside0 (gb225 ≠ gb235) := ⟨h7_⟩
                              have n8_ : Aside0 (gb235 ≠ gb225) := ⟨h8_⟩
                              have n9_ : Aside0 (Below w.heap.size w w30) := ⟨h9_⟩
                              clear BK224
                              clear BK225
                              clear HB
                              clear h0_ h1_ h2_ h3_ h4_ h5_ h6_ h7_ h8_ h9_
                              have BK224 := n0_
                              have BK225 := n1_
                              have BK235 := n2_
                              have GW235 := n3_
                              have GE235 := n4_
                              have NB224_235 := n5_
                              have NB235_224 := n6_
                              have NB225_235 := n7_
                              have NB235_225 := n8_
                              have HB := n9_
                              clear n0_ n1_ n2_ n3_ n4_ n5_ n6_ n7_ n8_ n9_
                              have hHeld : w30.cell? ⟨gb224, 0, none⟩ = some (.string x225000_1) ∧ w30.cell? ⟨gb224, 1, none⟩ = some (.string x225001_1) ∧ w30.cell? (ad227.add ((x8_1).toNat * 5)) = some (.int .u64 ((rd_T26 l0 x8_1).f0)) ∧ w30.cell? ⟨(ad227.add ((x8_1).toNat * 5)).block, (ad227.add ((x8_1).toNat * 5)).off + 1, none⟩ = some (.int .u64 ((rd_T26 l0 x8_1).f1)) ∧ w30.cell? ⟨(ad227.add ((x8_1).toNat * 5)).block, (ad227.add ((x8_1).toNat * 5)).off + 2, none⟩ = some (.int .u64 ((rd_T26 l0 x8_1).f2)) ∧ w30.cell? ⟨(ad227.add ((x8_1).toNat * 5)).block, (ad227.add ((x8_1).toNat * 5)).off + 3, none⟩ = some (.int .u64 ((rd_T26 l0 x8_1).f3)) ∧ w30.cell? ⟨(ad227.add ((x8_1).toNat * 5)).block, (ad227.add ((x8_1).toNat * 5)).off + 4, none⟩ = some (.int .i64 ((rd_T26 l0 x8_1).f4)) := hS_
                              refine norm_ (a' := ?_) ?_ ?_
                              rotate_left
                              · simp only [putAll, Act.put, List.setIfInBounds_toArray, List.set_cons_zero, List.set_cons_succ]
                                rfl
                              refine one_ (i := 11) (N := none) #[true, true, true, true, true, true, true, true, true, true, true, true, false] rfl rfl (one_of HT_.out (by kernel_rfl)) (by decide) (fun K hK => ?_)
                              have hs31 : w30.cell? ⟨gb235, 0, none⟩ = some (.string (⟨#[]⟩ : ByteArray)) := (blk_cell BK235.out 0).trans rfl
                              have hfs31 := blk_frozen BK235.out 0
                              have hns31_0 := NB224_235.out
                              have hns31_1 := NB225_235.out
                              have hms31_0 := NB235_224.out
                              have hms31_1 := NB235_225.out
                              have hs32 : w30.cell? ⟨gb235, 1, none⟩ = some (.string (⟨#[]⟩ : ByteArray)) := (blk_cell BK235.out 1).trans rfl
                              have hfs32 := blk_frozen BK235.out 1
                              have hns32_0 := NB224_235.out
                              have hns32_1 := NB225_235.out
                              have hms32_0 := NB235_224.out
                              have hms32_1 := NB235_225.out
                              refine skip_ (w1 := ?_) (by rfl) rfl ?_ ?_
                              rotate_left
                              · go_simp
                                rfl
                              refine hK.out _ _ ⟨((cell_far (p := ⟨gb235, _, none⟩) NB224_235.out _).trans (((cell_far (p := ⟨gb235, _, none⟩) NB224_235.out _).trans (hHeld.1)))), ((cell_far (p := ⟨gb235, _, none⟩) NB224_235.out _).trans (((cell_far (p := ⟨gb235, _, none⟩) NB224_235.out _).trans (hHeld.2.1)))), ((cell_far (p := ⟨gb235, _, none⟩) (by first | exact Nat.ne_of_lt (Nat.lt_of_lt_of_le (by have := World.block_lt_of_cell? _ _ hw231_0; first | rwa [add_block] at this | exact this) GW235.out) | (rw [add_block]; exact Nat.ne_of_lt (Nat.lt_of_lt_of_le (by have := World.block_lt_of_cell? _ _ hw231_0; first | rwa [add_block] at this | exact this) GW235.out)) | (show (Addr.add _ _).block ≠ _; rw [add_block]; exact Nat.ne_of_lt (Nat.lt_of_lt_of_le (by have := World.block_lt_of_cell? _ _ hw231_0; first | rwa [add_block] at this | exact this) GW235.out)) | (dsimp only; exact Nat.ne_of_lt (Nat.lt_of_lt_of_le (by have := World.block_lt_of_cell? _ _ hw231_0; first | rwa [add_block] at this | exact this) GW235.out))) _).trans (((cell_far (p := ⟨gb235, _, none⟩) (by first | exact Nat.ne_of_lt (Nat.lt_of_lt_of_le (by have := World.block_lt_of_cell? _ _ hw231_0; first | rwa [add_block] at this | exact this) GW235.out) | (rw [add_block]; exact Nat.ne_of_lt (Nat.lt_of_lt_of_le (by have := World.block_lt_of_cell? _ _ hw231_0; first | rwa [add_block] at this | exact this) GW235.out)) | (show (Addr.add _ _).block ≠ _; rw [add_block]; exact Nat.ne_of_lt (Nat.lt_of_lt_of_le (by have := World.block_lt_of_cell? _ _ hw231_0; first | rwa [add_block] at this | exact this) GW235.out)) | (dsimp only; exact Nat.ne_of_lt (Nat.lt_of_lt_of_le (by have := World.block_lt_of_cell? _ _ hw231_0; first | rwa [add_block] at this | exact this) GW235.out))) _).trans (hHeld.2.2.1)))), ((cell_far (p := ⟨gb235, _, none⟩) (by first | exact Nat.ne_of_lt (Nat.lt_of_lt_of_le (by have := World.block_lt_of_cell? _ _ hw231_1; first | rwa [add_block] at this | exact this) GW235.out) | (rw [add_block]; exact Nat.ne_of_lt (Nat.lt_of_lt_of_le (by have := World.block_lt_of_cell? _ _ hw231_1; first | rwa [add_block] at this | exact this) GW235.out)) | (show (Addr.add _ _).block ≠ _; rw [add_block]; exact Nat.ne_of_lt (Nat.lt_of_lt_of_le (by have := World.block_lt_of_cell? _ _ hw231_1; first | rwa [add_block] at this | exact this) GW235.out)) | (dsimp only; exact Nat.ne_of_lt (Nat.lt_of_lt_of_le (by have := World.block_lt_of_cell? _ _ hw231_1; first | rwa [add_block] at this | exact this) GW235.out))) _).trans (((cell_far (p := ⟨gb235, _, none⟩) (by first | exact Nat.ne_of_lt (Nat.lt_of_lt_of_le (by have := World.block_lt_of_cell? _ _ hw231_1; first | rwa [add_block] at this | exact this) GW235.out) | (rw [add_block]; exact Nat.ne_of_lt (Nat.lt_of_lt_of_le (by have := World.block_lt_of_cell? _ _ hw231_1; first | rwa [add_block] at this | exact this) GW235.out)) | (show (Addr.add _ _).block ≠ _; rw [add_block]; exact Nat.ne_of_lt (Nat.lt_of_lt_of_le (by have := World.block_lt_of_cell? _ _ hw231_1; first | rwa [add_block] at this | exact this) GW235.out)) | (dsimp only; exact Nat.ne_of_lt (Nat.lt_of_lt_of_le (by have := World.block_lt_of_cell? _ _ hw231_1; first | rwa [add_block] at this | exact this) GW235.out))) _).trans (hHeld.2.2.2.1)))), ((cell_far (p := ⟨gb235, _, none⟩) (by first | exact Nat.ne_of_lt (Nat.lt_of_lt_of_le (by have := World.block_lt_of_cell? _ _ hw231_2; first | rwa [add_block] at this | exact this) GW235.out) | (rw [add_block]; exact Nat.ne_of_lt (Nat.lt_of_lt_of_le (by have := World.block_lt_of_cell? _ _ hw231_2; first | rwa [add_block] at this | exact this) GW235.out)) | (show (Addr.add _ _).block ≠ _; rw [add_block]; exact Nat.ne_of_lt (Nat.lt_of_lt_of_le (by have := World.block_lt_of_cell? _ _ hw231_2; first | rwa [add_block] at this | exact this) GW235.out)) | (dsimp only; exact Nat.ne_of_lt (Nat.lt_of_lt_of_le (by have := World.block_lt_of_cell? _ _ hw231_2; first | rwa [add_block] at this | exact this) GW235.out))) _).trans (((cell_far (p := ⟨gb235, _, none⟩) (by first | exact Nat.ne_of_lt (Nat.lt_of_lt_of_le (by have := World.block_lt_of_cell? _ _ hw231_2; first | rwa [add_block] at this | exact this) GW235.out) | (rw [add_block]; exact Nat.ne_of_lt (Nat.lt_of_lt_of_le (by have := World.block_lt_of_cell? _ _ hw231_2; first | rwa [add_block] at this | exact this) GW235.out)) | (show (Addr.add _ _).block ≠ _; rw [add_block]; exact Nat.ne_of_lt (Nat.lt_of_lt_of_le (by have := World.block_lt_of_cell? _ _ hw231_2; first | rwa [add_block] at this | exact this) GW235.out)) | (dsimp only; exact Nat.ne_of_lt (Nat.lt_of_lt_of_le (by have := World.block_lt_of_cell? _ _ hw231_2; first | rwa [add_block] at this | exact this) GW235.out))) _).trans (hHeld.2.2.2.2.1)))), ((cell_far (p := ⟨gb235, _, none⟩) (by first | exact Nat.ne_of_lt (Nat.lt_of_lt_of_le (by have := World.block_lt_of_cell? _ _ hw231_3; first | rwa [add_block] at this | exact this) GW235.out) | (rw [add_block]; exact Nat.ne_of_lt (Nat.lt_of_lt_of_le (by have := World.block_lt_of_cell? _ _ hw231_3; first | rwa [add_block] at this | exact this) GW235.out)) | (show (Addr.add _ _).block ≠ _; rw [add_block]; exact Nat.ne_of_lt (Nat.lt_of_lt_of_le (by have := World.block_lt_of_cell? _ _ hw231_3; first | rwa [add_block] at this | exact this) GW235.out)) | (dsimp only; exact Nat.ne_of_lt (Nat.lt_of_lt_of_le (by have := World.block_lt_of_cell? _ _ hw231_3; first | rwa [add_block] at this | exact this) GW235.out))) _).trans (((cell_far (p := ⟨gb235, _, none⟩) (by first | exact Nat.ne_of_lt (Nat.lt_of_lt_of_le (by have := World.block_lt_of_cell? _ _ hw231_3; first | rwa [add_block] at this | exact this) GW235.out) | (rw [add_block]; exact Nat.ne_of_lt (Nat.lt_of_lt_of_le (by have := World.block_lt_of_cell? _ _ hw231_3; first | rwa [add_block] at this | exact this) GW235.out)) | (show (Addr.add _ _).block ≠ _; rw [add_block]; exact Nat.ne_of_lt (Nat.lt_of_lt_of_le (by have := World.block_lt_of_cell? _ _ hw231_3; first | rwa [add_block] at this | exact this) GW235.out)) | (dsimp only; exact Nat.ne_of_lt (Nat.lt_of_lt_of_le (by have := World.block_lt_of_cell? _ _ hw231_3; first | rwa [add_block] at this | exact this) GW235.out))) _).trans (hHeld.2.2.2.2.2.1)))), ((cell_far (p := ⟨gb235, _, none⟩) (by first | exact Nat.ne_of_lt (Nat.lt_of_lt_of_le (by have := World.block_lt_of_cell? _ _ hw231_4; first | rwa [add_block] at this | exact this) GW235.out) | (rw [add_block]; exact Nat.ne_of_lt (Nat.lt_of_lt_of_le (by have := World.block_lt_of_cell? _ _ hw231_4; first | rwa [add_block] at this | exact this) GW235.out)) | (show (Addr.add _ _).block ≠ _; rw [add_block]; exact Nat.ne_of_lt (Nat.lt_of_lt_of_le (by have := World.block_lt_of_cell? _ _ hw231_4; first | rwa [add_block] at this | exact this) GW235.out)) | (dsimp only; exact Nat.ne_of_lt (Nat.lt_of_lt_of_le (by have := World.block_lt_of_cell? _ _ hw231_4; first | rwa [add_block] at this | exact this) GW235.out))) _).trans (((cell_far (p := ⟨gb235, _, none⟩) (by first | exact Nat.ne_of_lt (Nat.lt_of_lt_of_le (by have := World.block_lt_of_cell? _ _ hw231_4; first | rwa [add_block] at this | exact this) GW235.out) | (rw [add_block]; exact Nat.ne_of_lt (Nat.lt_of_lt_of_le (by have := World.block_lt_of_cell? _ _ hw231_4; first | rwa [add_block] at this | exact this) GW235.out)) | (show (Addr.add _ _).block ≠ _; rw [add_block]; exact Nat.ne_of_lt (Nat.lt_of_lt_of_le (by have := World.block_lt_of_cell? _ _ hw231_4; first | rwa [add_block] at this | exact this) GW235.out)) | (dsimp only; exact Nat.ne_of_lt (Nat.lt_of_lt_of_le (by have := World.block_lt_of_cell? _ _ hw231_4; first | rwa [add_block] at this | exact this) GW235.out))) _).trans (hHeld.2.2.2.2.2.2))))⟩ (fun hHeld => ?_)
                              clear hK K
                              refine pure_ (i := 12) (N := some 11) (v := ?_) (a' := ?_) #[true, true, true, true, true, true, true, true, true, true, true, true, true] rfl rfl (any_of HT_.out (by kernel_rfl)) (fun _ _ _ h => h) (Or.inl ⟨by rfl, ?_⟩) ?_ ?_
                              rotate_left
                              · intro w'
                                go_simp
                                with_reducible rfl
                              rotate_left
                              · simp only [Act.put, List.setIfInBounds_toArray, List.set_cons_zero, List.set_cons_succ, i64_w, i32_w]
                                rfl
                              refine done_ (done_of HT_.out (by kernel_rfl)) ?_
                              try go_wp2
                              have n0_ : Aside0 (((w30.setCell ⟨gb235, 0, none⟩ (.string t232)).setCell ⟨gb235, 1, none⟩ (.string t233)).heap[gb224]? = some (.cells #[.string x225000_1, .string x225001_1] 23 (0, 0))) := ⟨by (with_reducible repeat (first | refine blk_drewN ?_ _ | refine blk_drew ?_ | refine blk_alloc ?_ _)); refine blk_far ?_ NB224_235.out _; (with_reducible repeat (first | refine blk_drewN ?_ _ | refine blk_drew ?_ | refine blk_alloc ?_ _)); refine blk_far ?_ NB224_235.out _; (with_reducible repeat (first | refine blk_drewN ?_ _ | refine blk_drew ?_ | refine blk_alloc ?_ _)); exact BK224.out⟩
                              have n1_ : Aside0 (((w30.setCell ⟨gb235, 0, none⟩ (.string t232)).setCell ⟨gb235, 1, none⟩ (.string t233)).heap[gb225]? = some (.cells #[.int .u64 x226000_1, .int .u64 x226001_1, .int .u64 x226002_1, .int .u64 x226003_1, .int .i64 x226004_1] 26 (0, 0))) := ⟨by (with_reducible repeat (first | refine blk_drewN ?_ _ | refine blk_drew ?_ | refine blk_alloc ?_ _)); refine blk_far ?_ NB225_235.out _; (with_reducible repeat (first | refine blk_drewN ?_ _ | refine blk_drew ?_ | refine blk_alloc ?_ _)); refine blk_far ?_ NB225_235.out _; (with_reducible repeat (first | refine blk_drewN ?_ _ | refine blk_drew ?_ | refine blk_alloc ?_ _)); exact BK225.out⟩
                              have n2_ : Aside0 (((w30.setCell ⟨gb235, 0, none⟩ (.string t232)).setCell ⟨gb235, 1, none⟩ (.string t233)).heap[gb235]? = some (.cells #[.string t232, .string t233] 23 (0, 0))) := ⟨by (with_reducible repeat (first | refine blk_drewN ?_ _ | refine blk_drew ?_ | refine blk_alloc ?_ _)); refine blk_put (cs := #[.string t232, .string (⟨#[]⟩ : ByteArray)]) ?_ 1 _ rfl; (with_reducible repeat (first | refine blk_drewN ?_ _ | refine blk_drew ?_ | refine blk_alloc ?_ _)); refine blk_put (cs := #[.string (⟨#[]⟩ : ByteArray), .string (⟨#[]⟩ : ByteArray)]) ?_ 0 _ rfl; (with_reducible repeat (first | refine blk_drewN ?_ _ | refine blk_drew ?_ | refine blk_alloc ?_ _)); exact BK235.out⟩
                              have n3_ : Aside0 (Below w.heap.size w ((w30.setCell ⟨gb235, 0, none⟩ (.string t232)).setCell ⟨gb235, 1, none⟩ (.string t233))) := ⟨by repeat (first | (with_reducible first | exact HB.out | apply below_alloc | apply pw_below_drewN | apply below_drew1 | refine below_set ?_ GE224.out | refine below_set ?_ GE225.out | refine below_set ?_ GE235.out) | exact HB.out)⟩
                              (try clear BK224)
                              (try clear BK225)
                              (try clear BK235)
                              (try clear HB)
                              generalize ((w30.setCell ⟨gb235, 0, none⟩ (.string t232)).setCell ⟨gb235, 1, none⟩ (.string t233)) = w33 at n0_ n1_ n2_ n3_ ⊢
                              have BK224 := n0_
                              have BK225 := n1_
                              have BK235 := n2_
                              have HB := n3_
                              clear n0_ n1_ n2_ n3_
                              have n0_ := Aside0.mk (blk_drew BK224.out)
                              have n1_ := Aside0.mk (blk_drew BK225.out)
                              have n2_ := Aside0.mk (blk_drew BK235.out)
                              have n3_ := Aside0.mk (below_drew1 HB.out)
                              clear BK224
                              clear BK225
                              clear BK235
                              clear HB
                              have BK224 := n0_
                              have BK225 := n1_
                              have BK235 := n2_
                              have HB := n3_
                              clear n0_ n1_ n2_ n3_
                              have p236 : 0 ≤ (x8_1 : Int) := of_decide_eq_true (by first | (with_reducible assumption) | assumption)
                              have q236 : x8_1 < (l0.length : Int) := of_decide_eq_true (by first | (with_reducible assumption) | assumption)
                              obtain ⟨ad236, e236, hx236_0, hx236_1, hx236_2, hx236_3, hx236_4⟩ := at_T26 HR0.out x8_1 p236 q236
                              have hw236_4 := hx236_4
                              have hw236_3 := hx236_3
                              have hw236_2 := hx236_2
                              have hw236_1 := hx236_1
                              have hw236_0 := hx236_0
                              obtain rfl : ad227 = ad236 := (by injection e236)
                              replace hx236_0 := (HB.out.cell (World.block_lt_of_cell? w _ hx236_0)).trans hx236_0
                              replace hx236_1 := (HB.out.cell (World.block_lt_of_cell? w _ hx236_1)).trans hx236_1
                              replace hx236_2 := (HB.out.cell (World.block_lt_of_cell? w _ hx236_2)).trans hx236_2
                              replace hx236_3 := (HB.out.cell (World.block_lt_of_cell? w _ hx236_3)).trans hx236_3
                              replace hx236_4 := (HB.out.cell (World.block_lt_of_cell? w _ hx236_4)).trans hx236_4
                              replace p236 := eq_true p236
                              replace q236 := eq_true q236
                              refine start_ (n := 12) (S := fun w' => w'.cell? ⟨gb224, 0, none⟩ = some (.string x225000_1) ∧ w'.cell? ⟨gb224, 1, none⟩ = some (.string x225001_1) ∧ w'.cell? (ad227.add ((x8_1).toNat * 5)) = some (.int .u64 ((rd_T26 l0 x8_1).f0)) ∧ w'.cell? ⟨(ad227.add ((x8_1).toNat * 5)).block, (ad227.add ((x8_1).toNat * 5)).off + 1, none⟩ = some (.int .u64 ((rd_T26 l0 x8_1).f1)) ∧ w'.cell? ⟨(ad227.add ((x8_1).toNat * 5)).block, (ad227.add ((x8_1).toNat * 5)).off + 2, none⟩ = some (.int .u64 ((rd_T26 l0 x8_1).f2)) ∧ w'.cell? ⟨(ad227.add ((x8_1).toNat * 5)).block, (ad227.add ((x8_1).toNat * 5)).off + 3, none⟩ = some (.int .u64 ((rd_T26 l0 x8_1).f3)) ∧ w'.cell? ⟨(ad227.add ((x8_1).toNat * 5)).block, (ad227.add ((x8_1).toNat * 5)).off + 4, none⟩ = some (.int .i64 ((rd_T26 l0 x8_1).f4))) (ds := []) #[false, false, false, false, false, false, false, false, false, false, false, false] (by kernel_rfl) rfl rfl ⟨(blk_cell BK224.out 0).trans rfl, (blk_cell BK224.out 1).trans rfl, ((HB.out.cell (World.block_lt_of_cell? w _ hw236_0)).trans hw236_0), ((HB.out.cell (World.block_lt_of_cell? w _ hw236_1)).trans hw236_1), ((HB.out.cell (World.block_lt_of_cell? w _ hw236_2)).trans hw236_2), ((HB.out.cell (World.block_lt_of_cell? w _ hw236_3)).trans hw236_3), ((HB.out.cell (World.block_lt_of_cell? w _ hw236_4)).trans hw236_4)⟩ (fun hHeld => ?_); refine with_tabW tattlelaw16_DiskSteps.tab11 tattlelaw16_DiskSteps.bits11 (fun HT_ HW_ => ?_)
                              generalize w33.drew = w34 at BK224 BK225 BK235 HB hx236_0 hx236_1 hx236_2 hx236_3 hx236_4 hHeld ⊢
                              refine pure_ (i := 1) (N := some 65) (v := ?_) (a' := ?_) #[false, true, false, false, false, false, false, false, false, false, false, false] rfl rfl (any_of HT_.out (by kernel_rfl)) (fun _ _ _ h => h) (Or.inl ⟨by rfl, ?_⟩) ?_ ?_
                              rotate_left
                              · intro w'
                                go_simp
                                with_reducible rfl
                              rotate_left
                              · simp only [Act.put, List.setIfInBounds_toArray, List.set_cons_zero, List.set_cons_succ, i64_w, i32_w]
                                rfl
                              refine pure_ (i := 2) (N := some 66) (v := ?_) (a' := ?_) #[false, true, true, false, false, false, false, false, false, false, false, false] rfl rfl (any_of HT_.out (by kernel_rfl)) (fun _ _ _ h => h) (Or.inl ⟨by rfl, ?_⟩) ?_ ?_
                              rotate_left
                              · intro w'
                                go_simp
                                with_reducible rfl
                              rotate_left
                              · simp only [Act.put, List.setIfInBounds_toArray, List.set_cons_zero, List.set_cons_succ, i64_w, i32_w]
                                rfl
                              refine pure_ (i := 3) (N := some 67) (v := ?_) (a' := ?_) #[false, true, true, true, false, false, false, false, false, false, false, false] rfl rfl (any_of HT_.out (by kernel_rfl)) (fun _ _ _ h => h) (Or.inl ⟨by rfl, ?_⟩) ?_ ?_
                              rotate_left
                              · intro w'
                                go_simp
                                with_reducible rfl
                              rotate_left
                              · simp only [Act.put, List.setIfInBounds_toArray, List.set_cons_zero, List.set_cons_succ, i64_w, i32_w]
                                rfl
                              refine take_ (i := 0) (N := some 64) (v := ?_) (a' := ?_) #[true, true, true, true, false, false, false, false, false, false, false, false] rfl rfl (take_ofW HT_.out HW_.out (by kernel_rfl)) (fun _ _ _ h => h) (Or.inl ⟨by rfl, ?_⟩) hHeld ?_ ?_
                              rotate_left
                              · rintro w' ⟨s0, s1, s2, s3, s4, s5, s6⟩
                                go_simp
                                with_reducible rfl
                              rotate_left
                              · simp only [Act.put, List.setIfInBounds_toArray, List.set_cons_zero, List.set_cons_succ, i64_w, i32_w]
                                rfl
                              refine take_ (i := 4) (N := some 68) (v := ?_) (a' := ?_) #[true, true, true, true, true, false, false, false, false, false, false, false] rfl rfl (take_ofW HT_.out HW_.out (by kernel_rfl)) (fun _ _ _ h => h) (Or.inl ⟨by rfl, ?_⟩) hHeld ?_ ?_
                              rotate_left
                              · rintro w' ⟨s0, s1, s2, s3, s4, s5, s6⟩
                                go_simp
                                with_reducible rfl
                              rotate_left
                              · simp only [Act.put, List.setIfInBounds_toArray, List.set_cons_zero, List.set_cons_succ, i64_w, i32_w]
                                rfl
                              refine join_ (σ := Nat) 2 #[true, true, true, true, true, true, true, true, true, true, false, false] (fun s_ => [(69, .tuple #[.agg #[.string t237, .string t238], .int .i64 t239]), (12, .pointer (some ⟨s_, 0, none⟩)), (63, .tuple #[.agg #[.string t237, .string t238], .int .i64 t239]), (70, .agg #[.string t237, .string t238]), (71, .int .i64 t239)]) (fun s_ w' => (w'.cell? ⟨gb224, 0, none⟩ = some (.string x225000_1) ∧ w'.cell? ⟨gb224, 1, none⟩ = some (.string x225001_1) ∧ w'.cell? (ad227.add ((x8_1).toNat * 5)) = some (.int .u64 ((rd_T26 l0 x8_1).f0)) ∧ w'.cell? ⟨(ad227.add ((x8_1).toNat * 5)).block, (ad227.add ((x8_1).toNat * 5)).off + 1, none⟩ = some (.int .u64 ((rd_T26 l0 x8_1).f1)) ∧ w'.cell? ⟨(ad227.add ((x8_1).toNat * 5)).block, (ad227.add ((x8_1).toNat * 5)).off + 2, none⟩ = some (.int .u64 ((rd_T26 l0 x8_1).f2)) ∧ w'.cell? ⟨(ad227.add ((x8_1).toNat * 5)).block, (ad227.add ((x8_1).toNat * 5)).off + 3, none⟩ = some (.int .u64 ((rd_T26 l0 x8_1).f3)) ∧ w'.cell? ⟨(ad227.add ((x8_1).toNat * 5)).block, (ad227.add ((x8_1).toNat * 5)).off + 4, none⟩ = some (.int .i64 ((rd_T26 l0 x8_1).f4))) ∧ (w'.heap[gb224]? = some (.cells #[.string x225000_1, .string x225001_1] 23 (0, 0))) ∧ (w'.heap[gb225]? = some (.cells #[.int .u64 x226000_1, .int .u64 x226001_1, .int .u64 x226002_1, .int .u64 x226003_1, .int .i64 x226004_1] 26 (0, 0))) ∧ (w'.heap[gb235]? = some (.cells #[.string t232, .string t233] 23 (0, 0))) ∧ (w'.heap[s_]? = some (.cells #[.string (⟨#[]⟩ : ByteArray), .string (⟨#[]⟩ : ByteArray)] 23 (0, 0))) ∧ (w.heap.size ≤ s_) ∧ (w.heap.size ≤ s_) ∧ (gb224 ≠ s_) ∧ (s_ ≠ gb224) ∧ (gb225 ≠ s_) ∧ (s_ ≠ gb225) ∧ (gb235 ≠ s_) ∧ (s_ ≠ gb235) ∧ (Below w.heap.size w w')) ?_ ?_
                              rotate_left
                              · intro hCont
                                refine two_ (i := 5) (j := 9) (Ni := some 69) (Nj := some 12) #[true, true, true, true, true, true, false, false, false, false, false, false] #[true, true, true, true, true, false, false, false, false, true, false, false] rfl rfl rfl rfl (two_of HT_.out (by kernel_rfl)) (by decide) (by decide) (fun K hK => ?_) (fun K hK => ?_)
                                · skip
                                  refine goes_ Try.func18 (by kernel_rfl) rfl #[.agg #[.string x225000_1, .string x225001_1], .agg #[.int .u64 ((rd_T26 l0 x8_1).f0), .int .u64 ((rd_T26 l0 x8_1).f1), .int .u64 ((rd_T26 l0 x8_1).f2), .int .u64 ((rd_T26 l0 x8_1).f3), .int .i64 ((rd_T26 l0 x8_1).f4)]] (by rfl) rfl rfl (by (try simp only [List.map_toArray, List.map_cons, List.map_nil]); first | done | rfl | (simp only [List.length_drop, List.length_take]; rfl)) ?_
                                  with_reducible refine (disk_Write.calls kj17 x225000_1 x225001_1 ((rd_T26 l0 x8_1).f0) ((rd_T26 l0 x8_1).f1) ((rd_T26 l0 x8_1).f2) ((rd_T26 l0 x8_1).f3) ((rd_T26 l0 x8_1).f4) t237 t238 t239 _ A25.out).mono ?_
                                  rintro e w35 ⟨rfl, hb⟩
                                  refine ⟨_, rfl, ?_⟩
                                  have n0_ := Aside0.mk (blk_below (g := gb224) (o := .cells #[.string x225000_1, .string x225001_1] 23 (0, 0)) (by (with_reducible repeat (first | refine blk_drewN ?_ _ | refine blk_drew ?_ | refine blk_alloc ?_ _)); exact BK224.out) hb)
                                  have n1_ := Aside0.mk (blk_below (g := gb225) (o := .cells #[.int .u64 x226000_1, .int .u64 x226001_1, .int .u64 x226002_1, .int .u64 x226003_1, .int .i64 x226004_1] 26 (0, 0)) (by (with_reducible repeat (first | refine blk_drewN ?_ _ | refine blk_drew ?_ | refine blk_alloc ?_ _)); exact BK225.out) hb)
                                  have n2_ := Aside0.mk (blk_below (g := gb235) (o := .cells #[.string t232, .string t233] 23 (0, 0)) (by (with_reducible repeat (first | refine blk_drewN ?_ _ | refine blk_drew ?_ | refine blk_alloc ?_ _)); exact BK235.out) hb)
                                  have n3_ := Aside0.mk (below_step (by repeat (first | (with_reducible first | exact HB.out | apply below_alloc | apply pw_below_drewN | apply below_drew1 | refine below_set ?_ GE224.out | refine below_set ?_ GE225.out | refine below_set ?_ GE235.out) | exact HB.out)) hb)
                                  clear BK224
                                  clear BK225
                                  clear BK235
                                  clear HB
                                  have BK224 := n0_
                                  have BK225 := n1_
                                  have BK235 := n2_
                                  have HB := n3_
                                  clear n0_ n1_ n2_ n3_
                                  (try clear hb)
                                  (try clear hb2)
                                  (try clear hk)
                                  (try clear hi)
                                  refine hK.out _ _ ⟨(blk_cell BK224.out 0).trans rfl, (blk_cell BK224.out 1).trans rfl, ((HB.out.cell (World.block_lt_of_cell? w _ hw236_0)).trans hw236_0), ((HB.out.cell (World.block_lt_of_cell? w _ hw236_1)).trans hw236_1), ((HB.out.cell (World.block_lt_of_cell? w _ hw236_2)).trans hw236_2), ((HB.out.cell (World.block_lt_of_cell? w _ hw236_3)).trans hw236_3), ((HB.out.cell (World.block_lt_of_cell? w _ hw236_4)).trans hw236_4)⟩ (fun hHeld => ?_)
                                  clear hK K
                                  refine norm_ (a' := ?_) ?_ ?_
                                  rotate_left
                                  · show Act.put _ (some 69) _ = _
                                    simp only [Act.put, List.setIfInBounds_toArray, List.set_cons_zero, List.set_cons_succ, i64_w, i32_w]
                                    rfl
                                  refine pure_ (i := 6) (N := some 63) (v := ?_) (a' := ?_) #[true, true, true, true, true, true, true, false, false, false, false, false] rfl rfl (any_of HT_.out (by kernel_rfl)) (fun _ _ _ h => h) (Or.inl ⟨by rfl, ?_⟩) ?_ ?_
                                  rotate_left
                                  · intro w'
                                    go_simp
                                    with_reducible rfl
                                  rotate_left
                                  · simp only [Act.put, List.setIfInBounds_toArray, List.set_cons_zero, List.set_cons_succ, i64_w, i32_w]
                                    rfl
                                  refine pure_ (i := 7) (N := some 70) (v := ?_) (a' := ?_) #[true, true, true, true, true, true, true, true, false, false, false, false] rfl rfl (any_of HT_.out (by kernel_rfl)) (fun _ _ _ h => h) (Or.inl ⟨by rfl, ?_⟩) ?_ ?_
                                  rotate_left
                                  · intro w'
                                    go_simp
                                    with_reducible rfl
                                  rotate_left
                                  · simp only [Act.put, List.setIfInBounds_toArray, List.set_cons_zero, List.set_cons_succ, i64_w, i32_w]
                                    rfl
                                  refine pure_ (i := 8) (N := some 71) (v := ?_) (a' := ?_) #[true, true, true, true, true, true, true, true, true, false, false, false] rfl rfl (any_of HT_.out (by kernel_rfl)) (fun _ _ _ h => h) (Or.inl ⟨by rfl, ?_⟩) ?_ ?_
                                  rotate_left
                                  · intro w'
                                    go_simp
                                    with_reducible rfl
                                  rotate_left
                                  · simp only [Act.put, List.setIfInBounds_toArray, List.set_cons_zero, List.set_cons_succ, i64_w, i32_w]
                                    rfl
                                  refine one_ (i := 9) (N := some 12) #[true, true, true, true, true, true, true, true, true, true, false, false] rfl rfl (one_of HT_.out (by kernel_rfl)) (by decide) (fun K hK => ?_)
                                  refine box_step ?hg (N := 12) ?hd (cs := #[.string (⟨#[]⟩ : ByteArray), .string (⟨#[]⟩ : ByteArray)]) (t := 23) ?hr ?_; (case hd => rfl); (case hg => rfl); (case hr => first | (go_simp; done) | (go_simp; rfl))
                                  intro gb240 hg w36 hbox hb
                                  have n0_ := Aside0.mk (blk_below (g := gb224) (o := .cells #[.string x225000_1, .string x225001_1] 23 (0, 0)) (by (with_reducible repeat (first | refine blk_drewN ?_ _ | refine blk_drew ?_ | refine blk_alloc ?_ _)); exact BK224.out) hb)
                                  have n1_ := Aside0.mk (blk_below (g := gb225) (o := .cells #[.int .u64 x226000_1, .int .u64 x226001_1, .int .u64 x226002_1, .int .u64 x226003_1, .int .i64 x226004_1] 26 (0, 0)) (by (with_reducible repeat (first | refine blk_drewN ?_ _ | refine blk_drew ?_ | refine blk_alloc ?_ _)); exact BK225.out) hb)
                                  have n2_ := Aside0.mk (blk_below (g := gb235) (o := .cells #[.string t232, .string t233] 23 (0, 0)) (by (with_reducible repeat (first | refine blk_drewN ?_ _ | refine blk_drew ?_ | refine blk_alloc ?_ _)); exact BK235.out) hb)
                                  have n3_ := Aside0.mk (below_step (by repeat (first | (with_reducible first | exact HB.out | apply below_alloc | apply pw_below_drewN | apply below_drew1 | refine below_set ?_ GE224.out | refine below_set ?_ GE225.out | refine below_set ?_ GE235.out) | exact HB.out)) hb)
                                  have n4_ := Aside0.mk (hbox)
                                  have n5_ := Aside0.mk ((by rw [hg]; exact (below_size (by repeat (first | (with_reducible first | exact HB.out | apply below_alloc | apply pw_below_drewN | apply below_drew1 | refine below_set ?_ GE224.out | refine below_set ?_ GE225.out | refine below_set ?_ GE235.out) | exact HB.out))) : w.heap.size ≤ gb240))
                                  have n6_ := Aside0.mk ((by rw [hg]; exact (below_size (by repeat (first | (with_reducible first | exact HB.out | apply below_alloc | apply pw_below_drewN | apply below_drew1 | refine below_set ?_ GE224.out | refine below_set ?_ GE225.out | refine below_set ?_ GE235.out) | exact HB.out))) : w.heap.size ≤ gb240))
                                  have n7_ := Aside0.mk ((by rw [hg]; exact Nat.ne_of_lt (blk_lt (g := gb224) (o := .cells #[.string x225000_1, .string x225001_1] 23 (0, 0)) (by (with_reducible repeat (first | refine blk_drewN ?_ _ | refine blk_drew ?_ | refine blk_alloc ?_ _)); exact BK224.out)) : gb224 ≠ gb240))
                                  have n8_ := Aside0.mk ((by rw [hg]; exact Nat.ne_of_gt (blk_lt (g := gb224) (o := .cells #[.string x225000_1, .string x225001_1] 23 (0, 0)) (by (with_reducible repeat (first | refine blk_drewN ?_ _ | refine blk_drew ?_ | refine blk_alloc ?_ _)); exact BK224.out)) : gb240 ≠ gb224))
                                  have n9_ := Aside0.mk ((by rw [hg]; exact Nat.ne_of_lt (blk_lt (g := gb225) (o := .cells #[.int .u64 x226000_1, .int .u64 x226001_1, .int .u64 x226002_1, .int .u64 x226003_1, .int .i64 x226004_1] 26 (0, 0)) (by (with_reducible repeat (first | refine blk_drewN ?_ _ | refine blk_drew ?_ | refine blk_alloc ?_ _)); exact BK225.out)) : gb225 ≠ gb240))
                                  have n10_ := Aside0.mk ((by rw [hg]; exact Nat.ne_of_gt (blk_lt (g := gb225) (o := .cells #[.int .u64 x226000_1, .int .u64 x226001_1, .int .u64 x226002_1, .int .u64 x226003_1, .int .i64 x226004_1] 26 (0, 0)) (by (with_reducible repeat (first | refine blk_drewN ?_ _ | refine blk_drew ?_ | refine blk_alloc ?_ _)); exact BK225.out)) : gb240 ≠ gb225))
                                  have n11_ := Aside0.mk ((by rw [hg]; exact Nat.ne_of_lt (blk_lt (g := gb235) (o := .cells #[.string t232, .string t233] 23 (0, 0)) (by (with_reducible repeat (first | refine blk_drewN ?_ _ | refine blk_drew ?_ | refine blk_alloc ?_ _)); exact BK235.out)) : gb235 ≠ gb240))
                                  have n12_ := Aside0.mk ((by rw [hg]; exact Nat.ne_of_gt (blk_lt (g := gb235) (o := .cells #[.string t232, .string t233] 23 (0, 0)) (by (with_reducible repeat (first | refine blk_drewN ?_ _ | refine blk_drew ?_ | refine blk_alloc ?_ _)); exact BK235.out)) : gb240 ≠ gb235))
                                  clear BK224
                                  clear BK225
                                  clear BK235
                                  clear HB
                                  have BK224 := n0_
                                  have BK225 := n1_
                                  have BK235 := n2_
                                  have HB := n3_
                                  have BK240 := n4_
                                  have GW240 := n5_
                                  have GE240 := n6_
                                  have NB224_240 := n7_
                                  have NB240_224 := n8_
                                  have NB225_240 := n9_
                                  have NB240_225 := n10_
                                  have NB235_240 := n11_
                                  have NB240_235 := n12_
                                  clear n0_ n1_ n2_ n3_ n4_ n5_ n6_ n7_ n8_ n9_ n10_ n11_ n12_
                                  clear hb hbox hg
                                  refine hK.out _ _ ⟨(blk_cell BK224.out 0).trans rfl, (blk_cell BK224.out 1).trans rfl, ((HB.out.cell (World.block_lt_of_cell? w _ hw236_0)).trans hw236_0), ((HB.out.cell (World.block_lt_of_cell? w _ hw236_1)).trans hw236_1), ((HB.out.cell (World.block_lt_of_cell? w _ hw236_2)).trans hw236_2), ((HB.out.cell (World.block_lt_of_cell? w _ hw236_3)).trans hw236_3), ((HB.out.cell (World.block_lt_of_cell? w _ hw236_4)).trans hw236_4)⟩ (fun hHeld => ?_)
                                  clear hK K
                                  refine norm_ (a' := ?_) ?_ ?_
                                  rotate_left
                                  · show Act.put _ (some 12) _ = _
                                    simp only [Act.put, List.setIfInBounds_toArray, List.set_cons_zero, List.set_cons_succ, i64_w, i32_w]
                                    rfl
                                  exact norm_ (by simp only [putAll, Act.put, List.setIfInBounds_toArray, List.set_cons_zero, List.set_cons_succ]) (hCont (gb240) _ ⟨hHeld, (by (with_reducible repeat (first | refine blk_drewN ?_ _ | refine blk_drew ?_ | refine blk_alloc ?_ _)); exact BK224.out), (by (with_reducible repeat (first | refine blk_drewN ?_ _ | refine blk_drew ?_ | refine blk_alloc ?_ _)); exact BK225.out), (by (with_reducible repeat (first | refine blk_drewN ?_ _ | refine blk_drew ?_ | refine blk_alloc ?_ _)); exact BK235.out), (by (with_reducible repeat (first | refine blk_drewN ?_ _ | refine blk_drew ?_ | refine blk_alloc ?_ _)); exact BK240.out), GW240.out, GE240.out, NB224_240.out, NB240_224.out, NB225_240.out, NB240_225.out, NB235_240.out, NB240_235.out, (by repeat (first | (with_reducible first | exact HB.out | apply below_alloc | apply pw_below_drewN | apply below_drew1 | refine below_set ?_ GE224.out | refine below_set ?_ GE225.out | refine below_set ?_ GE235.out | refine below_set ?_ GE240.out) | exact HB.out))⟩)
                                · skip
                                  refine box_step ?hg (N := 12) ?hd (cs := #[.string (⟨#[]⟩ : ByteArray), .string (⟨#[]⟩ : ByteArray)]) (t := 23) ?hr ?_; (case hd => rfl); (case hg => rfl); (case hr => first | (go_simp; done) | (go_simp; rfl))
                                  intro gb240 hg w35 hbox hb
                                  have n0_ := Aside0.mk (blk_below (g := gb224) (o := .cells #[.string x225000_1, .string x225001_1] 23 (0, 0)) (by (with_reducible repeat (first | refine blk_drewN ?_ _ | refine blk_drew ?_ | refine blk_alloc ?_ _)); exact BK224.out) hb)
                                  have n1_ := Aside0.mk (blk_below (g := gb225) (o := .cells #[.int .u64 x226000_1, .int .u64 x226001_1, .int .u64 x226002_1, .int .u64 x226003_1, .int .i64 x226004_1] 26 (0, 0)) (by (with_reducible repeat (first | refine blk_drewN ?_ _ | refine blk_drew ?_ | refine blk_alloc ?_ _)); exact BK225.out) hb)
                                  have n2_ := Aside0.mk (blk_below (g := gb235) (o := .cells #[.string t232, .string t233] 23 (0, 0)) (by (with_reducible repeat (first | refine blk_drewN ?_ _ | refine blk_drew ?_ | refine blk_alloc ?_ _)); exact BK235.out) hb)
                                  have n3_ := Aside0.mk (below_step (by repeat (first | (with_reducible first | exact HB.out | apply below_alloc | apply pw_below_drewN | apply below_drew1 | refine below_set ?_ GE224.out | refine below_set ?_ GE225.out | refine below_set ?_ GE235.out) | exact HB.out)) hb)
                                  have n4_ := Aside0.mk (hbox)
                                  have n5_ := Aside0.mk ((by rw [hg]; exact (below_size (by repeat (first | (with_reducible first | exact HB.out | apply below_alloc | apply pw_below_drewN | apply below_drew1 | refine below_set ?_ GE224.out | refine below_set ?_ GE225.out | refine below_set ?_ GE235.out) | exact HB.out))) : w.heap.size ≤ gb240))
                                  have n6_ := Aside0.mk ((by rw [hg]; exact (below_size (by repeat (first | (with_reducible first | exact HB.out | apply below_alloc | apply pw_below_drewN | apply below_drew1 | refine below_set ?_ GE224.out | refine below_set ?_ GE225.out | refine below_set ?_ GE235.out) | exact HB.out))) : w.heap.size ≤ gb240))
                                  have n7_ := Aside0.mk ((by rw [hg]; exact Nat.ne_of_lt (blk_lt (g := gb224) (o := .cells #[.string x225000_1, .string x225001_1] 23 (0, 0)) (by (with_reducible repeat (first | refine blk_drewN ?_ _ | refine blk_drew ?_ | refine blk_alloc ?_ _)); exact BK224.out)) : gb224 ≠ gb240))
                                  have n8_ := Aside0.mk ((by rw [hg]; exact Nat.ne_of_gt (blk_lt (g := gb224) (o := .cells #[.string x225000_1, .string x225001_1] 23 (0, 0)) (by (with_reducible repeat (first | refine blk_drewN ?_ _ | refine blk_drew ?_ | refine blk_alloc ?_ _)); exact BK224.out)) : gb240 ≠ gb224))
                                  have n9_ := Aside0.mk ((by rw [hg]; exact Nat.ne_of_lt (blk_lt (g := gb225) (o := .cells #[.int .u64 x226000_1, .int .u64 x226001_1, .int .u64 x226002_1, .int .u64 x226003_1, .int .i64 x226004_1] 26 (0, 0)) (by (with_reducible repeat (first | refine blk_drewN ?_ _ | refine blk_drew ?_ | refine blk_alloc ?_ _)); exact BK225.out)) : gb225 ≠ gb240))
                                  have n10_ := Aside0.mk ((by rw [hg]; exact Nat.ne_of_gt (blk_lt (g := gb225) (o := .cells #[.int .u64 x226000_1, .int .u64 x226001_1, .int .u64 x226002_1, .int .u64 x226003_1, .int .i64 x226004_1] 26 (0, 0)) (by (with_reducible repeat (first | refine blk_drewN ?_ _ | refine blk_drew ?_ | refine blk_alloc ?_ _)); exact BK225.out)) : gb240 ≠ gb225))
                                  have n11_ := Aside0.mk ((by rw [hg]; exact Nat.ne_of_lt (blk_lt (g := gb235) (o := .cells #[.string t232, .string t233] 23 (0, 0)) (by (with_reducible repeat (first | refine blk_drewN ?_ _ | refine blk_drew ?_ | refine blk_alloc ?_ _)); exact BK235.out)) : gb235 ≠ gb240))
                                  have n12_ := Aside0.mk ((by rw [hg]; exact Nat.ne_of_gt (blk_lt (g := gb235) (o := .cells #[.string t232, .string t233] 23 (0, 0)) (by (with_reducible repeat (first | refine blk_drewN ?_ _ | refine blk_drew ?_ | refine blk_alloc ?_ _)); exact BK235.out)) : gb240 ≠ gb235))
                                  clear BK224
                                  clear BK225
                                  clear BK235
                                  clear HB
                                  have BK224 := n0_
                                  have BK225 := n1_
                                  have BK235 := n2_
                                  have HB := n3_
                                  have BK240 := n4_
                                  have GW240 := n5_
                                  have GE240 := n6_
                                  have NB224_240 := n7_
                                  have NB240_224 := n8_
                                  have NB225_240 := n9_
                                  have NB240_225 := n10_
                                  have NB235_240 := n11_
                                  have NB240_235 := n12_
                                  clear n0_ n1_ n2_ n3_ n4_ n5_ n6_ n7_ n8_ n9_ n10_ n11_ n12_
                                  clear hb hbox hg
                                  refine hK.out _ _ ⟨(blk_cell BK224.out 0).trans rfl, (blk_cell BK224.out 1).trans rfl, ((HB.out.cell (World.block_lt_of_cell? w _ hw236_0)).trans hw236_0), ((HB.out.cell (World.block_lt_of_cell? w _ hw236_1)).trans hw236_1), ((HB.out.cell (World.block_lt_of_cell? w _ hw236_2)).trans hw236_2), ((HB.out.cell (World.block_lt_of_cell? w _ hw236_3)).trans hw236_3), ((HB.out.cell (World.block_lt_of_cell? w _ hw236_4)).trans hw236_4)⟩ (fun hHeld => ?_)
                                  clear hK K
                                  refine norm_ (a' := ?_) ?_ ?_
                                  rotate_left
                                  · show Act.put _ (some 12) _ = _
                                    simp only [Act.put, List.setIfInBounds_toArray, List.set_cons_zero, List.set_cons_succ, i64_w, i32_w]
                                    rfl
                                  refine one_ (i := 5) (N := some 69) #[true, true, true, true, true, true, false, false, false, true, false, false] rfl rfl (one_of HT_.out (by kernel_rfl)) (by decide) (fun K hK => ?_)
                                  refine goes_ Try.func18 (by kernel_rfl) rfl #[.agg #[.string x225000_1, .string x225001_1], .agg #[.int .u64 ((rd_T26 l0 x8_1).f0), .int .u64 ((rd_T26 l0 x8_1).f1), .int .u64 ((rd_T26 l0 x8_1).f2), .int .u64 ((rd_T26 l0 x8_1).f3), .int .i64 ((rd_T26 l0 x8_1).f4)]] (by rfl) rfl rfl (by (try simp only [List.map_toArray, List.map_cons, List.map_nil]); first | done | rfl | (simp only [List.length_drop, List.length_take]; rfl)) ?_
                                  with_reducible refine (disk_Write.calls kj17 x225000_1 x225001_1 ((rd_T26 l0 x8_1).f0) ((rd_T26 l0 x8_1).f1) ((rd_T26 l0 x8_1).f2) ((rd_T26 l0 x8_1).f3) ((rd_T26 l0 x8_1).f4) t237 t238 t239 _ A25.out).mono ?_
                                  rintro e w36 ⟨rfl, hb⟩
                                  refine ⟨_, rfl, ?_⟩
                                  have n0_ := Aside0.mk (blk_below (g := gb224) (o := .cells #[.string x225000_1, .string x225001_1] 23 (0, 0)) (by (with_reducible repeat (first | refine blk_drewN ?_ _ | refine blk_drew ?_ | refine blk_alloc ?_ _)); exact BK224.out) hb)
                                  have n1_ := Aside0.mk (blk_below (g := gb225) (o := .cells #[.int .u64 x226000_1, .int .u64 x226001_1, .int .u64 x226002_1, .int .u64 x226003_1, .int .i64 x226004_1] 26 (0, 0)) (by (with_reducible repeat (first | refine blk_drewN ?_ _ | refine blk_drew ?_ | refine blk_alloc ?_ _)); exact BK225.out) hb)
                                  have n2_ := Aside0.mk (blk_below (g := gb235) (o := .cells #[.string t232, .string t233] 23 (0, 0)) (by (with_reducible repeat (first | refine blk_drewN ?_ _ | refine blk_drew ?_ | refine blk_alloc ?_ _)); exact BK235.out) hb)
                                  have n3_ := Aside0.mk (blk_below (g := gb240) (o := .cells #[.string (⟨#[]⟩ : ByteArray), .string (⟨#[]⟩ : ByteArray)] 23 (0, 0)) (by (with_reducible repeat (first | refine blk_drewN ?_ _ | refine blk_drew ?_ | refine blk_alloc ?_ _)); exact BK240.out) hb)
                                  have n4_ := Aside0.mk (below_step (by repeat (first | (with_reducible first | exact HB.out | apply below_alloc | apply pw_below_drewN | apply below_drew1 | refine below_set ?_ GE224.out | refine below_set ?_ GE225.out | refine below_set ?_ GE235.out | refine below_set ?_ GE240.out) | exact HB.out)) hb)
                                  clear BK224
                                  clear BK225
                                  clear BK235
                                  clear BK240
                                  clear HB
                                  have BK224 := n0_
                                  have BK225 := n1_
                                  have BK235 := n2_
                                  have BK240 := n3_
                                  have HB := n4_
                                  clear n0_ n1_ n2_ n3_ n4_
                                  (try clear hb)
                                  (try clear hb2)
                                  (try clear hk)
                                  (try clear hi)
                                  refine hK.out _ _ ⟨(blk_cell BK224.out 0).trans rfl, (blk_cell BK224.out 1).trans rfl, ((HB.out.cell (World.block_lt_of_cell? w _ hw236_0)).trans hw236_0), ((HB.out.cell (World.block_lt_of_cell? w _ hw236_1)).trans hw236_1), ((HB.out.cell (World.block_lt_of_cell? w _ hw236_2)).trans hw236_2), ((HB.out.cell (World.block_lt_of_cell? w _ hw236_3)).trans hw236_3), ((HB.out.cell (World.block_lt_of_cell? w _ hw236_4)).trans hw236_4)⟩ (fun hHeld => ?_)
                                  clear hK K
                                  refine norm_ (a' := ?_) ?_ ?_
                                  rotate_left
                                  · show Act.put _ (some 69) _ = _
                                    simp only [Act.put, List.setIfInBounds_toArray, List.set_cons_zero, List.set_cons_succ, i64_w, i32_w]
                                    rfl
                                  refine pure_ (i := 6) (N := some 63) (v := ?_) (a' := ?_) #[true, true, true, true, true, true, true, false, false, true, false, false] rfl rfl (any_of HT_.out (by kernel_rfl)) (fun _ _ _ h => h) (Or.inl ⟨by rfl, ?_⟩) ?_ ?_
                                  rotate_left
                                  · intro w'
                                    go_simp
                                    with_reducible rfl
                                  rotate_left
                                  · simp only [Act.put, List.setIfInBounds_toArray, List.set_cons_zero, List.set_cons_succ, i64_w, i32_w]
                                    rfl
                                  refine pure_ (i := 7) (N := some 70) (v := ?_) (a' := ?_) #[true, true, true, true, true, true, true, true, false, true, false, false] rfl rfl (any_of HT_.out (by kernel_rfl)) (fun _ _ _ h => h) (Or.inl ⟨by rfl, ?_⟩) ?_ ?_
                                  rotate_left
                                  · intro w'
                                    go_simp
                                    with_reducible rfl
                                  rotate_left
                                  · simp only [Act.put, List.setIfInBounds_toArray, List.set_cons_zero, List.set_cons_succ, i64_w, i32_w]
                                    rfl
                                  refine pure_ (i := 8) (N := some 71) (v := ?_) (a' := ?_) #[true, true, true, true, true, true, true, true, true, true, false, false] rfl rfl (any_of HT_.out (by kernel_rfl)) (fun _ _ _ h => h) (Or.inl ⟨by rfl, ?_⟩) ?_ ?_
                                  rotate_left
                                  · intro w'
                                    go_simp
                                    with_reducible rfl
                                  rotate_left
                                  · simp only [Act.put, List.setIfInBounds_toArray, List.set_cons_zero, List.set_cons_succ, i64_w, i32_w]
                                    rfl
                                  exact norm_ (by simp only [putAll, Act.put, List.setIfInBounds_toArray, List.set_cons_zero, List.set_cons_succ]) (hCont (gb240) _ ⟨hHeld, (by (with_reducible repeat (first | refine blk_drewN ?_ _ | refine blk_drew ?_ | refine blk_alloc ?_ _)); exact BK224.out), (by (with_reducible repeat (first | refine blk_drewN ?_ _ | refine blk_drew ?_ | refine blk_alloc ?_ _)); exact BK225.out), (by (with_reducible repeat (first | refine blk_drewN ?_ _ | refine blk_drew ?_ | refine blk_alloc ?_ _)); exact BK235.out), (by (with_reducible repeat (first | refine blk_drewN ?_ _ | refine blk_drew ?_ | refine blk_alloc ?_ _)); exact BK240.out), GW240.out, GE240.out, NB224_240.out, NB240_224.out, NB225_240.out, NB240_225.out, NB235_240.out, NB240_235.out, (by repeat (first | (with_reducible first | exact HB.out | apply below_alloc | apply pw_below_drewN | apply below_drew1 | refine below_set ?_ GE224.out | refine below_set ?_ GE225.out | refine below_set ?_ GE235.out | refine below_set ?_ GE240.out) | exact HB.out))⟩)
                              rintro gb240 w37 ⟨hS_, h0_, h1_, h2_, h3_, h4_, h5_, h6_, h7_, h8_, h9_, h10_, h11_, h12_⟩
                              have n0_ : Aside0 (w37.heap[gb224]? = some (.cells #[.string x225000_1, .string x225001_1] 23 (0, 0))) := ⟨h0_⟩
                              have n1_ : Aside0 (w37.heap[gb225]? = some (.cells #[.int .u64 x226000_1, .int .u64 x226001_1, .int .u64 x226002_1, .int .u64 x226003_1, .int .i64 x226004_1] 26 (0, 0))) := ⟨h1_⟩
                              have n2_ : Aside0 (w37.heap[gb235]? = some (.cells #[.string t232, .string t233] 23 (0, 0))) := ⟨h2_⟩
                              have n3_ : Aside0 (w37.heap[gb240]? = some (.cells #[.string (⟨#[]⟩ : ByteArray), .string (⟨#[]⟩ : ByteArray)] 23 (0, 0))) := ⟨h3_⟩
                              have n4_ : Aside0 (w.heap.size ≤ gb240) := ⟨h4_⟩
                              have n5_ : Aside0 (w.heap.size ≤ gb240) := ⟨h5_⟩
                              have n6_ : Aside0 (gb224 ≠ gb240) := ⟨h6_⟩
                              have n7_ : Aside0 (gb240 ≠ gb224) := ⟨h7_⟩
                              have n8_ : Aside0 (gb225 ≠ gb240) := ⟨h8_⟩
                              have n9_ : Aside0 (gb240 ≠ gb225) := ⟨h9_⟩
                              have n10_ : Aside0 (gb235 ≠ gb240) := ⟨h10_⟩
                              have n11_ : Aside0 (gb240 ≠ gb235) := ⟨h11_⟩
                              have n12_ : Aside0 (Below w.heap.size w w37) := ⟨h12_⟩
                              clear BK224
                              clear BK225
                              clear BK235
                              clear HB
                              clear h0_ h1_ h2_ h3_ h4_ h5_ h6_ h7_ h8_ h9_ h10_ h11_ h12_
                              have BK224 := n0_
                              have BK225 := n1_
                              have BK235 := n2_
                              have BK240 := n3_
                              have GW240 := n4_
                              have GE240 := n5_
                              have NB224_240 := n6_
                              have NB240_224 := n7_
                              have NB225_240 := n8_
                              have NB240_225 := n9_
                              have NB235_240 := n10_
                              have NB240_235 := n11_
                              have HB := n12_
                              clear n0_ n1_ n2_ n3_ n4_ n5_ n6_ n7_ n8_ n9_ n10_ n11_ n12_
                              have hHeld : w37.cell? ⟨gb224, 0, none⟩ = some (.string x225000_1) ∧ w37.cell? ⟨gb224, 1, none⟩ = some (.string x225001_1) ∧ w37.cell? (ad227.add ((x8_1).toNat * 5)) = some (.int .u64 ((rd_T26 l0 x8_1).f0)) ∧ w37.cell? ⟨(ad227.add ((x8_1).toNat * 5)).block, (ad227.add ((x8_1).toNat * 5)).off + 1, none⟩ = some (.int .u64 ((rd_T26 l0 x8_1).f1)) ∧ w37.cell? ⟨(ad227.add ((x8_1).toNat * 5)).block, (ad227.add ((x8_1).toNat * 5)).off + 2, none⟩ = some (.int .u64 ((rd_T26 l0 x8_1).f2)) ∧ w37.cell? ⟨(ad227.add ((x8_1).toNat * 5)).block, (ad227.add ((x8_1).toNat * 5)).off + 3, none⟩ = some (.int .u64 ((rd_T26 l0 x8_1).f3)) ∧ w37.cell? ⟨(ad227.add ((x8_1).toNat * 5)).block, (ad227.add ((x8_1).toNat * 5)).off + 4, none⟩ = some (.int .i64 ((rd_T26 l0 x8_1).f4)) := hS_
                              refine norm_ (a' := ?_) ?_ ?_
                              rotate_left
                              · simp only [putAll, Act.put, List.setIfInBounds_toArray, List.set_cons_zero, List.set_cons_succ]
                                rfl
                              refine one_ (i := 10) (N := none) #[true, true, true, true, true, true, true, true, true, true, true, false] rfl rfl (one_of HT_.out (by kernel_rfl)) (by decide) (fun K hK => ?_)
                              have hs38 : w37.cell? ⟨gb240, 0, none⟩ = some (.string (⟨#[]⟩ : ByteArray)) := (blk_cell BK240.out 0).trans rfl
                              have hfs38 := blk_frozen BK240.out 0
                              have hns38_0 := NB224_240.out
                              have hns38_1 := NB225_240.out
                              have hns38_2 := NB235_240.out
                              have hms38_0 := NB240_224.out
                              have hms38_1 := NB240_225.out
                              have hms38_2 := NB240_235.out
                              have hs39 : w37.cell? ⟨gb240, 1, none⟩ = some (.string (⟨#[]⟩ : ByteArray)) := (blk_cell BK240.out 1).trans rfl
                              have hfs39 := blk_frozen BK240.out 1
                              have hns39_0 := NB224_240.out
                              have hns39_1 := NB225_240.out
                              have hns39_2 := NB235_240.out
                              have hms39_0 := NB240_224.out
                              have hms39_1 := NB240_225.out
                              have hms39_2 := NB240_235.out
                              refine skip_ (w1 := ?_) (by rfl) rfl ?_ ?_
                              rotate_left
                              · go_simp
                                rfl
                              refine hK.out _ _ ⟨((cell_far (p := ⟨gb240, _, none⟩) NB224_240.out _).trans (((cell_far (p := ⟨gb240, _, none⟩) NB224_240.out _).trans (hHeld.1)))), ((cell_far (p := ⟨gb240, _, none⟩) NB224_240.out _).trans (((cell_far (p := ⟨gb240, _, none⟩) NB224_240.out _).trans (hHeld.2.1)))), ((cell_far (p := ⟨gb240, _, none⟩) (by first | exact Nat.ne_of_lt (Nat.lt_of_lt_of_le (by have := World.block_lt_of_cell? _ _ hw236_0; first | rwa [add_block] at this | exact this) GW240.out) | (rw [add_block]; exact Nat.ne_of_lt (Nat.lt_of_lt_of_le (by have := World.block_lt_of_cell? _ _ hw236_0; first | rwa [add_block] at this | exact this) GW240.out)) | (show (Addr.add _ _).block ≠ _; rw [add_block]; exact Nat.ne_of_lt (Nat.lt_of_lt_of_le (by have := World.block_lt_of_cell? _ _ hw236_0; first | rwa [add_block] at this | exact this) GW240.out)) | (dsimp only; exact Nat.ne_of_lt (Nat.lt_of_lt_of_le (by have := World.block_lt_of_cell? _ _ hw236_0; first | rwa [add_block] at this | exact this) GW240.out))) _).trans (((cell_far (p := ⟨gb240, _, none⟩) (by first | exact Nat.ne_of_lt (Nat.lt_of_lt_of_le (by have := World.block_lt_of_cell? _ _ hw236_0; first | rwa [add_block] at this | exact this) GW240.out) | (rw [add_block]; exact Nat.ne_of_lt (Nat.lt_of_lt_of_le (by have := World.block_lt_of_cell? _ _ hw236_0; first | rwa [add_block] at this | exact this) GW240.out)) | (show (Addr.add _ _).block ≠ _; rw [add_block]; exact Nat.ne_of_lt (Nat.lt_of_lt_of_le (by have := World.block_lt_of_cell? _ _ hw236_0; first | rwa [add_block] at this | exact this) GW240.out)) | (dsimp only; exact Nat.ne_of_lt (Nat.lt_of_lt_of_le (by have := World.block_lt_of_cell? _ _ hw236_0; first | rwa [add_block] at this | exact this) GW240.out))) _).trans (hHeld.2.2.1)))), ((cell_far (p := ⟨gb240, _, none⟩) (by first | exact Nat.ne_of_lt (Nat.lt_of_lt_of_le (by have := World.block_lt_of_cell? _ _ hw236_1; first | rwa [add_block] at this | exact this) GW240.out) | (rw [add_block]; exact Nat.ne_of_lt (Nat.lt_of_lt_of_le (by have := World.block_lt_of_cell? _ _ hw236_1; first | rwa [add_block] at this | exact this) GW240.out)) | (show (Addr.add _ _).block ≠ _; rw [add_block]; exact Nat.ne_of_lt (Nat.lt_of_lt_of_le (by have := World.block_lt_of_cell? _ _ hw236_1; first | rwa [add_block] at this | exact this) GW240.out)) | (dsimp only; exact Nat.ne_of_lt (Nat.lt_of_lt_of_le (by have := World.block_lt_of_cell? _ _ hw236_1; first | rwa [add_block] at this | exact this) GW240.out))) _).trans (((cell_far (p := ⟨gb240, _, none⟩) (by first | exact Nat.ne_of_lt (Nat.lt_of_lt_of_le (by have := World.block_lt_of_cell? _ _ hw236_1; first | rwa [add_block] at this | exact this) GW240.out) | (rw [add_block]; exact Nat.ne_of_lt (Nat.lt_of_lt_of_le (by have := World.block_lt_of_cell? _ _ hw236_1; first | rwa [add_block] at this | exact this) GW240.out)) | (show (Addr.add _ _).block ≠ _; rw [add_block]; exact Nat.ne_of_lt (Nat.lt_of_lt_of_le (by have := World.block_lt_of_cell? _ _ hw236_1; first | rwa [add_block] at this | exact this) GW240.out)) | (dsimp only; exact Nat.ne_of_lt (Nat.lt_of_lt_of_le (by have := World.block_lt_of_cell? _ _ hw236_1; first | rwa [add_block] at this | exact this) GW240.out))) _).trans (hHeld.2.2.2.1)))), ((cell_far (p := ⟨gb240, _, none⟩) (by first | exact Nat.ne_of_lt (Nat.lt_of_lt_of_le (by have := World.block_lt_of_cell? _ _ hw236_2; first | rwa [add_block] at this | exact this) GW240.out) | (rw [add_block]; exact Nat.ne_of_lt (Nat.lt_of_lt_of_le (by have := World.block_lt_of_cell? _ _ hw236_2; first | rwa [add_block] at this | exact this) GW240.out)) | (show (Addr.add _ _).block ≠ _; rw [add_block]; exact Nat.ne_of_lt (Nat.lt_of_lt_of_le (by have := World.block_lt_of_cell? _ _ hw236_2; first | rwa [add_block] at this | exact this) GW240.out)) | (dsimp only; exact Nat.ne_of_lt (Nat.lt_of_lt_of_le (by have := World.block_lt_of_cell? _ _ hw236_2; first | rwa [add_block] at this | exact this) GW240.out))) _).trans (((cell_far (p := ⟨gb240, _, none⟩) (by first | exact Nat.ne_of_lt (Nat.lt_of_lt_of_le (by have := World.block_lt_of_cell? _ _ hw236_2; first | rwa [add_block] at this | exact this) GW240.out) | (rw [add_block]; exact Nat.ne_of_lt (Nat.lt_of_lt_of_le (by have := World.block_lt_of_cell? _ _ hw236_2; first | rwa [add_block] at this | exact this) GW240.out)) | (show (Addr.add _ _).block ≠ _; rw [add_block]; exact Nat.ne_of_lt (Nat.lt_of_lt_of_le (by have := World.block_lt_of_cell? _ _ hw236_2; first | rwa [add_block] at this | exact this) GW240.out)) | (dsimp only; exact Nat.ne_of_lt (Nat.lt_of_lt_of_le (by have := World.block_lt_of_cell? _ _ hw236_2; first | rwa [add_block] at this | exact this) GW240.out))) _).trans (hHeld.2.2.2.2.1)))), ((cell_far (p := ⟨gb240, _, none⟩) (by first | exact Nat.ne_of_lt (Nat.lt_of_lt_of_le (by have := World.block_lt_of_cell? _ _ hw236_3; first | rwa [add_block] at this | exact this) GW240.out) | (rw [add_block]; exact Nat.ne_of_lt (Nat.lt_of_lt_of_le (by have := World.block_lt_of_cell? _ _ hw236_3; first | rwa [add_block] at this | exact this) GW240.out)) | (show (Addr.add _ _).block ≠ _; rw [add_block]; exact Nat.ne_of_lt (Nat.lt_of_lt_of_le (by have := World.block_lt_of_cell? _ _ hw236_3; first | rwa [add_block] at this | exact this) GW240.out)) | (dsimp only; exact Nat.ne_of_lt (Nat.lt_of_lt_of_le (by have := World.block_lt_of_cell? _ _ hw236_3; first | rwa [add_block] at this | exact this) GW240.out))) _).trans (((cell_far (p := ⟨gb240, _, none⟩) (by first | exact Nat.ne_of_lt (Nat.lt_of_lt_of_le (by have := World.block_lt_of_cell? _ _ hw236_3; first | rwa [add_block] at this | exact this) GW240.out) | (rw [add_block]; exact Nat.ne_of_lt (Nat.lt_of_lt_of_le (by have := World.block_lt_of_cell? _ _ hw236_3; first | rwa [add_block] at this | exact this) GW240.out)) | (show (Addr.add _ _).block ≠ _; rw [add_block]; exact Nat.ne_of_lt (Nat.lt_of_lt_of_le (by have := World.block_lt_of_cell? _ _ hw236_3; first | rwa [add_block] at this | exact this) GW240.out)) | (dsimp only; exact Nat.ne_of_lt (Nat.lt_of_lt_of_le (by have := World.block_lt_of_cell? _ _ hw236_3; first | rwa [add_block] at this | exact this) GW240.out))) _).trans (hHeld.2.2.2.2.2.1)))), ((cell_far (p := ⟨gb240, _, none⟩) (by first | exact Nat.ne_of_lt (Nat.lt_of_lt_of_le (by have := World.block_lt_of_cell? _ _ hw236_4; first | rwa [add_block] at this | exact this) GW240.out) | (rw [add_block]; exact Nat.ne_of_lt (Nat.lt_of_lt_of_le (by have := World.block_lt_of_cell? _ _ hw236_4; first | rwa [add_block] at this | exact this) GW240.out)) | (show (Addr.add _ _).block ≠ _; rw [add_block]; exact Nat.ne_of_lt (Nat.lt_of_lt_of_le (by have := World.block_lt_of_cell? _ _ hw236_4; first | rwa [add_block] at this | exact this) GW240.out)) | (dsimp only; exact Nat.ne_of_lt (Nat.lt_of_lt_of_le (by have := World.block_lt_of_cell? _ _ hw236_4; first | rwa [add_block] at this | exact this) GW240.out))) _).trans (((cell_far (p := ⟨gb240, _, none⟩) (by first | exact Nat.ne_of_lt (Nat.lt_of_lt_of_le (by have := World.block_lt_of_cell? _ _ hw236_4; first | rwa [add_block] at this | exact this) GW240.out) | (rw [add_block]; exact Nat.ne_of_lt (Nat.lt_of_lt_of_le (by have := World.block_lt_of_cell? _ _ hw236_4; first | rwa [add_block] at this | exact this) GW240.out)) | (show (Addr.add _ _).block ≠ _; rw [add_block]; exact Nat.ne_of_lt (Nat.lt_of_lt_of_le (by have := World.block_lt_of_cell? _ _ hw236_4; first | rwa [add_block] at this | exact this) GW240.out)) | (dsimp only; exact Nat.ne_of_lt (Nat.lt_of_lt_of_le (by have := World.block_lt_of_cell? _ _ hw236_4; first | rwa [add_block] at this | exact this) GW240.out))) _).trans (hHeld.2.2.2.2.2.2))))⟩ (fun hHeld => ?_)
                              clear hK K
                              refine pure_ (i := 11) (N := some 13) (v := ?_) (a' := ?_) #[true, true, true, true, true, true, true, true, true, true, true, true] rfl rfl (any_of HT_.out (by kernel_rfl)) (fun _ _ _ h => h) (Or.inl ⟨by rfl, ?_⟩) ?_ ?_
                              rotate_left
                              · intro w'
                                go_simp
                                with_reducible rfl
                              rotate_left
                              · simp only [Act.put, List.setIfInBounds_toArray, List.set_cons_zero, List.set_cons_succ, i64_w, i32_w]
                                rfl
                              refine done_ (done_of HT_.out (by kernel_rfl)) ?_
                              go_upto_region 12 with (fail)
                              go_cut [77] (fun v77 wc => ∃ (kq : Nat) (x77_25 : Bool), v77 = .bool x77_25 ∧ Aside0 (tattlelaw16_DiskSteps.j4 kq l0 l1 x7_1 x8_1 x77_25 x225000_1 x225001_1 x226000_1 x226001_1 x226002_1 x226003_1 x226004_1 t232 t233 t237 t238 = some r) ∧ Aside0 (kq ≤ kj17) ∧ Aside0 (wc.heap[gb224]? = some (.cells #[.string x225000_1, .string x225001_1] 23 (0, 0))) ∧ Aside0 (wc.heap[gb225]? = some (.cells #[.int .u64 x226000_1, .int .u64 x226001_1, .int .u64 x226002_1, .int .u64 x226003_1, .int .i64 x226004_1] 26 (0, 0))) ∧ Aside0 (wc.heap[gb235]? = some (.cells #[.string t232, .string t233] 23 (0, 0))) ∧ Aside0 (wc.heap[gb240]? = some (.cells #[.string t237, .string t238] 23 (0, 0))) ∧ Aside0 (Below w.heap.size w wc))
                              case first =>
                                have H := HC26.out
                                clear HC26
                                by_cases c40 : t234 = 0
                                · rw [if_pos c40] at H
                                  have c40b0 : (t234 == 0) = true := beq_iff_eq.mpr c40
                                  have c40b1 : (t234 != 0) = false := bne_eq_false_iff_eq.mpr c40
                                  clear c40
                                  (first | rw [c40b0] | (simp only [i64_w, i32_w]; rw [c40b0]) | skip)
                                  have H' := Aside0.mk H
                                  clear H
                                  go_wp2
                                  go_meet
                                  case rel => exact ⟨_, ((t239 != 0)), (by first | rfl | (simp; done) | (simp [*]; done)), H', ⟨by have := HK1.out; have := HJ7.out; have := HJ14.out; have := HJ17.out; first | omega | exact Nat.le_refl _⟩, ⟨by (with_reducible repeat (first | refine blk_drewN ?_ _ | refine blk_drew ?_ | refine blk_alloc ?_ _)); refine blk_far ?_ NB224_240.out _; (with_reducible repeat (first | refine blk_drewN ?_ _ | refine blk_drew ?_ | refine blk_alloc ?_ _)); refine blk_far ?_ NB224_240.out _; (with_reducible repeat (first | refine blk_drewN ?_ _ | refine blk_drew ?_ | refine blk_alloc ?_ _)); exact BK224.out⟩, ⟨by (with_reducible repeat (first | refine blk_drewN ?_ _ | refine blk_drew ?_ | refine blk_alloc ?_ _)); refine blk_far ?_ NB225_240.out _; (with_reducible repeat (first | refine blk_drewN ?_ _ | refine blk_drew ?_ | refine blk_alloc ?_ _)); refine blk_far ?_ NB225_240.out _; (with_reducible repeat (first | refine blk_drewN ?_ _ | refine blk_drew ?_ | refine blk_alloc ?_ _)); exact BK225.out⟩, ⟨by (with_reducible repeat (first | refine blk_drewN ?_ _ | refine blk_drew ?_ | refine blk_alloc ?_ _)); refine blk_far ?_ NB235_240.out _; (with_reducible repeat (first | refine blk_drewN ?_ _ | refine blk_drew ?_ | refine blk_alloc ?_ _)); refine blk_far ?_ NB235_240.out _; (with_reducible repeat (first | refine blk_drewN ?_ _ | refine blk_drew ?_ | refine blk_alloc ?_ _)); exact BK235.out⟩, ⟨by (with_reducible repeat (first | refine blk_drewN ?_ _ | refine blk_drew ?_ | refine blk_alloc ?_ _)); refine blk_put (cs := #[.string t237, .string (⟨#[]⟩ : ByteArray)]) ?_ 1 _ rfl; (with_reducible repeat (first | refine blk_drewN ?_ _ | refine blk_drew ?_ | refine blk_alloc ?_ _)); refine blk_put (cs := #[.string (⟨#[]⟩ : ByteArray), .string (⟨#[]⟩ : ByteArray)]) ?_ 0 _ rfl; (with_reducible repeat (first | refine blk_drewN ?_ _ | refine blk_drew ?_ | refine blk_alloc ?_ _)); exact BK240.out⟩, ⟨by repeat (first | (with_reducible first | exact HB.out | apply below_alloc | apply pw_below_drewN | apply below_drew1 | refine below_set ?_ GE224.out | refine below_set ?_ GE225.out | refine below_set ?_ GE235.out | refine below_set ?_ GE240.out) | exact HB.out)⟩⟩
                                · rw [if_neg c40] at H
                                  have c40b0 : (t234 == 0) = false := beq_eq_false_iff_ne.mpr c40
                                  have c40b1 : (t234 != 0) = true := bne_iff_ne.mpr c40
                                  (first | rw [c40b0] | (simp only [i64_w, i32_w]; rw [c40b0]) | skip)
                                  have H' := Aside0.mk H
                                  clear H
                                  go_wp2
                                  go_meet
                                  case rel => exact ⟨_, (true), (by first | rfl | (simp; done) | (simp [*]; done)), H', ⟨by have := HK1.out; have := HJ7.out; have := HJ14.out; have := HJ17.out; first | omega | exact Nat.le_refl _⟩, ⟨by (with_reducible repeat (first | refine blk_drewN ?_ _ | refine blk_drew ?_ | refine blk_alloc ?_ _)); refine blk_far ?_ NB224_240.out _; (with_reducible repeat (first | refine blk_drewN ?_ _ | refine blk_drew ?_ | refine blk_alloc ?_ _)); refine blk_far ?_ NB224_240.out _; (with_reducible repeat (first | refine blk_drewN ?_ _ | refine blk_drew ?_ | refine blk_alloc ?_ _)); exact BK224.out⟩, ⟨by (with_reducible repeat (first | refine blk_drewN ?_ _ | refine blk_drew ?_ | refine blk_alloc ?_ _)); refine blk_far ?_ NB225_240.out _; (with_reducible repeat (first | refine blk_drewN ?_ _ | refine blk_drew ?_ | refine blk_alloc ?_ _)); refine blk_far ?_ NB225_240.out _; (with_reducible repeat (first | refine blk_drewN ?_ _ | refine blk_drew ?_ | refine blk_alloc ?_ _)); exact BK225.out⟩, ⟨by (with_reducible repeat (first | refine blk_drewN ?_ _ | refine blk_drew ?_ | refine blk_alloc ?_ _)); refine blk_far ?_ NB235_240.out _; (with_reducible repeat (first | refine blk_drewN ?_ _ | refine blk_drew ?_ | refine blk_alloc ?_ _)); refine blk_far ?_ NB235_240.out _; (with_reducible repeat (first | refine blk_drewN ?_ _ | refine blk_drew ?_ | refine blk_alloc ?_ _)); exact BK235.out⟩, ⟨by (with_reducible repeat (first | refine blk_drewN ?_ _ | refine blk_drew ?_ | refine blk_alloc ?_ _)); refine blk_put (cs := #[.string t237, .string (⟨#[]⟩ : ByteArray)]) ?_ 1 _ rfl; (with_reducible repeat (first | refine blk_drewN ?_ _ | refine blk_drew ?_ | refine blk_alloc ?_ _)); refine blk_put (cs := #[.string (⟨#[]⟩ : ByteArray), .string (⟨#[]⟩ : ByteArray)]) ?_ 0 _ rfl; (with_reducible repeat (first | refine blk_drewN ?_ _ | refine blk_drew ?_ | refine blk_alloc ?_ _)); exact BK240.out⟩, ⟨by repeat (first | (with_reducible first | exact HB.out | apply below_alloc | apply pw_below_drewN | apply below_drew1 | refine below_set ?_ GE224.out | refine below_set ?_ GE225.out | refine below_set ?_ GE235.out | refine below_set ?_ GE240.out) | exact HB.out)⟩⟩
                              case rest =>
                                clear HC26
                                try clear c1
                                try clear c2
                                try clear p2
                                try clear q2
                                try clear hx2
                                try clear c4
                                try clear c18
                                try clear c20
                                try clear p23
                                try clear q23
                                try clear hx23
                                try clear c40
                                try clear c40b0
                                try clear c40b1
                                try clear hx236_0
                                try clear hx236_1
                                try clear hx236_2
                                try clear hx236_3
                                try clear hx236_4
                                try clear p236
                                try clear q236
                                obtain ⟨kq, x77_25, rfl, HA, HJ25, BK224, BK225, BK235, BK240, HB⟩ := hcut
                                cases kq with
                                | zero => exact absurd HA.out (by simp [tattlelaw16_DiskSteps.j4])
                                | succ kj25 =>
                                  have H := HA.out
                                  clear HA
                                  simp only [tattlelaw16_DiskSteps.j4] at H
                                  by_cases c41 : x77_25 = true
                                  · subst c41
                                    have H1 : (none) = some r := by rw [if_pos rfl] at H; exact H
                                    clear H
                                    have H := H1
                                    clear H1
                                    exact absurd H (by simp)
                                  · replace c41 := Bool.eq_false_iff.mpr c41
                                    subst c41
                                    have H1 : (if (t232.toList == t237.toList && (t233.toList == t238.toList)) = true then (if 0 ≤ x8_1 then (if x8_1 < (l0.length : Int) then (tattlelaw16_DiskSteps.j5 kj25 l0 l1 true x8_1 x225000_1 x225001_1 ((rd_T26 l0 x8_1).f0) ((rd_T26 l0 x8_1).f1) ((rd_T26 l0 x8_1).f2) ((rd_T26 l0 x8_1).f3) ((rd_T26 l0 x8_1).f4) t232 t233) else (none)) else (none)) else (tattlelaw16_DiskSteps.j5 kj25 l0 l1 x7_1 x8_1 x225000_1 x225001_1 x226000_1 x226001_1 x226002_1 x226003_1 x226004_1 t232 t233)) = some r := by rw [if_neg (show ¬ (false = true) by decide)] at H; exact H
                                    clear H
                                    have H := H1
                                    clear H1
                                    have HC42 := Aside0.mk H
                                    clear H
                                    have hnb43 := NB235_224.out
                                    have hnc43 := NB224_235.out
                                    have hnb44 := NB235_225.out
                                    have hnc44 := NB225_235.out
                                    have hnb45 := NB235_240.out
                                    have hnc45 := NB240_235.out
                                    have hcz46_0 : wc.cell? ⟨gb235, 0, none⟩ = some (.string t232) := (blk_cell BK235.out 0).trans rfl
                                    have hcz46_1 : wc.cell? ⟨gb235, 1, none⟩ = some (.string t233) := (blk_cell BK235.out 1).trans rfl
                                    have hfz46_0 := blk_frozen BK235.out 0
                                    have hfz46_1 := blk_frozen BK235.out 1
                                    have hnb47 := NB240_224.out
                                    have hnc47 := NB224_240.out
                                    have hnb48 := NB240_225.out
                                    have hnc48 := NB225_240.out
                                    have hcz49_0 : wc.cell? ⟨gb240, 0, none⟩ = some (.string t237) := (blk_cell BK240.out 0).trans rfl
                                    have hcz49_1 : wc.cell? ⟨gb240, 1, none⟩ = some (.string t238) := (blk_cell BK240.out 1).trans rfl
                                    have hfz49_0 := blk_frozen BK240.out 0
                                    have hfz49_1 := blk_frozen BK240.out 1
                                    go_upto_if 80 with (fail)
                                    go_cut [7] (fun v7 wc => ∃ (kq : Nat) (x7_41 : Bool) (x226000_41 : Int) (x226001_41 : Int) (x226002_41 : Int) (x226003_41 : Int) (x226004_41 : Int), v7 = .bool x7_41 ∧ Aside0 (tattlelaw16_DiskSteps.j5 kq l0 l1 x7_41 x8_1 x225000_1 x225001_1 x226000_41 x226001_41 x226002_41 x226003_41 x226004_41 t232 t233 = some r) ∧ Aside0 (kq ≤ kj25) ∧ Aside0 (wc.heap[gb224]? = some (.cells #[.string x225000_1, .string x225001_1] 23 (0, 0))) ∧ Aside0 (wc.heap[gb225]? = some (.cells #[.int .u64 x226000_41, .int .u64 x226001_41, .int .u64 x226002_41, .int .u64 x226003_41, .int .i64 x226004_41] 26 (0, 0))) ∧ Aside0 (wc.heap[gb235]? = some (.cells #[.string t232, .string t233] 23 (0, 0))) ∧ Aside0 (wc.heap[gb240]? = some (.cells #[.string t237, .string t238] 23 (0, 0))) ∧ Aside0 (Below w.heap.size w wc))
                                    case first =>
                                      have H := HC42.out
                                      clear HC42
                                      by_cases c50 : (t232.toList == t237.toList && (t233.toList == t238.toList)) = true
                                      · rw [if_pos c50] at H
                                        have c50b0 : (t232.toList == t237.toList && (t233.toList == t238.toList)) = true := c50
                                        (try (have c50b1 : decide (t232.toList = t237.toList && (t233.toList == t238.toList)) = true := by simpa using c50))
                                        (try (have c50b2 : (t232.toList == t237.toList && (t233.toList == t238.toList)) = true := by simpa using c50))
                                        clear c50
                                        (first | rw [c50b0] | (simp only [i64_w, i32_w]; rw [c50b0]) | skip)
                                        by_cases c51 : 0 ≤ x8_1
                                        · rw [if_pos c51] at H
                                          have c51b0 : decide (0 ≤ x8_1) = true := decide_eq_true c51
                                          clear c51
                                          by_cases c52 : x8_1 < (l0.length : Int)
                                          · rw [if_pos c52] at H
                                            have c52b0 : decide (x8_1 < (l0.length : Int)) = true := decide_eq_true c52
                                            clear c52
                                            have H' := Aside0.mk H
                                            clear H
                                            have p241 : 0 ≤ (x8_1 : Int) := of_decide_eq_true (by first | (with_reducible assumption) | assumption)
                                            have q241 : x8_1 < (l0.length : Int) := of_decide_eq_true (by first | (with_reducible assumption) | assumption)
                                            obtain ⟨ad241, e241, hx241_0, hx241_1, hx241_2, hx241_3, hx241_4⟩ := at_T26 HR0.out x8_1 p241 q241
                                            obtain rfl : ad227 = ad241 := (by injection e241)
                                            replace hx241_0 := (HB.out.cell (World.block_lt_of_cell? w _ hx241_0)).trans hx241_0
                                            replace hx241_1 := (HB.out.cell (World.block_lt_of_cell? w _ hx241_1)).trans hx241_1
                                            replace hx241_2 := (HB.out.cell (World.block_lt_of_cell? w _ hx241_2)).trans hx241_2
                                            replace hx241_3 := (HB.out.cell (World.block_lt_of_cell? w _ hx241_3)).trans hx241_3
                                            replace hx241_4 := (HB.out.cell (World.block_lt_of_cell? w _ hx241_4)).trans hx241_4
                                            replace p241 := eq_true p241
                                            replace q241 := eq_true q241
                                            have hnb53 := NB225_224.out
                                            have hnc53 := NB224_225.out
                                            have hnb54 := NB225_235.out
                                            have hnc54 := NB235_225.out
                                            have hnb55 := NB225_240.out
                                            have hnc55 := NB240_225.out
                                            have hcz56_0 : wc.cell? ⟨gb225, 0, none⟩ = some (.int .u64 x226000_1) := (blk_cell BK225.out 0).trans rfl
                                            have hcz56_1 : wc.cell? ⟨gb225, 1, none⟩ = some (.int .u64 x226001_1) := (blk_cell BK225.out 1).trans rfl
                                            have hcz56_2 : wc.cell? ⟨gb225, 2, none⟩ = some (.int .u64 x226002_1) := (blk_cell BK225.out 2).trans rfl
                                            have hcz56_3 : wc.cell? ⟨gb225, 3, none⟩ = some (.int .u64 x226003_1) := (blk_cell BK225.out 3).trans rfl
                                            have hcz56_4 : wc.cell? ⟨gb225, 4, none⟩ = some (.int .i64 x226004_1) := (blk_cell BK225.out 4).trans rfl
                                            have hfz56_0 := blk_frozen BK225.out 0
                                            have hfz56_1 := blk_frozen BK225.out 1
                                            have hfz56_2 := blk_frozen BK225.out 2
                                            have hfz56_3 := blk_frozen BK225.out 3
                                            have hfz56_4 := blk_frozen BK225.out 4
                                            go_wp2
                                            go_meet
                                            case rel => exact ⟨_, (true), ((rd_T26 l0 x8_1).f0), ((rd_T26 l0 x8_1).f1), ((rd_T26 l0 x8_1).f2), ((rd_T26 l0 x8_1).f3), ((rd_T26 l0 x8_1).f4), (by first | rfl | (simp; done) | (simp [*]; done)), H', ⟨by have := HK1.out; have := HJ7.out; have := HJ14.out; have := HJ17.out; have := HJ25.out; first | omega | exact Nat.le_refl _⟩, ⟨by (with_reducible repeat (first | refine blk_drewN ?_ _ | refine blk_drew ?_ | refine blk_alloc ?_ _)); refine blk_far ?_ NB224_225.out _; (with_reducible repeat (first | refine blk_drewN ?_ _ | refine blk_drew ?_ | refine blk_alloc ?_ _)); refine blk_far ?_ NB224_225.out _; (with_reducible repeat (first | refine blk_drewN ?_ _ | refine blk_drew ?_ | refine blk_alloc ?_ _)); refine blk_far ?_ NB224_225.out _; (with_reducible repeat (first | refine blk_drewN ?_ _ | refine blk_drew ?_ | refine blk_alloc ?_ _)); refine blk_far ?_ NB224_225.out _; (with_reducible repeat (first | refine blk_drewN ?_ _ | refine blk_drew ?_ | refine blk_alloc ?_ _)); refine blk_far ?_ NB224_225.out _; (with_reducible repeat (first | refine blk_drewN ?_ _ | refine blk_drew ?_ | refine blk_alloc ?_ _)); exact BK224.out⟩, ⟨by (with_reducible repeat (first | refine blk_drewN ?_ _ | refine blk_drew ?_ | refine blk_alloc ?_ _)); refine blk_put (cs := #[.int .u64 ((rd_T26 l0 x8_1).f0), .int .u64 ((rd_T26 l0 x8_1).f1), .int .u64 ((rd_T26 l0 x8_1).f2), .int .u64 ((rd_T26 l0 x8_1).f3), .int .i64 x226004_1]) ?_ 4 _ rfl; (with_reducible repeat (first | refine blk_drewN ?_ _ | refine blk_drew ?_ | refine blk_alloc ?_ _)); refine blk_put (cs := #[.int .u64 ((rd_T26 l0 x8_1).f0), .int .u64 ((rd_T26 l0 x8_1).f1), .int .u64 ((rd_T26 l0 x8_1).f2), .int .u64 x226003_1, .int .i64 x226004_1]) ?_ 3 _ rfl; (with_reducible repeat (first | refine blk_drewN ?_ _ | refine blk_drew ?_ | refine blk_alloc ?_ _)); refine blk_put (cs := #[.int .u64 ((rd_T26 l0 x8_1).f0), .int .u64 ((rd_T26 l0 x8_1).f1), .int .u64 x226002_1, .int .u64 x226003_1, .int .i64 x226004_1]) ?_ 2 _ rfl; (with_reducible repeat (first | refine blk_drewN ?_ _ | refine blk_drew ?_ | refine blk_alloc ?_ _)); refine blk_put (cs := #[.int .u64 ((rd_T26 l0 x8_1).f0), .int .u64 x226001_1, .int .u64 x226002_1, .int .u64 x226003_1, .int .i64 x226004_1]) ?_ 1 _ rfl; (with_reducible repeat (first | refine blk_drewN ?_ _ | refine blk_drew ?_ | refine blk_alloc ?_ _)); refine blk_put (cs := #[.int .u64 x226000_1, .int .u64 x226001_1, .int .u64 x226002_1, .int .u64 x226003_1, .int .i64 x226004_1]) ?_ 0 _ rfl; (with_reducible repeat (first | refine blk_drewN ?_ _ | refine blk_drew ?_ | refine blk_alloc ?_ _)); exact BK225.out⟩, ⟨by (with_reducible repeat (first | refine blk_drewN ?_ _ | refine blk_drew ?_ | refine blk_alloc ?_ _)); refine blk_far ?_ NB235_225.out _; (with_reducible repeat (first | refine blk_drewN ?_ _ | refine blk_drew ?_ | refine blk_alloc ?_ _)); refine blk_far ?_ NB235_225.out _; (with_reducible repeat (first | refine blk_drewN ?_ _ | refine blk_drew ?_ | refine blk_alloc ?_ _)); refine blk_far ?_ NB235_225.out _; (with_reducible repeat (first | refine blk_drewN ?_ _ | refine blk_drew ?_ | refine blk_alloc ?_ _)); refine blk_far ?_ NB235_225.out _; (with_reducible repeat (first | refine blk_drewN ?_ _ | refine blk_drew ?_ | refine blk_alloc ?_ _)); refine blk_far ?_ NB235_225.out _; (with_reducible repeat (first | refine blk_drewN ?_ _ | refine blk_drew ?_ | refine blk_alloc ?_ _)); exact BK235.out⟩, ⟨by (with_reducible repeat (first | refine blk_drewN ?_ _ | refine blk_drew ?_ | refine blk_alloc ?_ _)); refine blk_far ?_ NB240_225.out _; (with_reducible repeat (first | refine blk_drewN ?_ _ | refine blk_drew ?_ | refine blk_alloc ?_ _)); refine blk_far ?_ NB240_225.out _; (with_reducible repeat (first | refine blk_drewN ?_ _ | refine blk_drew ?_ | refine blk_alloc ?_ _)); refine blk_far ?_ NB240_225.out _; (with_reducible repeat (first | refine blk_drewN ?_ _ | refine blk_drew ?_ | refine blk_alloc ?_ _)); refine blk_far ?_ NB240_225.out _; (with_reducible repeat (first | refine blk_drewN ?_ _ | refine blk_drew ?_ | refine blk_alloc ?_ _)); refine blk_far ?_ NB240_225.out _; (with_reducible repeat (first | refine blk_drewN ?_ _ | refine blk_drew ?_ | refine blk_alloc ?_ _)); exact BK240.out⟩, ⟨by repeat (first | (with_reducible first | exact HB.out | apply below_alloc | apply pw_below_drewN | apply below_drew1 | refine below_set ?_ GE224.out | refine below_set ?_ GE225.out | refine below_set ?_ GE235.out | refine below_set ?_ GE240.out) | exact HB.out)⟩⟩
                                          · rw [if_neg c52] at H
                                            exact absurd H (by simp)
                                        · rw [if_neg c51] at H
                                          exact absurd H (by simp)
                                      · rw [if_neg c50] at H
                                        have c50b0 : (t232.toList == t237.toList && (t233.toList == t238.toList)) = false := by simpa using c50
                                        (try (have c50b1 : decide (t232.toList = t237.toList && (t233.toList == t238.toList)) = false := by simpa using c50))
                                        (try (have c50b2 : (t232.toList == t237.toList && (t233.toList == t238.toList)) = false := by simpa using c50))
                                        (try (have c50b3 : ¬ (t232.toList = t237.toList && (t233.toList == t238.toList)) := by simpa using c50))
                                        clear c50
                                        (first | rw [c50b0] | (simp only [i64_w, i32_w]; rw [c50b0]) | skip)
                                        have H' := Aside0.mk H
                                        clear H
                                        go_wp2
                                        go_meet
                                        case rel => exact ⟨_, (x7_1), (x226000_1), (x226001_1), (x226002_1), (x226003_1), (x226004_1), (by first | rfl | (simp; done) | (simp [*]; done)), H', ⟨by have := HK1.out; have := HJ7.out; have := HJ14.out; have := HJ17.out; have := HJ25.out; first | omega | exact Nat.le_refl _⟩, ⟨by (with_reducible repeat (first | refine blk_drewN ?_ _ | refine blk_drew ?_ | refine blk_alloc ?_ _)); exact BK224.out⟩, ⟨by (with_reducible repeat (first | refine blk_drewN ?_ _ | refine blk_drew ?_ | refine blk_alloc ?_ _)); exact BK225.out⟩, ⟨by (with_reducible repeat (first | refine blk_drewN ?_ _ | refine blk_drew ?_ | refine blk_alloc ?_ _)); exact BK235.out⟩, ⟨by (with_reducible repeat (first | refine blk_drewN ?_ _ | refine blk_drew ?_ | refine blk_alloc ?_ _)); exact BK240.out⟩, ⟨by repeat (first | (with_reducible first | exact HB.out | apply below_alloc | apply pw_below_drewN | apply below_drew1 | refine below_set ?_ GE224.out | refine below_set ?_ GE225.out | refine below_set ?_ GE235.out | refine below_set ?_ GE240.out) | exact HB.out)⟩⟩
                                    case rest =>
                                      clear HC42
                                      try clear c1
                                      try clear c2
                                      try clear p2
                                      try clear q2
                                      try clear hx2
                                      try clear c4
                                      try clear c5
                                      try clear c18
                                      try clear c20
                                      try clear p23
                                      try clear q23
                                      try clear hx23
                                      try clear p24
                                      try clear q24
                                      try clear hx24
                                      try clear c40
                                      try clear c40b0
                                      try clear c40b1
                                      try clear c41
                                      try clear c43
                                      try clear c44
                                      try clear c45
                                      try clear c47
                                      try clear c48
                                      try clear c50
                                      try clear c50b0
                                      try clear c50b1
                                      try clear c50b2
                                      try clear c51
                                      try clear c51b0
                                      try clear c52
                                      try clear c52b0
                                      try clear c53
                                      try clear c54
                                      try clear c55
                                      try clear hcz46_0
                                      try clear hcz46_1
                                      try clear hcz49_0
                                      try clear hcz49_1
                                      try clear hcz56_0
                                      try clear hcz56_1
                                      try clear hcz56_2
                                      try clear hcz56_3
                                      try clear hcz56_4
                                      try clear hfz46_0
                                      try clear hfz46_1
                                      try clear hfz49_0
                                      try clear hfz49_1
                                      try clear hfz56_0
                                      try clear hfz56_1
                                      try clear hfz56_2
                                      try clear hfz56_3
                                      try clear hfz56_4
                                      try clear hx236_0
                                      try clear hx236_1
                                      try clear hx236_2
                                      try clear hx236_3
                                      try clear hx236_4
                                      try clear hx241_0
                                      try clear hx241_1
                                      try clear hx241_2
                                      try clear hx241_3
                                      try clear hx241_4
                                      try clear p2
                                      try clear p23
                                      try clear p236
                                      try clear p241
                                      try clear q2
                                      try clear q23
                                      try clear q236
                                      try clear q241
                                      obtain ⟨kq, x7_41, x226000_41, x226001_41, x226002_41, x226003_41, x226004_41, rfl, HA, HJ41, BK224, BK225, BK235, BK240, HB⟩ := hcut
                                      cases kq with
                                      | zero => exact absurd HA.out (by simp [tattlelaw16_DiskSteps.j5])
                                      | succ kj41 =>
                                        have H := HA.out
                                        clear HA
                                        simp only [tattlelaw16_DiskSteps.j5] at H
                                        replace H := Option.bind_eq_some_iff.mp H
                                        obtain ⟨⟨t242, t243, t244, t245, t246, t247⟩, A570, H⟩ := H
                                        replace H : ((disk_Read.f kj41 t232 t233).bind fun bt249 => (if ((bt249.2.2.2.2.2 == 0) != x7_41) = true then (none) else (if bt249.1 < t242 then (none) else (if x7_41 = true then (if bt249.2.1 = x226001_41 then (if bt249.2.2.1 = x226002_41 then (if bt249.2.2.2.1 = x226003_41 then (if bt249.2.2.2.2.1 = x226004_41 then (tattlelaw16_DiskSteps.l0 kj41 l0 l1 x7_41 (wrap64 (x8_1 + 1)) t232 t233 x226000_41 x226001_41 x226002_41 x226003_41 x226004_41) else (none)) else (none)) else (none)) else (none)) else (tattlelaw16_DiskSteps.l0 kj41 l0 l1 x7_41 (wrap64 (x8_1 + 1)) t232 t233 x226000_41 x226001_41 x226002_41 x226003_41 x226004_41))))) = some r := H
                                        have A57 := Aside0.mk A570
                                        clear A570
                                        replace H := Option.bind_eq_some_iff.mp H
                                        obtain ⟨⟨t249, t250, t251, t252, t253, t254⟩, A580, H⟩ := H
                                        replace H : (if ((t254 == 0) != x7_41) = true then (none) else (if t249 < t242 then (none) else (if x7_41 = true then (if t250 = x226001_41 then (if t251 = x226002_41 then (if t252 = x226003_41 then (if t253 = x226004_41 then (tattlelaw16_DiskSteps.l0 kj41 l0 l1 x7_41 (wrap64 (x8_1 + 1)) t232 t233 x226000_41 x226001_41 x226002_41 x226003_41 x226004_41) else (none)) else (none)) else (none)) else (none)) else (tattlelaw16_DiskSteps.l0 kj41 l0 l1 x7_41 (wrap64 (x8_1 + 1)) t232 t233 x226000_41 x226001_41 x226002_41 x226003_41 x226004_41)))) = some r := H
                                        have A58 := Aside0.mk A580
                                        clear A580
                                        by_cases c59 : ((t254 == 0) != x7_41) = true
                                        · rw [if_pos c59] at H
                                          exact absurd H (by simp)
                                        · rw [if_neg c59] at H
                                          have c59b0 : ((t254 == 0) != x7_41) = false := by simpa using c59
                                          (try (have c59b1 : decide ((t254 == 0) = x7_41) = true := by simpa using c59))
                                          (try (have c59b2 : ((t254 == 0) == x7_41) = true := by simpa using c59))
                                          clear c59
                                          by_cases c60 : t249 < t242
                                          · rw [if_pos c60] at H
                                            exact absurd H (by simp)
                                          · rw [if_neg c60] at H
                                            have c60b0 : decide (t249 < t242) = false := decide_eq_false c60
                                            clear c60
                                            by_cases c61 : x7_41 = true
                                            · subst c61
                                              have H1 : (if t250 = x226001_41 then (if t251 = x226002_41 then (if t252 = x226003_41 then (if t253 = x226004_41 then (tattlelaw16_DiskSteps.l0 kj41 l0 l1 true (wrap64 (x8_1 + 1)) t232 t233 x226000_41 x226001_41 x226002_41 x226003_41 x226004_41) else (none)) else (none)) else (none)) else (none)) = some r := by rw [if_pos rfl] at H; exact H
                                              clear H
                                              have H := H1
                                              clear H1
                                              by_cases c62 : t250 = x226001_41
                                              · rw [if_pos c62] at H
                                                have c62b0 : (t250 == x226001_41) = true := beq_iff_eq.mpr c62
                                                have c62b1 : (t250 != x226001_41) = false := bne_eq_false_iff_eq.mpr c62
                                                clear c62
                                                by_cases c63 : t251 = x226002_41
                                                · rw [if_pos c63] at H
                                                  have c63b0 : (t251 == x226002_41) = true := beq_iff_eq.mpr c63
                                                  have c63b1 : (t251 != x226002_41) = false := bne_eq_false_iff_eq.mpr c63
                                                  clear c63
                                                  by_cases c64 : t252 = x226003_41
                                                  · rw [if_pos c64] at H
                                                    have c64b0 : (t252 == x226003_41) = true := beq_iff_eq.mpr c64
                                                    have c64b1 : (t252 != x226003_41) = false := bne_eq_false_iff_eq.mpr c64
                                                    clear c64
                                                    by_cases c65 : t253 = x226004_41
                                                    · rw [if_pos c65] at H
                                                      have c65b0 : (t253 == x226004_41) = true := beq_iff_eq.mpr c65
                                                      have c65b1 : (t253 != x226004_41) = false := bne_eq_false_iff_eq.mpr c65
                                                      clear c65
                                                      have H' := Aside0.mk H
                                                      clear H
                                                      have hnb66 := NB224_225.out
                                                      have hnc66 := NB225_224.out
                                                      have hnb67 := NB224_235.out
                                                      have hnc67 := NB235_224.out
                                                      have hnb68 := NB224_240.out
                                                      have hnc68 := NB240_224.out
                                                      have hcz69_0 : wc.cell? ⟨gb224, 0, none⟩ = some (.string x225000_1) := (blk_cell BK224.out 0).trans rfl
                                                      have hcz69_1 : wc.cell? ⟨gb224, 1, none⟩ = some (.string x225001_1) := (blk_cell BK224.out 1).trans rfl
                                                      have hfz69_0 := blk_frozen BK224.out 0
                                                      have hfz69_1 := blk_frozen BK224.out 1
                                                      go_wp2_with (first | ((with_reducible refine gate_callee (f := 12) rfl ?_); refine goesL_ (some 87) rfl rfl Try.func12 (by kernel_rfl) rfl #[.agg #[.string x225000_1, .string x225001_1]] rfl (by (try simp only [List.map_toArray, List.map_cons, List.map_nil]); first | done | rfl | (simp only [List.length_drop, List.length_take]; rfl)) ?_; (with_reducible refine (disk_Read.calls kj41 x225000_1 x225001_1 t242 t243 t244 t245 t246 t247 _ A57.out).mono ?_); rintro e w70 ⟨rfl, hb⟩; refine ⟨_, rfl, ?_⟩; have n0_ := Aside0.mk (blk_below (g := gb224) (o := .cells #[.string x225000_1, .string x225001_1] 23 (0, 0)) (by (with_reducible repeat (first | refine blk_drewN ?_ _ | refine blk_drew ?_ | refine blk_alloc ?_ _)); exact BK224.out) hb); have n1_ := Aside0.mk (blk_below (g := gb225) (o := .cells #[.int .u64 x226000_41, .int .u64 x226001_41, .int .u64 x226002_41, .int .u64 x226003_41, .int .i64 x226004_41] 26 (0, 0)) (by (with_reducible repeat (first | refine blk_drewN ?_ _ | refine blk_drew ?_ | refine blk_alloc ?_ _)); exact BK225.out) hb); have n2_ := Aside0.mk (blk_below (g := gb235) (o := .cells #[.string t232, .string t233] 23 (0, 0)) (by (with_reducible repeat (first | refine blk_drewN ?_ _ | refine blk_drew ?_ | refine blk_alloc ?_ _)); exact BK235.out) hb); have n3_ := Aside0.mk (blk_below (g := gb240) (o := .cells #[.string t237, .string t238] 23 (0, 0)) (by (with_reducible repeat (first | refine blk_drewN ?_ _ | refine blk_drew ?_ | refine blk_alloc ?_ _)); exact BK240.out) hb); have n4_ := Aside0.mk (below_step (by repeat (first | (with_reducible first | exact HB.out | apply below_alloc | apply pw_below_drewN | apply below_drew1 | refine below_set ?_ GE224.out | refine below_set ?_ GE225.out | refine below_set ?_ GE235.out | refine below_set ?_ GE240.out) | exact HB.out)) hb); clear BK224; clear BK225; clear BK235; clear BK240; clear HB; have BK224 := n0_; have BK225 := n1_; have BK235 := n2_; have BK240 := n3_; have HB := n4_; clear n0_ n1_ n2_ n3_ n4_; (try clear hb); (try clear hb2); (try clear hk); (try clear hi)) | ((with_reducible refine gate_dst (N := 14) rfl ?_); refine box_event ?hg (N := 14) ?hd (cs := #[.int .u64 0, .int .u64 0, .int .u64 0, .int .u64 0, .int .i64 0]) (t := 26) ?hr ?_; (case hd => rfl); (case hg => rfl); (case hr => first | (go_simp; done) | (go_simp; rfl)); intro gb248 hg w71 hbox hb; have n0_ := Aside0.mk (blk_below (g := gb224) (o := .cells #[.string x225000_1, .string x225001_1] 23 (0, 0)) (by (with_reducible repeat (first | refine blk_drewN ?_ _ | refine blk_drew ?_ | refine blk_alloc ?_ _)); exact BK224.out) hb); have n1_ := Aside0.mk (blk_below (g := gb225) (o := .cells #[.int .u64 x226000_41, .int .u64 x226001_41, .int .u64 x226002_41, .int .u64 x226003_41, .int .i64 x226004_41] 26 (0, 0)) (by (with_reducible repeat (first | refine blk_drewN ?_ _ | refine blk_drew ?_ | refine blk_alloc ?_ _)); exact BK225.out) hb); have n2_ := Aside0.mk (blk_below (g := gb235) (o := .cells #[.string t232, .string t233] 23 (0, 0)) (by (with_reducible repeat (first | refine blk_drewN ?_ _ | refine blk_drew ?_ | refine blk_alloc ?_ _)); exact BK235.out) hb); have n3_ := Aside0.mk (blk_below (g := gb240) (o := .cells #[.string t237, .string t238] 23 (0, 0)) (by (with_reducible repeat (first | refine blk_drewN ?_ _ | refine blk_drew ?_ | refine blk_alloc ?_ _)); exact BK240.out) hb); have n4_ := Aside0.mk (below_step (by repeat (first | (with_reducible first | exact HB.out | apply below_alloc | apply pw_below_drewN | apply below_drew1 | refine below_set ?_ GE224.out | refine below_set ?_ GE225.out | refine below_set ?_ GE235.out | refine below_set ?_ GE240.out) | exact HB.out)) hb); have n5_ := Aside0.mk (hbox); have n6_ := Aside0.mk ((by rw [hg]; exact (below_size (by repeat (first | (with_reducible first | exact HB.out | apply below_alloc | apply pw_below_drewN | apply below_drew1 | refine below_set ?_ GE224.out | refine below_set ?_ GE225.out | refine below_set ?_ GE235.out | refine below_set ?_ GE240.out) | exact HB.out))) : w.heap.size ≤ gb248)); have n7_ := Aside0.mk ((by rw [hg]; exact (below_size (by repeat (first | (with_reducible first | exact HB.out | apply below_alloc | apply pw_below_drewN | apply below_drew1 | refine below_set ?_ GE224.out | refine below_set ?_ GE225.out | refine below_set ?_ GE235.out | refine below_set ?_ GE240.out) | exact HB.out))) : w.heap.size ≤ gb248)); have n8_ := Aside0.mk ((by rw [hg]; exact Nat.ne_of_lt (blk_lt (g := gb224) (o := .cells #[.string x225000_1, .string x225001_1] 23 (0, 0)) (by (with_reducible repeat (first | refine blk_drewN ?_ _ | refine blk_drew ?_ | refine blk_alloc ?_ _)); exact BK224.out)) : gb224 ≠ gb248)); have n9_ := Aside0.mk ((by rw [hg]; exact Nat.ne_of_gt (blk_lt (g := gb224) (o := .cells #[.string x225000_1, .string x225001_1] 23 (0, 0)) (by (with_reducible repeat (first | refine blk_drewN ?_ _ | refine blk_drew ?_ | refine blk_alloc ?_ _)); exact BK224.out)) : gb248 ≠ gb224)); have n10_ := Aside0.mk ((by rw [hg]; exact Nat.ne_of_lt (blk_lt (g := gb225) (o := .cells #[.int .u64 x226000_41, .int .u64 x226001_41, .int .u64 x226002_41, .int .u64 x226003_41, .int .i64 x226004_41] 26 (0, 0)) (by (with_reducible repeat (first | refine blk_drewN ?_ _ | refine blk_drew ?_ | refine blk_alloc ?_ _)); exact BK225.out)) : gb225 ≠ gb248)); have n11_ := Aside0.mk ((by rw [hg]; exact Nat.ne_of_gt (blk_lt (g := gb225) (o := .cells #[.int .u64 x226000_41, .int .u64 x226001_41, .int .u64 x226002_41, .int .u64 x226003_41, .int .i64 x226004_41] 26 (0, 0)) (by (with_reducible repeat (first | refine blk_drewN ?_ _ | refine blk_drew ?_ | refine blk_alloc ?_ _)); exact BK225.out)) : gb248 ≠ gb225)); have n12_ := Aside0.mk ((by rw [hg]; exact Nat.ne_of_lt (blk_lt (g := gb235) (o := .cells #[.string t232, .string t233] 23 (0, 0)) (by (with_reducible repeat (first | refine blk_drewN ?_ _ | refine blk_drew ?_ | refine blk_alloc ?_ _)); exact BK235.out)) : gb235 ≠ gb248)); have n13_ := Aside0.mk ((by rw [hg]; exact Nat.ne_of_gt (blk_lt (g := gb235) (o := .cells #[.string t232, .string t233] 23 (0, 0)) (by (with_reducible repeat (first | refine blk_drewN ?_ _ | refine blk_drew ?_ | refine blk_alloc ?_ _)); exact BK235.out)) : gb248 ≠ gb235)); have n14_ := Aside0.mk ((by rw [hg]; exact Nat.ne_of_lt (blk_lt (g := gb240) (o := .cells #[.string t237, .string t238] 23 (0, 0)) (by (with_reducible repeat (first | refine blk_drewN ?_ _ | refine blk_drew ?_ | refine blk_alloc ?_ _)); exact BK240.out)) : gb240 ≠ gb248)); have n15_ := Aside0.mk ((by rw [hg]; exact Nat.ne_of_gt (blk_lt (g := gb240) (o := .cells #[.string t237, .string t238] 23 (0, 0)) (by (with_reducible repeat (first | refine blk_drewN ?_ _ | refine blk_drew ?_ | refine blk_alloc ?_ _)); exact BK240.out)) : gb248 ≠ gb240)); clear BK224; clear BK225; clear BK235; clear BK240; clear HB; have BK224 := n0_; have BK225 := n1_; have BK235 := n2_; have BK240 := n3_; have HB := n4_; have BK248 := n5_; have GW248 := n6_; have GE248 := n7_; have NB224_248 := n8_; have NB248_224 := n9_; have NB225_248 := n10_; have NB248_225 := n11_; have NB235_248 := n12_; have NB248_235 := n13_; have NB240_248 := n14_; have NB248_240 := n15_; clear n0_ n1_ n2_ n3_ n4_ n5_ n6_ n7_ n8_ n9_ n10_ n11_ n12_ n13_ n14_ n15_; clear hb hbox hg; have hnb72 := NB248_224.out; have hnc72 := NB224_248.out; have hnb73 := NB248_225.out; have hnc73 := NB225_248.out; have hnb74 := NB248_235.out; have hnc74 := NB235_248.out; have hnb75 := NB248_240.out; have hnc75 := NB240_248.out; have hcz76_0 : w71.cell? ⟨gb248, 0, none⟩ = some (.int .u64 0) := (blk_cell BK248.out 0).trans rfl; have hcz76_1 : w71.cell? ⟨gb248, 1, none⟩ = some (.int .u64 0) := (blk_cell BK248.out 1).trans rfl; have hcz76_2 : w71.cell? ⟨gb248, 2, none⟩ = some (.int .u64 0) := (blk_cell BK248.out 2).trans rfl; have hcz76_3 : w71.cell? ⟨gb248, 3, none⟩ = some (.int .u64 0) := (blk_cell BK248.out 3).trans rfl; have hcz76_4 : w71.cell? ⟨gb248, 4, none⟩ = some (.int .i64 0) := (blk_cell BK248.out 4).trans rfl; have hfz76_0 := blk_frozen BK248.out 0; have hfz76_1 := blk_frozen BK248.out 1; have hfz76_2 := blk_frozen BK248.out 2; have hfz76_3 := blk_frozen BK248.out 3; have hfz76_4 := blk_frozen BK248.out 4; have hnb77 := NB235_225.out; have hnc77 := NB225_235.out; have hnb78 := NB235_240.out; have hnc78 := NB240_235.out; have hcz79_0 : w71.cell? ⟨gb235, 0, none⟩ = some (.string t232) := (blk_cell BK235.out 0).trans rfl; have hcz79_1 : w71.cell? ⟨gb235, 1, none⟩ = some (.string t233) := (blk_cell BK235.out 1).trans rfl; have hfz79_0 := blk_frozen BK235.out 0; have hfz79_1 := blk_frozen BK235.out 1) | ((with_reducible refine gate_callee (f := 12) rfl ?_); refine goesL_ (some 92) rfl rfl Try.func12 (by kernel_rfl) rfl #[.agg #[.string t232, .string t233]] rfl (by (try simp only [List.map_toArray, List.map_cons, List.map_nil]); first | done | rfl | (simp only [List.length_drop, List.length_take]; rfl)) ?_; (with_reducible refine (disk_Read.calls kj41 t232 t233 t249 t250 t251 t252 t253 t254 _ A58.out).mono ?_); rintro e w80 ⟨rfl, hb⟩; refine ⟨_, rfl, ?_⟩; have n0_ := Aside0.mk (blk_below (g := gb224) (o := .cells #[.string x225000_1, .string x225001_1] 23 (0, 0)) (by (with_reducible repeat (first | refine blk_drewN ?_ _ | refine blk_drew ?_ | refine blk_alloc ?_ _)); refine blk_far ?_ NB224_248.out _; (with_reducible repeat (first | refine blk_drewN ?_ _ | refine blk_drew ?_ | refine blk_alloc ?_ _)); refine blk_far ?_ NB224_248.out _; (with_reducible repeat (first | refine blk_drewN ?_ _ | refine blk_drew ?_ | refine blk_alloc ?_ _)); refine blk_far ?_ NB224_248.out _; (with_reducible repeat (first | refine blk_drewN ?_ _ | refine blk_drew ?_ | refine blk_alloc ?_ _)); refine blk_far ?_ NB224_248.out _; (with_reducible repeat (first | refine blk_drewN ?_ _ | refine blk_drew ?_ | refine blk_alloc ?_ _)); refine blk_far ?_ NB224_248.out _; (with_reducible repeat (first | refine blk_drewN ?_ _ | refine blk_drew ?_ | refine blk_alloc ?_ _)); exact BK224.out) hb); have n1_ := Aside0.mk (blk_below (g := gb225) (o := .cells #[.int .u64 x226000_41, .int .u64 x226001_41, .int .u64 x226002_41, .int .u64 x226003_41, .int .i64 x226004_41] 26 (0, 0)) (by (with_reducible repeat (first | refine blk_drewN ?_ _ | refine blk_drew ?_ | refine blk_alloc ?_ _)); refine blk_far ?_ NB225_248.out _; (with_reducible repeat (first | refine blk_drewN ?_ _ | refine blk_drew ?_ | refine blk_alloc ?_ _)); refine blk_far ?_ NB225_248.out _; (with_reducible repeat (first | refine blk_drewN ?_ _ | refine blk_drew ?_ | refine blk_alloc ?_ _)); refine blk_far ?_ NB225_248.out _; (with_reducible repeat (first | refine blk_drewN ?_ _ | refine blk_drew ?_ | refine blk_alloc ?_ _)); refine blk_far ?_ NB225_248.out _; (with_reducible repeat (first | refine blk_drewN ?_ _ | refine blk_drew ?_ | refine blk_alloc ?_ _)); refine blk_far ?_ NB225_248.out _; (with_reducible repeat (first | refine blk_drewN ?_ _ | refine blk_drew ?_ | refine blk_alloc ?_ _)); exact BK225.out) hb); have n2_ := Aside0.mk (blk_below (g := gb235) (o := .cells #[.string t232, .string t233] 23 (0, 0)) (by (with_reducible repeat (first | refine blk_drewN ?_ _ | refine blk_drew ?_ | refine blk_alloc ?_ _)); refine blk_far ?_ NB235_248.out _; (with_reducible repeat (first | refine blk_drewN ?_ _ | refine blk_drew ?_ | refine blk_alloc ?_ _)); refine blk_far ?_ NB235_248.out _; (with_reducible repeat (first | refine blk_drewN ?_ _ | refine blk_drew ?_ | refine blk_alloc ?_ _)); refine blk_far ?_ NB235_248.out _; (with_reducible repeat (first | refine blk_drewN ?_ _ | refine blk_drew ?_ | refine blk_alloc ?_ _)); refine blk_far ?_ NB235_248.out _; (with_reducible repeat (first | refine blk_drewN ?_ _ | refine blk_drew ?_ | refine blk_alloc ?_ _)); refine blk_far ?_ NB235_248.out _; (with_reducible repeat (first | refine blk_drewN ?_ _ | refine blk_drew ?_ | refine blk_alloc ?_ _)); exact BK235.out) hb); have n3_ := Aside0.mk (blk_below (g := gb240) (o := .cells #[.string t237, .string t238] 23 (0, 0)) (by (with_reducible repeat (first | refine blk_drewN ?_ _ | refine blk_drew ?_ | refine blk_alloc ?_ _)); refine blk_far ?_ NB240_248.out _; (with_reducible repeat (first | refine blk_drewN ?_ _ | refine blk_drew ?_ | refine blk_alloc ?_ _)); refine blk_far ?_ NB240_248.out _; (with_reducible repeat (first | refine blk_drewN ?_ _ | refine blk_drew ?_ | refine blk_alloc ?_ _)); refine blk_far ?_ NB240_248.out _; (with_reducible repeat (first | refine blk_drewN ?_ _ | refine blk_drew ?_ | refine blk_alloc ?_ _)); refine blk_far ?_ NB240_248.out _; (with_reducible repeat (first | refine blk_drewN ?_ _ | refine blk_drew ?_ | refine blk_alloc ?_ _)); refine blk_far ?_ NB240_248.out _; (with_reducible repeat (first | refine blk_drewN ?_ _ | refine blk_drew ?_ | refine blk_alloc ?_ _)); exact BK240.out) hb); have n4_ := Aside0.mk (blk_below (g := gb248) (o := .cells #[.int .u64 t242, .int .u64 t243, .int .u64 t244, .int .u64 t245, .int .i64 t246] 26 (0, 0)) (by (with_reducible repeat (first | refine blk_drewN ?_ _ | refine blk_drew ?_ | refine blk_alloc ?_ _)); refine blk_put (cs := #[.int .u64 t242, .int .u64 t243, .int .u64 t244, .int .u64 t245, .int .i64 0]) ?_ 4 _ rfl; (with_reducible repeat (first | refine blk_drewN ?_ _ | refine blk_drew ?_ | refine blk_alloc ?_ _)); refine blk_put (cs := #[.int .u64 t242, .int .u64 t243, .int .u64 t244, .int .u64 0, .int .i64 0]) ?_ 3 _ rfl; (with_reducible repeat (first | refine blk_drewN ?_ _ | refine blk_drew ?_ | refine blk_alloc ?_ _)); refine blk_put (cs := #[.int .u64 t242, .int .u64 t243, .int .u64 0, .int .u64 0, .int .i64 0]) ?_ 2 _ rfl; (with_reducible repeat (first | refine blk_drewN ?_ _ | refine blk_drew ?_ | refine blk_alloc ?_ _)); refine blk_put (cs := #[.int .u64 t242, .int .u64 0, .int .u64 0, .int .u64 0, .int .i64 0]) ?_ 1 _ rfl; (with_reducible repeat (first | refine blk_drewN ?_ _ | refine blk_drew ?_ | refine blk_alloc ?_ _)); refine blk_put (cs := #[.int .u64 0, .int .u64 0, .int .u64 0, .int .u64 0, .int .i64 0]) ?_ 0 _ rfl; (with_reducible repeat (first | refine blk_drewN ?_ _ | refine blk_drew ?_ | refine blk_alloc ?_ _)); exact BK248.out) hb); have n5_ := Aside0.mk (below_step (by repeat (first | (with_reducible first | exact HB.out | apply below_alloc | apply pw_below_drewN | apply below_drew1 | refine below_set ?_ GE224.out | refine below_set ?_ GE225.out | refine below_set ?_ GE235.out | refine below_set ?_ GE240.out | refine below_set ?_ GE248.out) | exact HB.out)) hb); clear BK224; clear BK225; clear BK235; clear BK240; clear BK248; clear HB; have BK224 := n0_; have BK225 := n1_; have BK235 := n2_; have BK240 := n3_; have BK248 := n4_; have HB := n5_; clear n0_ n1_ n2_ n3_ n4_ n5_; (try clear hb); (try clear hb2); (try clear hk); (try clear hi)) | ((with_reducible refine gate_dst (N := 16) rfl ?_); refine box_event ?hg (N := 16) ?hd (cs := #[.int .u64 0, .int .u64 0, .int .u64 0, .int .u64 0, .int .i64 0]) (t := 26) ?hr ?_; (case hd => rfl); (case hg => rfl); (case hr => first | (go_simp; done) | (go_simp; rfl)); intro gb255 hg w81 hbox hb; have n0_ := Aside0.mk (blk_below (g := gb224) (o := .cells #[.string x225000_1, .string x225001_1] 23 (0, 0)) (by (with_reducible repeat (first | refine blk_drewN ?_ _ | refine blk_drew ?_ | refine blk_alloc ?_ _)); exact BK224.out) hb); have n1_ := Aside0.mk (blk_below (g := gb225) (o := .cells #[.int .u64 x226000_41, .int .u64 x226001_41, .int .u64 x226002_41, .int .u64 x226003_41, .int .i64 x226004_41] 26 (0, 0)) (by (with_reducible repeat (first | refine blk_drewN ?_ _ | refine blk_drew ?_ | refine blk_alloc ?_ _)); exact BK225.out) hb); have n2_ := Aside0.mk (blk_below (g := gb235) (o := .cells #[.string t232, .string t233] 23 (0, 0)) (by (with_reducible repeat (first | refine blk_drewN ?_ _ | refine blk_drew ?_ | refine blk_alloc ?_ _)); exact BK235.out) hb); have n3_ := Aside0.mk (blk_below (g := gb240) (o := .cells #[.string t237, .string t238] 23 (0, 0)) (by (with_reducible repeat (first | refine blk_drewN ?_ _ | refine blk_drew ?_ | refine blk_alloc ?_ _)); exact BK240.out) hb); have n4_ := Aside0.mk (blk_below (g := gb248) (o := .cells #[.int .u64 t242, .int .u64 t243, .int .u64 t244, .int .u64 t245, .int .i64 t246] 26 (0, 0)) (by (with_reducible repeat (first | refine blk_drewN ?_ _ | refine blk_drew ?_ | refine blk_alloc ?_ _)); exact BK248.out) hb); have n5_ := Aside0.mk (below_step (by repeat (first | (with_reducible first | exact HB.out | apply below_alloc | apply pw_below_drewN | apply below_drew1 | refine below_set ?_ GE224.out | refine below_set ?_ GE225.out | refine below_set ?_ GE235.out | refine below_set ?_ GE240.out | refine below_set ?_ GE248.out) | exact HB.out)) hb); have n6_ := Aside0.mk (hbox); have n7_ := Aside0.mk ((by rw [hg]; exact (below_size (by repeat (first | (with_reducible first | exact HB.out | apply below_alloc | apply pw_below_drewN | apply below_drew1 | refine below_set ?_ GE224.out | refine below_set ?_ GE225.out | refine below_set ?_ GE235.out | refine below_set ?_ GE240.out | refine below_set ?_ GE248.out) | exact HB.out))) : w.heap.size ≤ gb255)); have n8_ := Aside0.mk ((by rw [hg]; exact (below_size (by repeat (first | (with_reducible first | exact HB.out | apply below_alloc | apply pw_below_drewN | apply below_drew1 | refine below_set ?_ GE224.out | refine below_set ?_ GE225.out | refine below_set ?_ GE235.out | refine below_set ?_ GE240.out | refine below_set ?_ GE248.out) | exact HB.out))) : w.heap.size ≤ gb255)); have n9_ := Aside0.mk ((by rw [hg]; exact Nat.ne_of_lt (blk_lt (g := gb224) (o := .cells #[.string x225000_1, .string x225001_1] 23 (0, 0)) (by (with_reducible repeat (first | refine blk_drewN ?_ _ | refine blk_drew ?_ | refine blk_alloc ?_ _)); exact BK224.out)) : gb224 ≠ gb255)); have n10_ := Aside0.mk ((by rw [hg]; exact Nat.ne_of_gt (blk_lt (g := gb224) (o := .cells #[.string x225000_1, .string x225001_1] 23 (0, 0)) (by (with_reducible repeat (first | refine blk_drewN ?_ _ | refine blk_drew ?_ | refine blk_alloc ?_ _)); exact BK224.out)) : gb255 ≠ gb224)); have n11_ := Aside0.mk ((by rw [hg]; exact Nat.ne_of_lt (blk_lt (g := gb225) (o := .cells #[.int .u64 x226000_41, .int .u64 x226001_41, .int .u64 x226002_41, .int .u64 x226003_41, .int .i64 x226004_41] 26 (0, 0)) (by (with_reducible repeat (first | refine blk_drewN ?_ _ | refine blk_drew ?_ | refine blk_alloc ?_ _)); exact BK225.out)) : gb225 ≠ gb255)); have n12_ := Aside0.mk ((by rw [hg]; exact Nat.ne_of_gt (blk_lt (g := gb225) (o := .cells #[.int .u64 x226000_41, .int .u64 x226001_41, .int .u64 x226002_41, .int .u64 x226003_41, .int .i64 x226004_41] 26 (0, 0)) (by (with_reducible repeat (first | refine blk_drewN ?_ _ | refine blk_drew ?_ | refine blk_alloc ?_ _)); exact BK225.out)) : gb255 ≠ gb225)); have n13_ := Aside0.mk ((by rw [hg]; exact Nat.ne_of_lt (blk_lt (g := gb235) (o := .cells #[.string t232, .string t233] 23 (0, 0)) (by (with_reducible repeat (first | refine blk_drewN ?_ _ | refine blk_drew ?_ | refine blk_alloc ?_ _)); exact BK235.out)) : gb235 ≠ gb255)); have n14_ := Aside0.mk ((by rw [hg]; exact Nat.ne_of_gt (blk_lt (g := gb235) (o := .cells #[.string t232, .string t233] 23 (0, 0)) (by (with_reducible repeat (first | refine blk_drewN ?_ _ | refine blk_drew ?_ | refine blk_alloc ?_ _)); exact BK235.out)) : gb255 ≠ gb235)); have n15_ := Aside0.mk ((by rw [hg]; exact Nat.ne_of_lt (blk_lt (g := gb240) (o := .cells #[.string t237, .string t238] 23 (0, 0)) (by (with_reducible repeat (first | refine blk_drewN ?_ _ | refine blk_drew ?_ | refine blk_alloc ?_ _)); exact BK240.out)) : gb240 ≠ gb255)); have n16_ := Aside0.mk ((by rw [hg]; exact Nat.ne_of_gt (blk_lt (g := gb240) (o := .cells #[.string t237, .string t238] 23 (0, 0)) (by (with_reducible repeat (first | refine blk_drewN ?_ _ | refine blk_drew ?_ | refine blk_alloc ?_ _)); exact BK240.out)) : gb255 ≠ gb240)); have n17_ := Aside0.mk ((by rw [hg]; exact Nat.ne_of_lt (blk_lt (g := gb248) (o := .cells #[.int .u64 t242, .int .u64 t243, .int .u64 t244, .int .u64 t245, .int .i64 t246] 26 (0, 0)) (by (with_reducible repeat (first | refine blk_drewN ?_ _ | refine blk_drew ?_ | refine blk_alloc ?_ _)); exact BK248.out)) : gb248 ≠ gb255)); have n18_ := Aside0.mk ((by rw [hg]; exact Nat.ne_of_gt (blk_lt (g := gb248) (o := .cells #[.int .u64 t242, .int .u64 t243, .int .u64 t244, .int .u64 t245, .int .i64 t246] 26 (0, 0)) (by (with_reducible repeat (first | refine blk_drewN ?_ _ | refine blk_drew ?_ | refine blk_alloc ?_ _)); exact BK248.out)) : gb255 ≠ gb248)); clear BK224; clear BK225; clear BK235; clear BK240; clear BK248; clear HB; have BK224 := n0_; have BK225 := n1_; have BK235 := n2_; have BK240 := n3_; have BK248 := n4_; have HB := n5_; have BK255 := n6_; have GW255 := n7_; have GE255 := n8_; have NB224_255 := n9_; have NB255_224 := n10_; have NB225_255 := n11_; have NB255_225 := n12_; have NB235_255 := n13_; have NB255_235 := n14_; have NB240_255 := n15_; have NB255_240 := n16_; have NB248_255 := n17_; have NB255_248 := n18_; clear n0_ n1_ n2_ n3_ n4_ n5_ n6_ n7_ n8_ n9_ n10_ n11_ n12_ n13_ n14_ n15_ n16_ n17_ n18_; clear hb hbox hg; have hnb82 := NB255_224.out; have hnc82 := NB224_255.out; have hnb83 := NB255_225.out; have hnc83 := NB225_255.out; have hnb84 := NB255_235.out; have hnc84 := NB235_255.out; have hnb85 := NB255_240.out; have hnc85 := NB240_255.out; have hnb86 := NB255_248.out; have hnc86 := NB248_255.out; have hcz87_0 : w81.cell? ⟨gb255, 0, none⟩ = some (.int .u64 0) := (blk_cell BK255.out 0).trans rfl; have hcz87_1 : w81.cell? ⟨gb255, 1, none⟩ = some (.int .u64 0) := (blk_cell BK255.out 1).trans rfl; have hcz87_2 : w81.cell? ⟨gb255, 2, none⟩ = some (.int .u64 0) := (blk_cell BK255.out 2).trans rfl; have hcz87_3 : w81.cell? ⟨gb255, 3, none⟩ = some (.int .u64 0) := (blk_cell BK255.out 3).trans rfl; have hcz87_4 : w81.cell? ⟨gb255, 4, none⟩ = some (.int .i64 0) := (blk_cell BK255.out 4).trans rfl; have hfz87_0 := blk_frozen BK255.out 0; have hfz87_1 := blk_frozen BK255.out 1; have hfz87_2 := blk_frozen BK255.out 2; have hfz87_3 := blk_frozen BK255.out 3; have hfz87_4 := blk_frozen BK255.out 4; have hcz88_0 : w81.cell? ⟨gb248, 0, none⟩ = some (.int .u64 t242) := (blk_cell BK248.out 0).trans rfl; have hcz88_1 : w81.cell? ⟨gb248, 1, none⟩ = some (.int .u64 t243) := (blk_cell BK248.out 1).trans rfl; have hcz88_2 : w81.cell? ⟨gb248, 2, none⟩ = some (.int .u64 t244) := (blk_cell BK248.out 2).trans rfl; have hcz88_3 : w81.cell? ⟨gb248, 3, none⟩ = some (.int .u64 t245) := (blk_cell BK248.out 3).trans rfl; have hcz88_4 : w81.cell? ⟨gb248, 4, none⟩ = some (.int .i64 t246) := (blk_cell BK248.out 4).trans rfl; have hfz88_0 := blk_frozen BK248.out 0; have hfz88_1 := blk_frozen BK248.out 1; have hfz88_2 := blk_frozen BK248.out 2; have hfz88_3 := blk_frozen BK248.out 3; have hfz88_4 := blk_frozen BK248.out 4; have hnb89 := NB225_240.out; have hnc89 := NB240_225.out; have hcz90_0 : w81.cell? ⟨gb225, 0, none⟩ = some (.int .u64 x226000_41) := (blk_cell BK225.out 0).trans rfl; have hcz90_1 : w81.cell? ⟨gb225, 1, none⟩ = some (.int .u64 x226001_41) := (blk_cell BK225.out 1).trans rfl; have hcz90_2 : w81.cell? ⟨gb225, 2, none⟩ = some (.int .u64 x226002_41) := (blk_cell BK225.out 2).trans rfl; have hcz90_3 : w81.cell? ⟨gb225, 3, none⟩ = some (.int .u64 x226003_41) := (blk_cell BK225.out 3).trans rfl; have hcz90_4 : w81.cell? ⟨gb225, 4, none⟩ = some (.int .i64 x226004_41) := (blk_cell BK225.out 4).trans rfl; have hfz90_0 := blk_frozen BK225.out 0; have hfz90_1 := blk_frozen BK225.out 1; have hfz90_2 := blk_frozen BK225.out 2; have hfz90_3 := blk_frozen BK225.out 3; have hfz90_4 := blk_frozen BK225.out 4; have hcz91_0 : w81.cell? ⟨gb235, 0, none⟩ = some (.string t232) := (blk_cell BK235.out 0).trans rfl; have hcz91_1 : w81.cell? ⟨gb235, 1, none⟩ = some (.string t233) := (blk_cell BK235.out 1).trans rfl; have hfz91_0 := blk_frozen BK235.out 0; have hfz91_1 := blk_frozen BK235.out 1; have hcz92_0 : w81.cell? ⟨gb224, 0, none⟩ = some (.string x225000_1) := (blk_cell BK224.out 0).trans rfl; have hcz92_1 : w81.cell? ⟨gb224, 1, none⟩ = some (.string x225001_1) := (blk_cell BK224.out 1).trans rfl; have hfz92_0 := blk_frozen BK224.out 0; have hfz92_1 := blk_frozen BK224.out 1))
                                                      go_roundg kj41
                                                      case measure => have := HK1.out; have := HJ7.out; have := HJ14.out; have := HJ17.out; have := HJ25.out; have := HJ41.out; omega
                                                      case rel => exact ⟨(true), (wrap64 (x8_1 + 1)), (t232), (t233), (x226000_41), (x226001_41), (x226002_41), (x226003_41), (x226004_41), (by first | rfl | (simp; done) | (simp [*]; done)), (by first | rfl | (simp; done) | (simp [*]; done)), H', ⟨by have := HK1.out; have := HJ7.out; have := HJ14.out; have := HJ17.out; have := HJ25.out; have := HJ41.out; omega⟩, ⟨by (with_reducible repeat (first | refine blk_drewN ?_ _ | refine blk_drew ?_ | refine blk_alloc ?_ _)); refine blk_put (cs := #[.string t232, .string x225001_1]) ?_ 1 _ rfl; (with_reducible repeat (first | refine blk_drewN ?_ _ | refine blk_drew ?_ | refine blk_alloc ?_ _)); refine blk_put (cs := #[.string x225000_1, .string x225001_1]) ?_ 0 _ rfl; (with_reducible repeat (first | refine blk_drewN ?_ _ | refine blk_drew ?_ | refine blk_alloc ?_ _)); refine blk_far ?_ NB224_255.out _; (with_reducible repeat (first | refine blk_drewN ?_ _ | refine blk_drew ?_ | refine blk_alloc ?_ _)); refine blk_far ?_ NB224_255.out _; (with_reducible repeat (first | refine blk_drewN ?_ _ | refine blk_drew ?_ | refine blk_alloc ?_ _)); refine blk_far ?_ NB224_255.out _; (with_reducible repeat (first | refine blk_drewN ?_ _ | refine blk_drew ?_ | refine blk_alloc ?_ _)); refine blk_far ?_ NB224_255.out _; (with_reducible repeat (first | refine blk_drewN ?_ _ | refine blk_drew ?_ | refine blk_alloc ?_ _)); refine blk_far ?_ NB224_255.out _; (with_reducible repeat (first | refine blk_drewN ?_ _ | refine blk_drew ?_ | refine blk_alloc ?_ _)); exact BK224.out⟩, ⟨by (with_reducible repeat (first | refine blk_drewN ?_ _ | refine blk_drew ?_ | refine blk_alloc ?_ _)); refine blk_far ?_ NB225_224.out _; (with_reducible repeat (first | refine blk_drewN ?_ _ | refine blk_drew ?_ | refine blk_alloc ?_ _)); refine blk_far ?_ NB225_224.out _; (with_reducible repeat (first | refine blk_drewN ?_ _ | refine blk_drew ?_ | refine blk_alloc ?_ _)); refine blk_far ?_ NB225_255.out _; (with_reducible repeat (first | refine blk_drewN ?_ _ | refine blk_drew ?_ | refine blk_alloc ?_ _)); refine blk_far ?_ NB225_255.out _; (with_reducible repeat (first | refine blk_drewN ?_ _ | refine blk_drew ?_ | refine blk_alloc ?_ _)); refine blk_far ?_ NB225_255.out _; (with_reducible repeat (first | refine blk_drewN ?_ _ | refine blk_drew ?_ | refine blk_alloc ?_ _)); refine blk_far ?_ NB225_255.out _; (with_reducible repeat (first | refine blk_drewN ?_ _ | refine blk_drew ?_ | refine blk_alloc ?_ _)); refine blk_far ?_ NB225_255.out _; (with_reducible repeat (first | refine blk_drewN ?_ _ | refine blk_drew ?_ | refine blk_alloc ?_ _)); exact BK225.out⟩, ⟨by repeat (first | (with_reducible first | exact HB.out | apply below_alloc | apply pw_below_drewN | apply below_drew1 | refine below_set ?_ GE224.out | refine below_set ?_ GE225.out | refine below_set ?_ GE235.out | refine below_set ?_ GE240.out | refine below_set ?_ GE248.out | refine below_set ?_ GE255.out) | exact HB.out)⟩⟩
                                                    · rw [if_neg c65] at H
                                                      exact absurd H (by simp)
                                                  · rw [if_neg c64] at H
                                                    exact absurd H (by simp)
                                                · rw [if_neg c63] at H
                                                  exact absurd H (by simp)
                                              · rw [if_neg c62] at H
                                                exact absurd H (by simp)
                                            · replace c61 := Bool.eq_false_iff.mpr c61
                                              subst c61
                                              have H1 : (tattlelaw16_DiskSteps.l0 kj41 l0 l1 false (wrap64 (x8_1 + 1)) t232 t233 x226000_41 x226001_41 x226002_41 x226003_41 x226004_41) = some r := by rw [if_neg (show ¬ (false = true) by decide)] at H; exact H
                                              clear H
                                              have H := H1
                                              clear H1
                                              have H' := Aside0.mk H
                                              clear H
                                              have hnb93 := NB224_225.out
                                              have hnc93 := NB225_224.out
                                              have hnb94 := NB224_235.out
                                              have hnc94 := NB235_224.out
                                              have hnb95 := NB224_240.out
                                              have hnc95 := NB240_224.out
                                              have hcz96_0 : wc.cell? ⟨gb224, 0, none⟩ = some (.string x225000_1) := (blk_cell BK224.out 0).trans rfl
                                              have hcz96_1 : wc.cell? ⟨gb224, 1, none⟩ = some (.string x225001_1) := (blk_cell BK224.out 1).trans rfl
                                              have hfz96_0 := blk_frozen BK224.out 0
                                              have hfz96_1 := blk_frozen BK224.out 1
                                              go_wp2_with (first | ((with_reducible refine gate_callee (f := 12) rfl ?_); refine goesL_ (some 87) rfl rfl Try.func12 (by kernel_rfl) rfl #[.agg #[.string x225000_1, .string x225001_1]] rfl (by (try simp only [List.map_toArray, List.map_cons, List.map_nil]); first | done | rfl | (simp only [List.length_drop, List.length_take]; rfl)) ?_; (with_reducible refine (disk_Read.calls kj41 x225000_1 x225001_1 t242 t243 t244 t245 t246 t247 _ A57.out).mono ?_); rintro e w97 ⟨rfl, hb⟩; refine ⟨_, rfl, ?_⟩; have n0_ := Aside0.mk (blk_below (g := gb224) (o := .cells #[.string x225000_1, .string x225001_1] 23 (0, 0)) (by (with_reducible repeat (first | refine blk_drewN ?_ _ | refine blk_drew ?_ | refine blk_alloc ?_ _)); exact BK224.out) hb); have n1_ := Aside0.mk (blk_below (g := gb225) (o := .cells #[.int .u64 x226000_41, .int .u64 x226001_41, .int .u64 x226002_41, .int .u64 x226003_41, .int .i64 x226004_41] 26 (0, 0)) (by (with_reducible repeat (first | refine blk_drewN ?_ _ | refine blk_drew ?_ | refine blk_alloc ?_ _)); exact BK225.out) hb); have n2_ := Aside0.mk (blk_below (g := gb235) (o := .cells #[.string t232, .string t233] 23 (0, 0)) (by (with_reducible repeat (first | refine blk_drewN ?_ _ | refine blk_drew ?_ | refine blk_alloc ?_ _)); exact BK235.out) hb); have n3_ := Aside0.mk (blk_below (g := gb240) (o := .cells #[.string t237, .string t238] 23 (0, 0)) (by (with_reducible repeat (first | refine blk_drewN ?_ _ | refine blk_drew ?_ | refine blk_alloc ?_ _)); exact BK240.out) hb); have n4_ := Aside0.mk (below_step (by repeat (first | (with_reducible first | exact HB.out | apply below_alloc | apply pw_below_drewN | apply below_drew1 | refine below_set ?_ GE224.out | refine below_set ?_ GE225.out | refine below_set ?_ GE235.out | refine below_set ?_ GE240.out) | exact HB.out)) hb); clear BK224; clear BK225; clear BK235; clear BK240; clear HB; have BK224 := n0_; have BK225 := n1_; have BK235 := n2_; have BK240 := n3_; have HB := n4_; clear n0_ n1_ n2_ n3_ n4_; (try clear hb); (try clear hb2); (try clear hk); (try clear hi)) | ((with_reducible refine gate_dst (N := 14) rfl ?_); refine box_event ?hg (N := 14) ?hd (cs := #[.int .u64 0, .int .u64 0, .int .u64 0, .int .u64 0, .int .i64 0]) (t := 26) ?hr ?_; (case hd => rfl); (case hg => rfl); (case hr => first | (go_simp; done) | (go_simp; rfl)); intro gb248 hg w98 hbox hb; have n0_ := Aside0.mk (blk_below (g := gb224) (o := .cells #[.string x225000_1, .string x225001_1] 23 (0, 0)) (by (with_reducible repeat (first | refine blk_drewN ?_ _ | refine blk_drew ?_ | refine blk_alloc ?_ _)); exact BK224.out) hb); have n1_ := Aside0.mk (blk_below (g := gb225) (o := .cells #[.int .u64 x226000_41, .int .u64 x226001_41, .int .u64 x226002_41, .int .u64 x226003_41, .int .i64 x226004_41] 26 (0, 0)) (by (with_reducible repeat (first | refine blk_drewN ?_ _ | refine blk_drew ?_ | refine blk_alloc ?_ _)); exact BK225.out) hb); have n2_ := Aside0.mk (blk_below (g := gb235) (o := .cells #[.string t232, .string t233] 23 (0, 0)) (by (with_reducible repeat (first | refine blk_drewN ?_ _ | refine blk_drew ?_ | refine blk_alloc ?_ _)); exact BK235.out) hb); have n3_ := Aside0.mk (blk_below (g := gb240) (o := .cells #[.string t237, .string t238] 23 (0, 0)) (by (with_reducible repeat (first | refine blk_drewN ?_ _ | refine blk_drew ?_ | refine blk_alloc ?_ _)); exact BK240.out) hb); have n4_ := Aside0.mk (below_step (by repeat (first | (with_reducible first | exact HB.out | apply below_alloc | apply pw_below_drewN | apply below_drew1 | refine below_set ?_ GE224.out | refine below_set ?_ GE225.out | refine below_set ?_ GE235.out | refine below_set ?_ GE240.out) | exact HB.out)) hb); have n5_ := Aside0.mk (hbox); have n6_ := Aside0.mk ((by rw [hg]; exact (below_size (by repeat (first | (with_reducible first | exact HB.out | apply below_alloc | apply pw_below_drewN | apply below_drew1 | refine below_set ?_ GE224.out | refine below_set ?_ GE225.out | refine below_set ?_ GE235.out | refine below_set ?_ GE240.out) | exact HB.out))) : w.heap.size ≤ gb248)); have n7_ := Aside0.mk ((by rw [hg]; exact (below_size (by repeat (first | (with_reducible first | exact HB.out | apply below_alloc | apply pw_below_drewN | apply below_drew1 | refine below_set ?_ GE224.out | refine below_set ?_ GE225.out | refine below_set ?_ GE235.out | refine below_set ?_ GE240.out) | exact HB.out))) : w.heap.size ≤ gb248)); have n8_ := Aside0.mk ((by rw [hg]; exact Nat.ne_of_lt (blk_lt (g := gb224) (o := .cells #[.string x225000_1, .string x225001_1] 23 (0, 0)) (by (with_reducible repeat (first | refine blk_drewN ?_ _ | refine blk_drew ?_ | refine blk_alloc ?_ _)); exact BK224.out)) : gb224 ≠ gb248)); have n9_ := Aside0.mk ((by rw [hg]; exact Nat.ne_of_gt (blk_lt (g := gb224) (o := .cells #[.string x225000_1, .string x225001_1] 23 (0, 0)) (by (with_reducible repeat (first | refine blk_drewN ?_ _ | refine blk_drew ?_ | refine blk_alloc ?_ _)); exact BK224.out)) : gb248 ≠ gb224)); have n10_ := Aside0.mk ((by rw [hg]; exact Nat.ne_of_lt (blk_lt (g := gb225) (o := .cells #[.int .u64 x226000_41, .int .u64 x226001_41, .int .u64 x226002_41, .int .u64 x226003_41, .int .i64 x226004_41] 26 (0, 0)) (by (with_reducible repeat (first | refine blk_drewN ?_ _ | refine blk_drew ?_ | refine blk_alloc ?_ _)); exact BK225.out)) : gb225 ≠ gb248)); have n11_ := Aside0.mk ((by rw [hg]; exact Nat.ne_of_gt (blk_lt (g := gb225) (o := .cells #[.int .u64 x226000_41, .int .u64 x226001_41, .int .u64 x226002_41, .int .u64 x226003_41, .int .i64 x226004_41] 26 (0, 0)) (by (with_reducible repeat (first | refine blk_drewN ?_ _ | refine blk_drew ?_ | refine blk_alloc ?_ _)); exact BK225.out)) : gb248 ≠ gb225)); have n12_ := Aside0.mk ((by rw [hg]; exact Nat.ne_of_lt (blk_lt (g := gb235) (o := .cells #[.string t232, .string t233] 23 (0, 0)) (by (with_reducible repeat (first | refine blk_drewN ?_ _ | refine blk_drew ?_ | refine blk_alloc ?_ _)); exact BK235.out)) : gb235 ≠ gb248)); have n13_ := Aside0.mk ((by rw [hg]; exact Nat.ne_of_gt (blk_lt (g := gb235) (o := .cells #[.string t232, .string t233] 23 (0, 0)) (by (with_reducible repeat (first | refine blk_drewN ?_ _ | refine blk_drew ?_ | refine blk_alloc ?_ _)); exact BK235.out)) : gb248 ≠ gb235)); have n14_ := Aside0.mk ((by rw [hg]; exact Nat.ne_of_lt (blk_lt (g := gb240) (o := .cells #[.string t237, .string t238] 23 (0, 0)) (by (with_reducible repeat (first | refine blk_drewN ?_ _ | refine blk_drew ?_ | refine blk_alloc ?_ _)); exact BK240.out)) : gb240 ≠ gb248)); have n15_ := Aside0.mk ((by rw [hg]; exact Nat.ne_of_gt (blk_lt (g := gb240) (o := .cells #[.string t237, .string t238] 23 (0, 0)) (by (with_reducible repeat (first | refine blk_drewN ?_ _ | refine blk_drew ?_ | refine blk_alloc ?_ _)); exact BK240.out)) : gb248 ≠ gb240)); clear BK224; clear BK225; clear BK235; clear BK240; clear HB; have BK224 := n0_; have BK225 := n1_; have BK235 := n2_; have BK240 := n3_; have HB := n4_; have BK248 := n5_; have GW248 := n6_; have GE248 := n7_; have NB224_248 := n8_; have NB248_224 := n9_; have NB225_248 := n10_; have NB248_225 := n11_; have NB235_248 := n12_; have NB248_235 := n13_; have NB240_248 := n14_; have NB248_240 := n15_; clear n0_ n1_ n2_ n3_ n4_ n5_ n6_ n7_ n8_ n9_ n10_ n11_ n12_ n13_ n14_ n15_; clear hb hbox hg; have hnb99 := NB248_224.out; have hnc99 := NB224_248.out; have hnb100 := NB248_225.out; have hnc100 := NB225_248.out; have hnb101 := NB248_235.out; have hnc101 := NB235_248.out; have hnb102 := NB248_240.out; have hnc102 := NB240_248.out; have hcz103_0 : w98.cell? ⟨gb248, 0, none⟩ = some (.int .u64 0) := (blk_cell BK248.out 0).trans rfl; have hcz103_1 : w98.cell? ⟨gb248, 1, none⟩ = some (.int .u64 0) := (blk_cell BK248.out 1).trans rfl; have hcz103_2 : w98.cell? ⟨gb248, 2, none⟩ = some (.int .u64 0) := (blk_cell BK248.out 2).trans rfl; have hcz103_3 : w98.cell? ⟨gb248, 3, none⟩ = some (.int .u64 0) := (blk_cell BK248.out 3).trans rfl; have hcz103_4 : w98.cell? ⟨gb248, 4, none⟩ = some (.int .i64 0) := (blk_cell BK248.out 4).trans rfl; have hfz103_0 := blk_frozen BK248.out 0; have hfz103_1 := blk_frozen BK248.out 1; have hfz103_2 := blk_frozen BK248.out 2; have hfz103_3 := blk_frozen BK248.out 3; have hfz103_4 := blk_frozen BK248.out 4; have hnb104 := NB235_225.out; have hnc104 := NB225_235.out; have hnb105 := NB235_240.out; have hnc105 := NB240_235.out; have hcz106_0 : w98.cell? ⟨gb235, 0, none⟩ = some (.string t232) := (blk_cell BK235.out 0).trans rfl; have hcz106_1 : w98.cell? ⟨gb235, 1, none⟩ = some (.string t233) := (blk_cell BK235.out 1).trans rfl; have hfz106_0 := blk_frozen BK235.out 0; have hfz106_1 := blk_frozen BK235.out 1) | ((with_reducible refine gate_callee (f := 12) rfl ?_); refine goesL_ (some 92) rfl rfl Try.func12 (by kernel_rfl) rfl #[.agg #[.string t232, .string t233]] rfl (by (try simp only [List.map_toArray, List.map_cons, List.map_nil]); first | done | rfl | (simp only [List.length_drop, List.length_take]; rfl)) ?_; (with_reducible refine (disk_Read.calls kj41 t232 t233 t249 t250 t251 t252 t253 t254 _ A58.out).mono ?_); rintro e w107 ⟨rfl, hb⟩; refine ⟨_, rfl, ?_⟩; have n0_ := Aside0.mk (blk_below (g := gb224) (o := .cells #[.string x225000_1, .string x225001_1] 23 (0, 0)) (by (with_reducible repeat (first | refine blk_drewN ?_ _ | refine blk_drew ?_ | refine blk_alloc ?_ _)); refine blk_far ?_ NB224_248.out _; (with_reducible repeat (first | refine blk_drewN ?_ _ | refine blk_drew ?_ | refine blk_alloc ?_ _)); refine blk_far ?_ NB224_248.out _; (with_reducible repeat (first | refine blk_drewN ?_ _ | refine blk_drew ?_ | refine blk_alloc ?_ _)); refine blk_far ?_ NB224_248.out _; (with_reducible repeat (first | refine blk_drewN ?_ _ | refine blk_drew ?_ | refine blk_alloc ?_ _)); refine blk_far ?_ NB224_248.out _; (with_reducible repeat (first | refine blk_drewN ?_ _ | refine blk_drew ?_ | refine blk_alloc ?_ _)); refine blk_far ?_ NB224_248.out _; (with_reducible repeat (first | refine blk_drewN ?_ _ | refine blk_drew ?_ | refine blk_alloc ?_ _)); exact BK224.out) hb); have n1_ := Aside0.mk (blk_below (g := gb225) (o := .cells #[.int .u64 x226000_41, .int .u64 x226001_41, .int .u64 x226002_41, .int .u64 x226003_41, .int .i64 x226004_41] 26 (0, 0)) (by (with_reducible repeat (first | refine blk_drewN ?_ _ | refine blk_drew ?_ | refine blk_alloc ?_ _)); refine blk_far ?_ NB225_248.out _; (with_reducible repeat (first | refine blk_drewN ?_ _ | refine blk_drew ?_ | refine blk_alloc ?_ _)); refine blk_far ?_ NB225_248.out _; (with_reducible repeat (first | refine blk_drewN ?_ _ | refine blk_drew ?_ | refine blk_alloc ?_ _)); refine blk_far ?_ NB225_248.out _; (with_reducible repeat (first | refine blk_drewN ?_ _ | refine blk_drew ?_ | refine blk_alloc ?_ _)); refine blk_far ?_ NB225_248.out _; (with_reducible repeat (first | refine blk_drewN ?_ _ | refine blk_drew ?_ | refine blk_alloc ?_ _)); refine blk_far ?_ NB225_248.out _; (with_reducible repeat (first | refine blk_drewN ?_ _ | refine blk_drew ?_ | refine blk_alloc ?_ _)); exact BK225.out) hb); have n2_ := Aside0.mk (blk_below (g := gb235) (o := .cells #[.string t232, .string t233] 23 (0, 0)) (by (with_reducible repeat (first | refine blk_drewN ?_ _ | refine blk_drew ?_ | refine blk_alloc ?_ _)); refine blk_far ?_ NB235_248.out _; (with_reducible repeat (first | refine blk_drewN ?_ _ | refine blk_drew ?_ | refine blk_alloc ?_ _)); refine blk_far ?_ NB235_248.out _; (with_reducible repeat (first | refine blk_drewN ?_ _ | refine blk_drew ?_ | refine blk_alloc ?_ _)); refine blk_far ?_ NB235_248.out _; (with_reducible repeat (first | refine blk_drewN ?_ _ | refine blk_drew ?_ | refine blk_alloc ?_ _)); refine blk_far ?_ NB235_248.out _; (with_reducible repeat (first | refine blk_drewN ?_ _ | refine blk_drew ?_ | refine blk_alloc ?_ _)); refine blk_far ?_ NB235_248.out _; (with_reducible repeat (first | refine blk_drewN ?_ _ | refine blk_drew ?_ | refine blk_alloc ?_ _)); exact BK235.out) hb); have n3_ := Aside0.mk (blk_below (g := gb240) (o := .cells #[.string t237, .string t238] 23 (0, 0)) (by (with_reducible repeat (first | refine blk_drewN ?_ _ | refine blk_drew ?_ | refine blk_alloc ?_ _)); refine blk_far ?_ NB240_248.out _; (with_reducible repeat (first | refine blk_drewN ?_ _ | refine blk_drew ?_ | refine blk_alloc ?_ _)); refine blk_far ?_ NB240_248.out _; (with_reducible repeat (first | refine blk_drewN ?_ _ | refine blk_drew ?_ | refine blk_alloc ?_ _)); refine blk_far ?_ NB240_248.out _; (with_reducible repeat (first | refine blk_drewN ?_ _ | refine blk_drew ?_ | refine blk_alloc ?_ _)); refine blk_far ?_ NB240_248.out _; (with_reducible repeat (first | refine blk_drewN ?_ _ | refine blk_drew ?_ | refine blk_alloc ?_ _)); refine blk_far ?_ NB240_248.out _; (with_reducible repeat (first | refine blk_drewN ?_ _ | refine blk_drew ?_ | refine blk_alloc ?_ _)); exact BK240.out) hb); have n4_ := Aside0.mk (blk_below (g := gb248) (o := .cells #[.int .u64 t242, .int .u64 t243, .int .u64 t244, .int .u64 t245, .int .i64 t246] 26 (0, 0)) (by (with_reducible repeat (first | refine blk_drewN ?_ _ | refine blk_drew ?_ | refine blk_alloc ?_ _)); refine blk_put (cs := #[.int .u64 t242, .int .u64 t243, .int .u64 t244, .int .u64 t245, .int .i64 0]) ?_ 4 _ rfl; (with_reducible repeat (first | refine blk_drewN ?_ _ | refine blk_drew ?_ | refine blk_alloc ?_ _)); refine blk_put (cs := #[.int .u64 t242, .int .u64 t243, .int .u64 t244, .int .u64 0, .int .i64 0]) ?_ 3 _ rfl; (with_reducible repeat (first | refine blk_drewN ?_ _ | refine blk_drew ?_ | refine blk_alloc ?_ _)); refine blk_put (cs := #[.int .u64 t242, .int .u64 t243, .int .u64 0, .int .u64 0, .int .i64 0]) ?_ 2 _ rfl; (with_reducible repeat (first | refine blk_drewN ?_ _ | refine blk_drew ?_ | refine blk_alloc ?_ _)); refine blk_put (cs := #[.int .u64 t242, .int .u64 0, .int .u64 0, .int .u64 0, .int .i64 0]) ?_ 1 _ rfl; (with_reducible repeat (first | refine blk_drewN ?_ _ | refine blk_drew ?_ | refine blk_alloc ?_ _)); refine blk_put (cs := #[.int .u64 0, .int .u64 0, .int .u64 0, .int .u64 0, .int .i64 0]) ?_ 0 _ rfl; (with_reducible repeat (first | refine blk_drewN ?_ _ | refine blk_drew ?_ | refine blk_alloc ?_ _)); exact BK248.out) hb); have n5_ := Aside0.mk (below_step (by repeat (first | (with_reducible first | exact HB.out | apply below_alloc | apply pw_below_drewN | apply below_drew1 | refine below_set ?_ GE224.out | refine below_set ?_ GE225.out | refine below_set ?_ GE235.out | refine below_set ?_ GE240.out | refine below_set ?_ GE248.out) | exact HB.out)) hb); clear BK224; clear BK225; clear BK235; clear BK240; clear BK248; clear HB; have BK224 := n0_; have BK225 := n1_; have BK235 := n2_; have BK240 := n3_; have BK248 := n4_; have HB := n5_; clear n0_ n1_ n2_ n3_ n4_ n5_; (try clear hb); (try clear hb2); (try clear hk); (try clear hi)) | ((with_reducible refine gate_dst (N := 16) rfl ?_); refine box_event ?hg (N := 16) ?hd (cs := #[.int .u64 0, .int .u64 0, .int .u64 0, .int .u64 0, .int .i64 0]) (t := 26) ?hr ?_; (case hd => rfl); (case hg => rfl); (case hr => first | (go_simp; done) | (go_simp; rfl)); intro gb255 hg w108 hbox hb; have n0_ := Aside0.mk (blk_below (g := gb224) (o := .cells #[.string x225000_1, .string x225001_1] 23 (0, 0)) (by (with_reducible repeat (first | refine blk_drewN ?_ _ | refine blk_drew ?_ | refine blk_alloc ?_ _)); exact BK224.out) hb); have n1_ := Aside0.mk (blk_below (g := gb225) (o := .cells #[.int .u64 x226000_41, .int .u64 x226001_41, .int .u64 x226002_41, .int .u64 x226003_41, .int .i64 x226004_41] 26 (0, 0)) (by (with_reducible repeat (first | refine blk_drewN ?_ _ | refine blk_drew ?_ | refine blk_alloc ?_ _)); exact BK225.out) hb); have n2_ := Aside0.mk (blk_below (g := gb235) (o := .cells #[.string t232, .string t233] 23 (0, 0)) (by (with_reducible repeat (first | refine blk_drewN ?_ _ | refine blk_drew ?_ | refine blk_alloc ?_ _)); exact BK235.out) hb); have n3_ := Aside0.mk (blk_below (g := gb240) (o := .cells #[.string t237, .string t238] 23 (0, 0)) (by (with_reducible repeat (first | refine blk_drewN ?_ _ | refine blk_drew ?_ | refine blk_alloc ?_ _)); exact BK240.out) hb); have n4_ := Aside0.mk (blk_below (g := gb248) (o := .cells #[.int .u64 t242, .int .u64 t243, .int .u64 t244, .int .u64 t245, .int .i64 t246] 26 (0, 0)) (by (with_reducible repeat (first | refine blk_drewN ?_ _ | refine blk_drew ?_ | refine blk_alloc ?_ _)); exact BK248.out) hb); have n5_ := Aside0.mk (below_step (by repeat (first | (with_reducible first | exact HB.out | apply below_alloc | apply pw_below_drewN | apply below_drew1 | refine below_set ?_ GE224.out | refine below_set ?_ GE225.out | refine below_set ?_ GE235.out | refine below_set ?_ GE240.out | refine below_set ?_ GE248.out) | exact HB.out)) hb); have n6_ := Aside0.mk (hbox); have n7_ := Aside0.mk ((by rw [hg]; exact (below_size (by repeat (first | (with_reducible first | exact HB.out | apply below_alloc | apply pw_below_drewN | apply below_drew1 | refine below_set ?_ GE224.out | refine below_set ?_ GE225.out | refine below_set ?_ GE235.out | refine below_set ?_ GE240.out | refine below_set ?_ GE248.out) | exact HB.out))) : w.heap.size ≤ gb255)); have n8_ := Aside0.mk ((by rw [hg]; exact (below_size (by repeat (first | (with_reducible first | exact HB.out | apply below_alloc | apply pw_below_drewN | apply below_drew1 | refine below_set ?_ GE224.out | refine below_set ?_ GE225.out | refine below_set ?_ GE235.out | refine below_set ?_ GE240.out | refine below_set ?_ GE248.out) | exact HB.out))) : w.heap.size ≤ gb255)); have n9_ := Aside0.mk ((by rw [hg]; exact Nat.ne_of_lt (blk_lt (g := gb224) (o := .cells #[.string x225000_1, .string x225001_1] 23 (0, 0)) (by (with_reducible repeat (first | refine blk_drewN ?_ _ | refine blk_drew ?_ | refine blk_alloc ?_ _)); exact BK224.out)) : gb224 ≠ gb255)); have n10_ := Aside0.mk ((by rw [hg]; exact Nat.ne_of_gt (blk_lt (g := gb224) (o := .cells #[.string x225000_1, .string x225001_1] 23 (0, 0)) (by (with_reducible repeat (first | refine blk_drewN ?_ _ | refine blk_drew ?_ | refine blk_alloc ?_ _)); exact BK224.out)) : gb255 ≠ gb224)); have n11_ := Aside0.mk ((by rw [hg]; exact Nat.ne_of_lt (blk_lt (g := gb225) (o := .cells #[.int .u64 x226000_41, .int .u64 x226001_41, .int .u64 x226002_41, .int .u64 x226003_41, .int .i64 x226004_41] 26 (0, 0)) (by (with_reducible repeat (first | refine blk_drewN ?_ _ | refine blk_drew ?_ | refine blk_alloc ?_ _)); exact BK225.out)) : gb225 ≠ gb255)); have n12_ := Aside0.mk ((by rw [hg]; exact Nat.ne_of_gt (blk_lt (g := gb225) (o := .cells #[.int .u64 x226000_41, .int .u64 x226001_41, .int .u64 x226002_41, .int .u64 x226003_41, .int .i64 x226004_41] 26 (0, 0)) (by (with_reducible repeat (first | refine blk_drewN ?_ _ | refine blk_drew ?_ | refine blk_alloc ?_ _)); exact BK225.out)) : gb255 ≠ gb225)); have n13_ := Aside0.mk ((by rw [hg]; exact Nat.ne_of_lt (blk_lt (g := gb235) (o := .cells #[.string t232, .string t233] 23 (0, 0)) (by (with_reducible repeat (first | refine blk_drewN ?_ _ | refine blk_drew ?_ | refine blk_alloc ?_ _)); exact BK235.out)) : gb235 ≠ gb255)); have n14_ := Aside0.mk ((by rw [hg]; exact Nat.ne_of_gt (blk_lt (g := gb235) (o := .cells #[.string t232, .string t233] 23 (0, 0)) (by (with_reducible repeat (first | refine blk_drewN ?_ _ | refine blk_drew ?_ | refine blk_alloc ?_ _)); exact BK235.out)) : gb255 ≠ gb235)); have n15_ := Aside0.mk ((by rw [hg]; exact Nat.ne_of_lt (blk_lt (g := gb240) (o := .cells #[.string t237, .string t238] 23 (0, 0)) (by (with_reducible repeat (first | refine blk_drewN ?_ _ | refine blk_drew ?_ | refine blk_alloc ?_ _)); exact BK240.out)) : gb240 ≠ gb255)); have n16_ := Aside0.mk ((by rw [hg]; exact Nat.ne_of_gt (blk_lt (g := gb240) (o := .cells #[.string t237, .string t238] 23 (0, 0)) (by (with_reducible repeat (first | refine blk_drewN ?_ _ | refine blk_drew ?_ | refine blk_alloc ?_ _)); exact BK240.out)) : gb255 ≠ gb240)); have n17_ := Aside0.mk ((by rw [hg]; exact Nat.ne_of_lt (blk_lt (g := gb248) (o := .cells #[.int .u64 t242, .int .u64 t243, .int .u64 t244, .int .u64 t245, .int .i64 t246] 26 (0, 0)) (by (with_reducible repeat (first | refine blk_drewN ?_ _ | refine blk_drew ?_ | refine blk_alloc ?_ _)); exact BK248.out)) : gb248 ≠ gb255)); have n18_ := Aside0.mk ((by rw [hg]; exact Nat.ne_of_gt (blk_lt (g := gb248) (o := .cells #[.int .u64 t242, .int .u64 t243, .int .u64 t244, .int .u64 t245, .int .i64 t246] 26 (0, 0)) (by (with_reducible repeat (first | refine blk_drewN ?_ _ | refine blk_drew ?_ | refine blk_alloc ?_ _)); exact BK248.out)) : gb255 ≠ gb248)); clear BK224; clear BK225; clear BK235; clear BK240; clear BK248; clear HB; have BK224 := n0_; have BK225 := n1_; have BK235 := n2_; have BK240 := n3_; have BK248 := n4_; have HB := n5_; have BK255 := n6_; have GW255 := n7_; have GE255 := n8_; have NB224_255 := n9_; have NB255_224 := n10_; have NB225_255 := n11_; have NB255_225 := n12_; have NB235_255 := n13_; have NB255_235 := n14_; have NB240_255 := n15_; have NB255_240 := n16_; have NB248_255 := n17_; have NB255_248 := n18_; clear n0_ n1_ n2_ n3_ n4_ n5_ n6_ n7_ n8_ n9_ n10_ n11_ n12_ n13_ n14_ n15_ n16_ n17_ n18_; clear hb hbox hg; have hnb109 := NB255_224.out; have hnc109 := NB224_255.out; have hnb110 := NB255_225.out; have hnc110 := NB225_255.out; have hnb111 := NB255_235.out; have hnc111 := NB235_255.out; have hnb112 := NB255_240.out; have hnc112 := NB240_255.out; have hnb113 := NB255_248.out; have hnc113 := NB248_255.out; have hcz114_0 : w108.cell? ⟨gb255, 0, none⟩ = some (.int .u64 0) := (blk_cell BK255.out 0).trans rfl; have hcz114_1 : w108.cell? ⟨gb255, 1, none⟩ = some (.int .u64 0) := (blk_cell BK255.out 1).trans rfl; have hcz114_2 : w108.cell? ⟨gb255, 2, none⟩ = some (.int .u64 0) := (blk_cell BK255.out 2).trans rfl; have hcz114_3 : w108.cell? ⟨gb255, 3, none⟩ = some (.int .u64 0) := (blk_cell BK255.out 3).trans rfl; have hcz114_4 : w108.cell? ⟨gb255, 4, none⟩ = some (.int .i64 0) := (blk_cell BK255.out 4).trans rfl; have hfz114_0 := blk_frozen BK255.out 0; have hfz114_1 := blk_frozen BK255.out 1; have hfz114_2 := blk_frozen BK255.out 2; have hfz114_3 := blk_frozen BK255.out 3; have hfz114_4 := blk_frozen BK255.out 4; have hcz115_0 : w108.cell? ⟨gb248, 0, none⟩ = some (.int .u64 t242) := (blk_cell BK248.out 0).trans rfl; have hcz115_1 : w108.cell? ⟨gb248, 1, none⟩ = some (.int .u64 t243) := (blk_cell BK248.out 1).trans rfl; have hcz115_2 : w108.cell? ⟨gb248, 2, none⟩ = some (.int .u64 t244) := (blk_cell BK248.out 2).trans rfl; have hcz115_3 : w108.cell? ⟨gb248, 3, none⟩ = some (.int .u64 t245) := (blk_cell BK248.out 3).trans rfl; have hcz115_4 : w108.cell? ⟨gb248, 4, none⟩ = some (.int .i64 t246) := (blk_cell BK248.out 4).trans rfl; have hfz115_0 := blk_frozen BK248.out 0; have hfz115_1 := blk_frozen BK248.out 1; have hfz115_2 := blk_frozen BK248.out 2; have hfz115_3 := blk_frozen BK248.out 3; have hfz115_4 := blk_frozen BK248.out 4; have hcz116_0 : w108.cell? ⟨gb235, 0, none⟩ = some (.string t232) := (blk_cell BK235.out 0).trans rfl; have hcz116_1 : w108.cell? ⟨gb235, 1, none⟩ = some (.string t233) := (blk_cell BK235.out 1).trans rfl; have hfz116_0 := blk_frozen BK235.out 0; have hfz116_1 := blk_frozen BK235.out 1; have hcz117_0 : w108.cell? ⟨gb224, 0, none⟩ = some (.string x225000_1) := (blk_cell BK224.out 0).trans rfl; have hcz117_1 : w108.cell? ⟨gb224, 1, none⟩ = some (.string x225001_1) := (blk_cell BK224.out 1).trans rfl; have hfz117_0 := blk_frozen BK224.out 0; have hfz117_1 := blk_frozen BK224.out 1))
                                              go_roundg kj41
                                              case measure => have := HK1.out; have := HJ7.out; have := HJ14.out; have := HJ17.out; have := HJ25.out; have := HJ41.out; omega
                                              case rel => exact ⟨(false), (wrap64 (x8_1 + 1)), (t232), (t233), (x226000_41), (x226001_41), (x226002_41), (x226003_41), (x226004_41), (by first | rfl | (simp; done) | (simp [*]; done)), (by first | rfl | (simp; done) | (simp [*]; done)), H', ⟨by have := HK1.out; have := HJ7.out; have := HJ14.out; have := HJ17.out; have := HJ25.out; have := HJ41.out; omega⟩, ⟨by (with_reducible repeat (first | refine blk_drewN ?_ _ | refine blk_drew ?_ | refine blk_alloc ?_ _)); refine blk_put (cs := #[.string t232, .string x225001_1]) ?_ 1 _ rfl; (with_reducible repeat (first | refine blk_drewN ?_ _ | refine blk_drew ?_ | refine blk_alloc ?_ _)); refine blk_put (cs := #[.string x225000_1, .string x225001_1]) ?_ 0 _ rfl; (with_reducible repeat (first | refine blk_drewN ?_ _ | refine blk_drew ?_ | refine blk_alloc ?_ _)); refine blk_far ?_ NB224_255.out _; (with_reducible repeat (first | refine blk_drewN ?_ _ | refine blk_drew ?_ | refine blk_alloc ?_ _)); refine blk_far ?_ NB224_255.out _; (with_reducible repeat (first | refine blk_drewN ?_ _ | refine blk_drew ?_ | refine blk_alloc ?_ _)); refine blk_far ?_ NB224_255.out _; (with_reducible repeat (first | refine blk_drewN ?_ _ | refine blk_drew ?_ | refine blk_alloc ?_ _)); refine blk_far ?_ NB224_255.out _; (with_reducible repeat (first | refine blk_drewN ?_ _ | refine blk_drew ?_ | refine blk_alloc ?_ _)); refine blk_far ?_ NB224_255.out _; (with_reducible repeat (first | refine blk_drewN ?_ _ | refine blk_drew ?_ | refine blk_alloc ?_ _)); exact BK224.out⟩, ⟨by (with_reducible repeat (first | refine blk_drewN ?_ _ | refine blk_drew ?_ | refine blk_alloc ?_ _)); refine blk_far ?_ NB225_224.out _; (with_reducible repeat (first | refine blk_drewN ?_ _ | refine blk_drew ?_ | refine blk_alloc ?_ _)); refine blk_far ?_ NB225_224.out _; (with_reducible repeat (first | refine blk_drewN ?_ _ | refine blk_drew ?_ | refine blk_alloc ?_ _)); refine blk_far ?_ NB225_255.out _; (with_reducible repeat (first | refine blk_drewN ?_ _ | refine blk_drew ?_ | refine blk_alloc ?_ _)); refine blk_far ?_ NB225_255.out _; (with_reducible repeat (first | refine blk_drewN ?_ _ | refine blk_drew ?_ | refine blk_alloc ?_ _)); refine blk_far ?_ NB225_255.out _; (with_reducible repeat (first | refine blk_drewN ?_ _ | refine blk_drew ?_ | refine blk_alloc ?_ _)); refine blk_far ?_ NB225_255.out _; (with_reducible repeat (first | refine blk_drewN ?_ _ | refine blk_drew ?_ | refine blk_alloc ?_ _)); refine blk_far ?_ NB225_255.out _; (with_reducible repeat (first | refine blk_drewN ?_ _ | refine blk_drew ?_ | refine blk_alloc ?_ _)); exact BK225.out⟩, ⟨by repeat (first | (with_reducible first | exact HB.out | apply below_alloc | apply pw_below_drewN | apply below_drew1 | refine below_set ?_ GE224.out | refine below_set ?_ GE225.out | refine below_set ?_ GE235.out | refine below_set ?_ GE240.out | refine below_set ?_ GE248.out | refine below_set ?_ GE255.out) | exact HB.out)⟩⟩
                            · rw [if_neg c23] at H
                              exact absurd H (by simp)
                          · rw [if_neg c22] at H
                            exact absurd H (by simp)
                · replace c14 := Bool.eq_false_iff.mpr c14
                  subst c14
                  have H1 : (tattlelaw16_DiskSteps.l0 kj7 l0 l1 x7_1 (wrap64 (x8_1 + 1)) x225000_1 x225001_1 x226000_1 x226001_1 x226002_1 x226003_1 x226004_1) = some r := by rw [if_neg (show ¬ (false = true) by decide)] at H; exact H
                  clear H
                  have H := H1
                  clear H1
                  have H' := Aside0.mk H
                  clear H
                  have p227 : 0 ≤ (x8_1 : Int) := of_decide_eq_true (by first | (with_reducible assumption) | assumption)
                  have q227 : x8_1 < (l0.length : Int) := of_decide_eq_true (by first | (with_reducible assumption) | assumption)
                  obtain ⟨ad227, e227, hx227_0, hx227_1, hx227_2, hx227_3, hx227_4⟩ := at_T26 HR0.out x8_1 p227 q227
                  cases e227
                  replace hx227_0 := (HB.out.cell (World.block_lt_of_cell? w _ hx227_0)).trans hx227_0
                  replace hx227_1 := (HB.out.cell (World.block_lt_of_cell? w _ hx227_1)).trans hx227_1
                  replace hx227_2 := (HB.out.cell (World.block_lt_of_cell? w _ hx227_2)).trans hx227_2
                  replace hx227_3 := (HB.out.cell (World.block_lt_of_cell? w _ hx227_3)).trans hx227_3
                  replace hx227_4 := (HB.out.cell (World.block_lt_of_cell? w _ hx227_4)).trans hx227_4
                  replace p227 := eq_true p227
                  replace q227 := eq_true q227
                  go_wp2_with (first | ((with_reducible refine gate_callee (f := 15) rfl ?_); refine goesL_ (some 34) rfl rfl Try.func15 (by kernel_rfl) rfl #[.agg #[.int .u64 ((rd_T26 l0 x8_1).f0), .int .u64 ((rd_T26 l0 x8_1).f1), .int .u64 ((rd_T26 l0 x8_1).f2), .int .u64 ((rd_T26 l0 x8_1).f3), .int .i64 ((rd_T26 l0 x8_1).f4)]] rfl (by (try simp only [List.map_toArray, List.map_cons, List.map_nil]); first | done | rfl | (simp only [List.length_drop, List.length_take]; rfl)) ?_; (with_reducible refine (tattleref16_May.calls ((rd_T26 l0 x8_1).f0) ((rd_T26 l0 x8_1).f1) ((rd_T26 l0 x8_1).f2) ((rd_T26 l0 x8_1).f3) ((rd_T26 l0 x8_1).f4) false _ A13.out).mono ?_); rintro e w118 ⟨rfl, hb⟩; refine ⟨_, rfl, ?_⟩; have n0_ := Aside0.mk (blk_below (g := gb224) (o := .cells #[.string x225000_1, .string x225001_1] 23 (0, 0)) (by (with_reducible repeat (first | refine blk_drewN ?_ _ | refine blk_drew ?_ | refine blk_alloc ?_ _)); exact BK224.out) hb); have n1_ := Aside0.mk (blk_below (g := gb225) (o := .cells #[.int .u64 x226000_1, .int .u64 x226001_1, .int .u64 x226002_1, .int .u64 x226003_1, .int .i64 x226004_1] 26 (0, 0)) (by (with_reducible repeat (first | refine blk_drewN ?_ _ | refine blk_drew ?_ | refine blk_alloc ?_ _)); exact BK225.out) hb); have n2_ := Aside0.mk (below_step (by repeat (first | (with_reducible first | exact HB.out | apply below_alloc | apply pw_below_drewN | apply below_drew1 | refine below_set ?_ GE224.out | refine below_set ?_ GE225.out) | exact HB.out)) hb); clear BK224; clear BK225; clear HB; have BK224 := n0_; have BK225 := n1_; have HB := n2_; clear n0_ n1_ n2_; (try clear hb); (try clear hb2); (try clear hk); (try clear hi)))
                  go_roundg kj7
                  case measure => have := HK1.out; have := HJ7.out; omega
                  case rel => exact ⟨(x7_1), (wrap64 (x8_1 + 1)), (x225000_1), (x225001_1), (x226000_1), (x226001_1), (x226002_1), (x226003_1), (x226004_1), (by first | rfl | (simp; done) | (simp [*]; done)), (by first | rfl | (simp; done) | (simp [*]; done)), H', ⟨by have := HK1.out; have := HJ7.out; omega⟩, ⟨by (with_reducible repeat (first | refine blk_drewN ?_ _ | refine blk_drew ?_ | refine blk_alloc ?_ _)); exact BK224.out⟩, ⟨by (with_reducible repeat (first | refine blk_drewN ?_ _ | refine blk_drew ?_ | refine blk_alloc ?_ _)); exact BK225.out⟩, ⟨by repeat (first | (with_reducible first | exact HB.out | apply below_alloc | apply pw_below_drewN | apply below_drew1 | refine below_set ?_ GE224.out | refine below_set ?_ GE225.out) | exact HB.out)⟩⟩
              · rw [if_neg c12] at H
                exact absurd H (by simp)
            · rw [if_neg c11] at H
              exact absurd H (by simp)
          · replace c10 := Bool.eq_false_iff.mpr c10
            subst c10
            have H1 : ((tattlelaw16_awake.f kj7).bind fun t226 => (some t226)) = some r := by rw [if_neg (show ¬ (false = true) by decide)] at H; exact H
            clear H
            have H := H1
            clear H1
            replace H := Option.bind_eq_some_iff.mp H
            obtain ⟨t226, A1190, H⟩ := H
            replace H : (some t226) = some r := H
            have A119 := Aside0.mk A1190
            clear A1190
            obtain rfl := Option.some.inj H
            go_wp2_with (first | ((with_reducible refine gate_callee (f := 16) rfl ?_); refine goesL_ (some 138) rfl rfl Try.func16 (by kernel_rfl) rfl #[] rfl (by (try simp only [List.map_toArray, List.map_cons, List.map_nil]); first | done | rfl | (simp only [List.length_drop, List.length_take]; rfl)) ?_; (with_reducible refine (tattlelaw16_awake.calls kj7  t226 _ A119.out).mono ?_); rintro e w120 ⟨rfl, hb⟩; refine ⟨_, rfl, ?_⟩; have n0_ := Aside0.mk (blk_below (g := gb224) (o := .cells #[.string x225000_1, .string x225001_1] 23 (0, 0)) (by (with_reducible repeat (first | refine blk_drewN ?_ _ | refine blk_drew ?_ | refine blk_alloc ?_ _)); exact BK224.out) hb); have n1_ := Aside0.mk (blk_below (g := gb225) (o := .cells #[.int .u64 x226000_1, .int .u64 x226001_1, .int .u64 x226002_1, .int .u64 x226003_1, .int .i64 x226004_1] 26 (0, 0)) (by (with_reducible repeat (first | refine blk_drewN ?_ _ | refine blk_drew ?_ | refine blk_alloc ?_ _)); exact BK225.out) hb); have n2_ := Aside0.mk (below_step (by repeat (first | (with_reducible first | exact HB.out | apply below_alloc | apply pw_below_drewN | apply below_drew1 | refine below_set ?_ GE224.out | refine below_set ?_ GE225.out) | exact HB.out)) hb); clear BK224; clear BK225; clear HB; have BK224 := n0_; have BK225 := n1_; have HB := n2_; clear n0_ n1_ n2_; (try clear hb); (try clear hb2); (try clear hk); (try clear hi)))
            go_ret
            exact ⟨by first | rfl | (simp [errW_none, errW_some] <;> rfl) | (simp [*, errW_none, errW_some] <;> rfl), by repeat (first | (with_reducible first | exact HB.out | apply below_alloc | apply pw_below_drewN | apply below_drew1 | refine below_set ?_ GE224.out | refine below_set ?_ GE225.out) | exact HB.out)⟩

end Go.Proofs.Ytldeanlnfhgjfaa.PDiskSteps
