/- For every number and any two texts, On and Back of package fnv undo one another and go on step by step. No condition beyond the row's own. -/
import Derived.Test.YtcdfpombcogpfaaFnsFnvBacks
namespace Go.Proofs.Ytcdfpombcogpfaa.Pure
open Go.RowKit Go.Proofs.Ytcdfpombcogpfaa.PFnvBacks Go.Proofs.YtcdfpombcogpfaaW.PrintWords Go.Proofs.YtcdfpombcogpfaaW.PrintLast Go.Proofs.Ytcdfpombcogpfaa.FnvMath Go.Proofs.Ytcdfpombcogpfaa.FnsFnvBacks
set_option linter.unusedVariables false

theorem FnvBacks : tattlelaw12_FnvBacks.Pure := by
  intro a0 a1 a2 w0 w1 w2
  obtain ⟨h, rfl⟩ := U_of a0 w0
  refine ⟨1000, ?_⟩
  have s1 := few_size a1
  have s2 := few_size a2
  unfold tattlelaw12_FnvBacks.f
  simp only [few_ev, Option.bind_some]
  generalize few a1 = a at *
  generalize few a2 = b at *
  have sab : (a ++ b).size ≤ 600 := by rw [ByteArray.size_append]; omega
  have oa : ∀ h, fnv_On.f 1000 (U h) a = some (U (on h (bl a))) := fun h => on_ev a (by omega) 1000 (by omega) h
  have ob : ∀ h, fnv_On.f 1000 (U h) b = some (U (on h (bl b))) := fun h => on_ev b (by omega) 1000 (by omega) h
  have oab : ∀ h, fnv_On.f 1000 (U h) (a ++ b) = some (U (on h (bl (a ++ b)))) := fun h => on_ev _ (by omega) 1000 (by omega) h
  have ba : ∀ h, fnv_Back.f 1000 (U h) a = some (U (back h (bl a))) := fun h => back_ev a (by omega) 1000 (by omega) (by omega) h
  have bb : ∀ h, fnv_Back.f 1000 (U h) b = some (U (back h (bl b))) := fun h => back_ev b (by omega) 1000 (by omega) (by omega) h
  have bab : ∀ h, fnv_Back.f 1000 (U h) (a ++ b) = some (U (back h (bl (a ++ b)))) := fun h => back_ev _ (by omega) 1000 (by omega) (by omega) h
  have sm1 : fnv_Sum.f 1000 [a] = some (U (on F (all [a]))) := sum_ev [a] 300 (by omega) (by simp; omega) (by simp) 1000 (by simp)
  have sm2 : fnv_Sum.f 1000 [a, b] = some (U (on F (all [a, b]))) := sum_ev [a, b] 300 (by omega) (by simp; omega) (by simp) 1000 (by simp)
  have e1 : all [a] = bl a := by simp [all]
  have e2 : all [a, b] = bl a ++ bl b := by simp [all]
  have hs : a.size + b.size ≤ 9223372036854775807 := by omega
  simp only [oa, ob, oab, ba, bb, bab, sm1, sm2, e1, e2, Option.bind_some, bl_append, back_on, on_back, on_append, back_append, if_true, hs, awake_ev 1000 (by omega)]

end Go.Proofs.Ytcdfpombcogpfaa.Pure
