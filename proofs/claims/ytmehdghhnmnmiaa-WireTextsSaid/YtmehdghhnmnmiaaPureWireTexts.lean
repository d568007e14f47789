/- For any two texts and any place: a text's octets, and what is taken from octets, are the document's. No condition beyond the row's own. -/
import Derived.Test.YtmehdghhnmnmiaaFnsWireTexts
namespace Go.Proofs.Ytmehdghhnmnmiaa.Pure
open Go.RowKit Go.Proofs.Ytmehdghhnmnmiaa.PWireTexts Go.Proofs.YtmehdghhnmnmiaaW.PrintWords Go.Proofs.YtmehdghhnmnmiaaW.PrintLast Go.Proofs.YtmehdghhnmnmiaaW.PrintMore Go.Proofs.Ytmehdghhnmnmiaa.WMath Go.Proofs.Ytmehdghhnmnmiaa.FnsWireTexts
set_option linter.unusedVariables false

theorem WireTexts : tattlelaw01_WireTexts.Pure := by
  intro a0 a1 a2 w0 w1 w2
  suffices H : ∀ K, 50 ≤ K → tattlelaw01_WireTexts.f K a0 a1 a2 = some true from ⟨50, H 50 (Nat.le_refl _)⟩
  intro K hK
  obtain ⟨K, rfl⟩ : ∃ m, K = m + 1 := ⟨K - 1, by omega⟩
  unfold tattlelaw01_WireTexts.f
  have s1 := few_size a0
  have s2 := few_size a1
  rw [few_ev, Option.bind_some, few_ev, Option.bind_some]
  generalize few a0 = t at *
  generalize few a1 = s at *
  by_cases h : t.size > 200
  · rw [text_large t h, Option.bind_some, if_pos (by omega)]
    simp only []
    rw [if_pos (by rw [toList_eq]; rfl)]
    simp only [tattlelaw01_WireTexts.j0]
    rw [if_neg (by simp), taketext_ev s (by omega) a2 K (by omega), rtaketext_ev s (by omega) a2 K (by omega), Option.bind_some, Option.bind_some, if_pos rfl, if_pos rfl, if_pos rfl, awake_ev K (by omega), Option.bind_some]
  · obtain ⟨x, h1, h2⟩ := text_ev t (by omega) (K + 1) (by omega)
    obtain ⟨y, h3, h4⟩ := rtext_ev t (by omega) (K + 1) (by omega)
    obtain rfl : x = y := bl_inj (by rw [h2, h4])
    rw [h1, Option.bind_some, if_neg (by omega), h3, Option.bind_some, if_pos rfl]
    simp only [tattlelaw01_WireTexts.j1]
    rw [if_neg (by simp), taketext_ev s (by omega) a2 K (by omega), rtaketext_ev s (by omega) a2 K (by omega), Option.bind_some, Option.bind_some, if_pos rfl, if_pos rfl, if_pos rfl, awake_ev K (by omega), Option.bind_some]

end Go.Proofs.Ytmehdghhnmnmiaa.Pure
