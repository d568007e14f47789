/- For any octets: their sum, they sealed, and opened, are the document's. No condition beyond the row's own. -/
import Derived.Test.YtmehdghhnmnmiaaFnsWireSeals
namespace Go.Proofs.Ytmehdghhnmnmiaa.Pure
open Go.RowKit Go.Proofs.Ytmehdghhnmnmiaa.PWireSeals Go.Proofs.YtmehdghhnmnmiaaW.PrintWords Go.Proofs.YtmehdghhnmnmiaaW.PrintLast Go.Proofs.YtmehdghhnmnmiaaW.PrintMore Go.Proofs.Ytmehdghhnmnmiaa.WMath Go.Proofs.Ytmehdghhnmnmiaa.FnsWireSeals
set_option linter.unusedVariables false

theorem seals_j0 (s : ByteArray) (hs : s.size ≤ 4110) (k : Nat) (hk : 60000 ≤ k) : tattlelaw01_WireSeals.j0 k s = some true := by
  obtain ⟨k, rfl⟩ : ∃ m, k = m + 2 := ⟨k - 2, by omega⟩
  simp only [tattlelaw01_WireSeals.j0]
  rw [open_ev s (by omega), ropen_ev s (by omega) (k + 1) (by omega), sum_ev s (by omega), rsum_ev s (by omega) (k + 1) (by omega)]
  by_cases h : s.size > 4096
  · rw [seal_large s h, Option.bind_some, Option.bind_some, Option.bind_some, if_pos rfl, if_pos rfl, Option.bind_some, Option.bind_some]
    simp only [tattlelaw01_WireSeals.j1]
    rw [if_neg (by simp), if_pos (by omega), if_pos (by rw [toList_eq]; rfl), if_pos trivial, awake_ev k (by omega), Option.bind_some]
  · obtain ⟨x, h1, h2⟩ := seal_ev s (by omega)
    obtain ⟨y, h3, h4⟩ := rseal_ev s (by omega) k (by omega)
    obtain rfl : x = y := bl_inj (by rw [h2, h4])
    rw [h1, Option.bind_some, Option.bind_some, Option.bind_some, if_pos rfl, if_pos rfl, Option.bind_some, Option.bind_some]
    simp only [tattlelaw01_WireSeals.j1]
    rw [if_neg (by simp), if_neg (by omega), h3, Option.bind_some, if_pos rfl, if_pos trivial, awake_ev k (by omega), Option.bind_some]

theorem WireSeals : tattlelaw01_WireSeals.Pure := by
  intro a0 w0
  suffices H : ∀ K, 60000 ≤ K → tattlelaw01_WireSeals.f K a0 = some true from ⟨60000, H 60000 (Nat.le_refl _)⟩
  intro K hK
  unfold tattlelaw01_WireSeals.f
  by_cases h : (a0.size : Int) > 4110
  · rw [if_pos h, if_pos (by omega), if_pos (by omega)]
    exact seals_j0 _ (by simp; omega) K hK
  · rw [if_neg h]
    exact seals_j0 a0 (by omega) K hK

end Go.Proofs.Ytmehdghhnmnmiaa.Pure
