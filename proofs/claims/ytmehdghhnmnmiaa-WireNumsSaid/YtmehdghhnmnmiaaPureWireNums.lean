/- For any numbers, any octets and any place: the numbers' octets, and the number taken, are the document's. No condition beyond the row's own. -/
import Derived.Test.YtmehdghhnmnmiaaFnsWireNums
namespace Go.Proofs.Ytmehdghhnmnmiaa.Pure
open Go.RowKit Go.Proofs.Ytmehdghhnmnmiaa.PWireNums Go.Proofs.YtmehdghhnmnmiaaW.PrintWords Go.Proofs.YtmehdghhnmnmiaaW.PrintLast Go.Proofs.YtmehdghhnmnmiaaW.PrintMore Go.Proofs.Ytmehdghhnmnmiaa.WMath Go.Proofs.Ytmehdghhnmnmiaa.FnsWireNums
set_option linter.unusedVariables false

theorem nums_same (l : List Int) (hl : l.length ≤ 20) (hw : ∀ x ∈ l, (Lit.int .u64 x).wf = true) (k : Nat) (hk : 300 ≤ k) : ∃ s, wire_Num.f k l = some s ∧ tattleref01_Nums.f k l = some s := by
  obtain ⟨x, h1, h2⟩ := num_ev l (by omega) hw k (by omega)
  obtain ⟨y, h3, h4⟩ := rnums_ev l (by omega) hw k (by omega)
  obtain rfl : x = y := bl_inj (by rw [h2, h4])
  exact ⟨x, h1, h3⟩

theorem WireNums : tattlelaw01_WireNums.Pure := by
  intro l0 a1 a2 w0 w1 w2 w3 w4
  suffices H : ∀ K, 300 ≤ K → tattlelaw01_WireNums.f K l0 a1 a2 = some true from ⟨300, H 300 (Nat.le_refl _)⟩
  intro K hK
  unfold tattlelaw01_WireNums.f
  have s2 := few_size a1
  rw [few_ev, Option.bind_some]
  generalize few a1 = s at *
  by_cases h : (l0.length : Int) > 20
  · obtain ⟨x, h1, h2⟩ := nums_same (l0.take 20) (by rw [List.length_take]; omega) (fun x hx => w2 x (List.mem_of_mem_take hx)) K hK
    rw [if_pos h, if_pos (by omega), take_ev s (by omega) a2 K (by omega), rtake_ev s (by omega) a2 K (by omega), h1, h2, Option.bind_some, Option.bind_some, Option.bind_some, Option.bind_some, if_pos rfl, if_pos rfl, if_pos rfl, if_pos rfl, awake_ev K (by omega), Option.bind_some]
  · obtain ⟨x, h1, h2⟩ := nums_same l0 (by omega) w2 K hK
    rw [if_neg h, take_ev s (by omega) a2 K (by omega), rtake_ev s (by omega) a2 K (by omega), h1, h2, Option.bind_some, Option.bind_some, Option.bind_some, Option.bind_some, if_pos rfl, if_pos rfl, if_pos rfl, if_pos rfl, awake_ev K (by omega), Option.bind_some]

end Go.Proofs.Ytmehdghhnmnmiaa.Pure
