/- For any two lists of what is put: what differs, applied, makes the one the other one; back, it makes the other one the one. No condition beyond the row's own. -/
import Derived.Test.YthbebfjoennmfaaFnsPlanMakes
namespace Go.Proofs.Ythbebfjoennmfaa.Pure
open Go.RowKit Go.Proofs.Ythbebfjoennmfaa.PPlanMakes Go.Proofs.YthbebfjoennmfaaW.PrintWords Go.Proofs.YthbebfjoennmfaaW.PrintLast Go.Proofs.YthbebfjoennmfaaW.PrintMore
set_option linter.unusedVariables false
theorem PlanMakes_all (a b : List S52) (ha : a.length ≤ 101) (hb : b.length ≤ 101) : E (fun k => (plan_Diff.f k a b).bind fun bt164 => (if bt164.2 = 0 then ((plan_Apply.f k a bt164.1).bind fun bt169 => ((plan_Back.f k bt164.1).bind fun bt173 => ((plan_Apply.f k b bt173.1).bind fun bt177 => ((plan_Diff.f k b a).bind fun bt181 => (if bt169.2 = 0 then (if bt173.2 = 0 then (if bt177.2 = 0 then (if bt181.2 = 0 then ((tattleref14_Same.f k bt169.1 b).bind fun t185 => (if t185 = true then ((tattleref14_Same.f k bt177.1 a).bind fun t186 => (if t186 = true then ((tattleref15_Same.f k bt181.1 bt173.1).bind fun t187 => (if t187 = true then ((tattlelaw15_awake.f k).bind fun t188 => (some t188)) else (none))) else (none))) else (none))) else (none)) else (none)) else (none)) else (none)))))) else (if (bt164.1.length : Int) = 0 then ((tattlelaw15_awake.f k).bind fun t168 => (some t168)) else (none)))) true := by
  refine E.bind (diff_f a b (by omega)) ?_
  obtain ⟨x, ex⟩ : ∃ x, diffV a b = x := ⟨_, rfl⟩
  obtain ⟨d, e⟩ := x
  rw [ex]
  rcases diffV_ok ex with ⟨rfl, ga, gb, _, gd, hm⟩ | ⟨hne, rfl⟩
  · refine E.pos rfl ?_
    have hlen := gd.len
    have h1 := apply_f a d (by omega)
    have h2 := back_f d (by omega)
    have h3 := apply_f b (d.map swapM) (by rw [List.length_map]; omega)
    have h4 := diff_f b a (by omega)
    have hm' : ∀ m, m ∈ d.map swapM ↔ m.f1 = atP b m.f0 ∧ m.f2 = atP a m.f0 ∧ m.f1 ≠ m.f2 := fun m => by
      rw [mem_swap, hm]
      simp only [swapM]
      constructor
      · rintro ⟨q1, q2, q3⟩; exact ⟨q2, q1, fun q => q3 q.symm⟩
      · rintro ⟨q1, q2, q3⟩; exact ⟨q2, q1, fun q => q3 q.symm⟩
    rw [applyV_to ga gd gb (fun m h => ((hm m).1 h).1) (diff_to gd hm)] at h1
    rw [backV_good gd] at h2
    rw [applyV_to gb gd.swap ga (fun m h => ((hm' m).1 h).1) (diff_to gd.swap hm')] at h3
    have e4 : diffV b a = (d.map swapM, 0) := by
      obtain ⟨s, hd⟩ := diff_spec gb.sort ga.sort gb.nn ga.nn
      have e5 : diffL b a = d.map swapM := sorted_ext (f := fun x : S36 => x.f0) s gd.swap.sort (fun m => by rw [hd, hm'])
      unfold diffV
      rw [if_pos gb.may, if_pos ga.may, e5, if_neg (by rw [List.length_map]; omega)]
    rw [e4] at h4
    refine E.bind h1 (E.bind h2 (E.bind h3 (E.bind h4 ?_)))
    refine E.pos rfl (E.pos rfl (E.pos rfl (E.pos rfl ?_)))
    exact E.bind (same14_eq rfl (by show b.length < 1000000; omega)) (E.pos rfl (E.bind (same14_eq rfl (by show a.length < 1000000; omega)) (E.pos rfl (E.bind (same15_eq rfl (by show (d.map swapM).length < 1000000; rw [List.length_map]; omega)) (E.pos rfl awake_b)))))
  · exact E.neg hne (E.pos (by simp) awake_b)
theorem PlanMakes (l0 l1 : List S52) (w0 : l0.length ≤ maxLen) (w1 : ∀ x ∈ l0, x.f0.size ≤ maxLen ∧ (Lit.int .i64 x.f1).wf = true) (w2 : l1.length ≤ maxLen) (w3 : ∀ x ∈ l1, x.f0.size ≤ maxLen ∧ (Lit.int .i64 x.f1).wf = true) : ∃ k, tattlelaw15_PlanMakes.f k l0 l1 = some true := by
  refine E.ex ?_
  unfold tattlelaw15_PlanMakes.f
  simp only [puts_f, Option.bind_some]
  exact PlanMakes_all _ _ (small52 _) (small52 _)
end Go.Proofs.Ythbebfjoennmfaa.Pure
