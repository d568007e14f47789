/- For any moves, and back: moves applied, and then back, leave all as it was; moves that are back twice are as they were. No condition beyond the row's own. -/
import Derived.Test.YthbebfjoennmfaaFnsPlanBacks
namespace Go.Proofs.Ythbebfjoennmfaa.Pure
open Go.RowKit Go.Proofs.Ythbebfjoennmfaa.PPlanBacks Go.Proofs.YthbebfjoennmfaaW.PrintWords Go.Proofs.YthbebfjoennmfaaW.PrintLast Go.Proofs.YthbebfjoennmfaaW.PrintMore
set_option linter.unusedVariables false
theorem PlanBacks_all (a : List S52) (l : List S36) (ha : a.length ≤ 101) (hl : l.length ≤ 101) : E (fun k => (plan_Back.f k l).bind fun bt169 => ((plan_Back.f k bt169.1).bind fun bt173 => (if bt169.2 = 0 then (if bt173.2 = 0 then ((tattleref15_Same.f k bt173.1 l).bind fun t178 => (tattlelaw15_PlanBacks.j0 k a l bt169.1 (!t178))) else (tattlelaw15_PlanBacks.j0 k a l bt169.1 true)) else (if bt169.2 = 1 then (if (bt169.1.length : Int) = 0 then ((tattlelaw15_awake.f k).bind fun t177 => (some t177)) else (none)) else (none))))) true := by
  refine E.bind (back_f l (by omega)) (E.bind (back_f (backV l).1 (by have := backV_len l; omega)) ?_)
  by_cases hm : mayM l = true
  · have gl := goodM hm
    have e1 := backV_good gl
    have e2 := backV_good gl.swap
    rw [swap_swap] at e2
    simp only [e1, e2]
    refine E.pos (by simp) (E.pos (by simp) (E.bind (same15_eq rfl (by omega)) ?_))
    refine E.succ ?_
    simp only [tattlelaw15_PlanBacks.j0]
    refine E.neg (by decide) (E.bind (apply_f a l (by omega)) ?_)
    obtain ⟨x, e⟩ : ∃ x, applyV a l = x := ⟨_, rfl⟩
    obtain ⟨x, g⟩ := x
    rw [e]
    rcases applyV_ok e with ⟨rfl, ga, _, gx, hg, ht⟩ | ⟨hne, rfl⟩
    · refine E.pos rfl ?_
      have h2 : applyV x (l.map swapM) = (a, 0) := by
        refine applyV_to gx gl.swap ga (fun m hm => ?_) (fun t => ?_)
        · rw [mem_swap] at hm
          have := target_some (a := a) (fnd_mem gl.sort hm)
          rw [ht]
          exact this.symm
        · cases h : fnd l t with
          | some m =>
            rw [target_some (m := swapM m) (by rw [fnd_swap, h]; rfl)]
            obtain ⟨q1, q2⟩ := fnd_ex h
            show m.f1 = _
            rw [hg m q1, q2]
          | none => rw [target_none (by rw [fnd_swap, h]; rfl), ht, target_none h]
      have h3 := apply_f x (l.map swapM) (by have := gx.len; rw [List.length_map]; omega)
      rw [h2] at h3
      refine E.bind h3 (E.pos rfl (E.bind (same14_eq rfl (by show a.length < 1000000; omega)) (E.pos rfl awake_b)))
    · exact E.neg hne awake_b
  · have e1 : backV l = ([], 1) := by unfold backV; rw [if_neg hm]
    simp only [e1]
    exact E.neg (by decide) (E.pos (by simp) (E.pos (by simp) awake_b))
theorem PlanBacks (l0 : List S52) (l1 : List S36) (w0 : l0.length ≤ maxLen) (w1 : ∀ x ∈ l0, x.f0.size ≤ maxLen ∧ (Lit.int .i64 x.f1).wf = true) (w2 : l1.length ≤ maxLen) (w3 : ∀ x ∈ l1, x.f0.size ≤ maxLen ∧ (Lit.int .i64 x.f1).wf = true ∧ (Lit.int .i64 x.f2).wf = true) : ∃ k, tattlelaw15_PlanBacks.f k l0 l1 = some true := by
  refine E.ex ?_
  unfold tattlelaw15_PlanBacks.f
  simp only [puts_f, moves_f, Option.bind_some]
  exact PlanBacks_all _ _ (small52 _) (small36 _)
end Go.Proofs.Ythbebfjoennmfaa.Pure
