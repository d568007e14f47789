/- For any moves: what was moved is not where it was: applied once more moves are refused, if there are any. No condition beyond the row's own. -/
import Derived.Test.YthbebfjoennmfaaFnsPlanStale
namespace Go.Proofs.Ythbebfjoennmfaa.Pure
open Go.RowKit Go.Proofs.Ythbebfjoennmfaa.PPlanStale Go.Proofs.YthbebfjoennmfaaW.PrintWords Go.Proofs.YthbebfjoennmfaaW.PrintLast Go.Proofs.YthbebfjoennmfaaW.PrintMore
set_option linter.unusedVariables false
theorem PlanStale_all (a : List S52) (l : List S36) (ha : a.length ≤ 101) (hl : l.length ≤ 101) : E (fun k => (plan_Apply.f k a l).bind fun bt163 => (if bt163.2 = 0 then ((plan_Apply.f k bt163.1 l).bind fun bt168 => (if (l.length : Int) = 0 then ((tattleref14_Same.f k bt163.1 a).bind fun t172 => (if t172 = true then (if bt168.2 = 0 then ((tattlelaw15_awake.f k).bind fun t173 => (some t173)) else (none)) else (none))) else (if (bt168.1.length : Int) = 0 then (if bt168.2 = 8 then ((tattlelaw15_awake.f k).bind fun t174 => (some t174)) else (none)) else (none)))) else (if (bt163.1.length : Int) = 0 then ((tattlelaw15_awake.f k).bind fun t167 => (some t167)) else (none)))) true := by
  refine E.bind (apply_f a l (by omega)) ?_
  obtain ⟨x, e⟩ : ∃ x, applyV a l = x := ⟨_, rfl⟩
  obtain ⟨x, g⟩ := x
  rw [e]
  rcases applyV_ok e with ⟨rfl, ga, gl, gx, hg, ht⟩ | ⟨hne, rfl⟩
  · refine E.pos rfl (E.bind (apply_f x l (by have := gx.len; show x.length + l.length < 1000000; omega)) ?_)
    by_cases h0 : (l.length : Int) = 0
    · refine E.pos h0 ?_
      have hl0 : l = [] := List.eq_nil_of_length_eq_zero (by omega)
      have hxa : x = a := gx.ext ga (fun t => by rw [ht, hl0]; rfl)
      have h2 : applyV x l = (x, 0) := applyV_to gx gl gx (fun m hm => by rw [hl0] at hm; simp at hm) (fun t => by rw [hl0]; rfl)
      refine E.bind (same14_eq hxa (by have := gx.len; show x.length < 1000000; omega)) (E.pos rfl (E.pos ?_ awake_b))
      rw [h2]
    · refine E.neg h0 ?_
      obtain ⟨m, hm⟩ : ∃ m, m ∈ l := by
        cases l with
        | nil => exact absurd rfl h0
        | cons m l => exact ⟨m, List.mem_cons_self ..⟩
      have h2 : applyV x l = ([], 8) := applyV_bad gx gl hm (by
        rw [ht, target_some (fnd_mem gl.sort hm)]
        have := gl.node m hm
        exact this.2.2.2.2)
      rw [h2]
      exact E.pos (by simp) (E.pos rfl awake_b)
  · exact E.neg hne (E.pos (by simp) awake_b)
theorem PlanStale (l0 : List S52) (l1 : List S36) (w0 : l0.length ≤ maxLen) (w1 : ∀ x ∈ l0, x.f0.size ≤ maxLen ∧ (Lit.int .i64 x.f1).wf = true) (w2 : l1.length ≤ maxLen) (w3 : ∀ x ∈ l1, x.f0.size ≤ maxLen ∧ (Lit.int .i64 x.f1).wf = true ∧ (Lit.int .i64 x.f2).wf = true) : ∃ k, tattlelaw15_PlanStale.f k l0 l1 = some true := by
  refine E.ex ?_
  unfold tattlelaw15_PlanStale.f
  simp only [puts_f, moves_f, Option.bind_some]
  exact PlanStale_all _ _ (small52 _) (small36 _)
end Go.Proofs.Ythbebfjoennmfaa.Pure
