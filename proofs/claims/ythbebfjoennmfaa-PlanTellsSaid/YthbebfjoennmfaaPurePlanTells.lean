/- For any two lists of what is put, and any moves: which moves may be, what differs, what is moved, and back, or why not, are as the document says. No condition beyond the row's own. -/
import Derived.Test.YthbebfjoennmfaaFnsPlanTells
namespace Go.Proofs.Ythbebfjoennmfaa.Pure
open Go.RowKit Go.Proofs.Ythbebfjoennmfaa.PPlanTells Go.Proofs.YthbebfjoennmfaaW.PrintWords Go.Proofs.YthbebfjoennmfaaW.PrintLast Go.Proofs.YthbebfjoennmfaaW.PrintMore
set_option linter.unusedVariables false
theorem tells_j3 (a : List S52) (l : List S36) (ha : a.length ≤ 101) (hl : l.length ≤ 101) (hsa : ∀ x ∈ a, x.f0.size ≤ 9223372036854775807) (hm : mayM l = true) (x : List S52) (f : Int) (hv : applyV a l = (x, f)) : E (fun k => tattlelaw15_PlanTells.j3 k a l x f false) true := by
  refine E.succ ?_
  simp only [tattlelaw15_PlanTells.j3]
  refine E.neg (by decide) (E.bind (rmay14_f a (by omega) hsa) ?_)
  by_cases c : mayP a = true
  · refine E.pos c ?_
    have h := rapply_f (goodP c) (goodM hm)
    rw [hv] at h
    refine E.bind h ?_
    have hx : x.length < 1000000 := by
      rcases applyV_ok hv with ⟨_, _, _, gx, _⟩ | ⟨_, e⟩
      · have := gx.len; omega
      · rw [e]; simp
    exact E.bind (same14_eq rfl hx) (E.pos rfl (E.pos rfl awake_b))
  · refine E.neg c ?_
    have : applyV a l = ([], 1) := by unfold applyV; rw [if_neg c]
    rw [hv] at this
    cases this
    exact E.pos rfl (E.pos rfl awake_b)
theorem tells_l0 (a : List S52) (l : List S36) (hl : l.length ≤ 101) (x : List S52) (f : Int) (y : List S36) (g : Int) (r : Bool) : ∀ (d i : Nat) (acc : List S36), i + d = l.length → acc.length = i →
    E (fun k => (tattleref15_Same.f k y (acc ++ (l.drop i).map swapM)).bind fun t273 => (if t273 = true then (tattlelaw15_PlanTells.j3 k a l x f (g != 0)) else (tattlelaw15_PlanTells.j3 k a l x f true))) r → E (fun k => tattlelaw15_PlanTells.l0 k a l x f y g acc (i : Int)) r
  | 0, i, acc, h, hq, hr => by
    refine E.succ ?_
    simp only [tattlelaw15_PlanTells.l0]
    refine E.neg (by omega) ?_
    rw [List.drop_of_length_le (by omega), List.map_nil, List.append_nil] at hr
    exact hr
  | d + 1, i, acc, h, hq, hr => by
    have hi : i < l.length := by omega
    rw [drop_at hi, List.map_cons] at hr
    refine E.succ ?_
    simp only [tattlelaw15_PlanTells.l0, rd36 l i hi, wrap_n (i := (i : Int)) (by omega) (by omega)]
    refine E.pos (by omega) (E.pos (by omega) (E.pos (by omega) ?_))
    exact tells_l0 a l hl x f y g r d (i + 1) (acc ++ [swapM l[i]]) (by omega) (by simp [hq]) (by rw [List.append_assoc, List.singleton_append]; exact hr)
theorem tells_j1 (a : List S52) (l : List S36) (ha : a.length ≤ 101) (hl : l.length ≤ 101) (hsa : ∀ x ∈ a, x.f0.size ≤ 9223372036854775807) (hsl : ∀ x ∈ l, x.f0.size ≤ 9223372036854775807) (x : List S52) (f : Int) (hv : applyV a l = (x, f)) (y : List S36) (g : Int) (hb : backV l = (y, g)) :
    E (fun k => tattlelaw15_PlanTells.j1 k a l x f y g) true := by
  refine E.succ ?_
  simp only [tattlelaw15_PlanTells.j1]
  refine E.bind (rmay15_f l (by omega) hsl) ?_
  by_cases c : mayM l = true
  · refine E.pos c ?_
    rw [backV_good (goodM c)] at hb
    cases hb
    refine tells_l0 a l hl x f _ 0 true l.length 0 [] (by omega) rfl ?_
    rw [List.drop_zero, List.nil_append]
    refine E.bind (same15_eq rfl (by rw [List.length_map]; omega)) (E.pos rfl ?_)
    exact tells_j3 a l ha hl hsa c x f hv
  · refine E.neg c ?_
    have e1 : backV l = ([], 1) := by unfold backV; rw [if_neg c]
    have e2 : applyV a l = ([], 1) := by unfold applyV; split <;> simp
    rw [hb] at e1
    rw [hv] at e2
    cases e1
    cases e2
    exact E.pos rfl (E.pos rfl (E.pos rfl (E.pos rfl awake_b)))
theorem tells_j0 (a b : List S52) (l : List S36) (ha : a.length ≤ 101) (hb : b.length ≤ 101) (hl : l.length ≤ 101) (hsa : ∀ x ∈ a, x.f0.size ≤ 9223372036854775807) (hsl : ∀ x ∈ l, x.f0.size ≤ 9223372036854775807) (x : List S52) (f : Int) (hv : applyV a l = (x, f)) (y : List S36) (g : Int) (hbk : backV l = (y, g)) (d : List S36) (e : Int) (hd : diffV a b = (d, e)) (flag : Bool) (hf : flag = !(mayP a && mayP b)) :
    E (fun k => tattlelaw15_PlanTells.j0 k a b l d e x f y g flag) true := by
  have h1 := tells_j1 a l ha hl hsa hsl x f hv y g hbk
  refine E.succ ?_
  simp only [tattlelaw15_PlanTells.j0]
  by_cases c : mayP a = true
  · by_cases c2 : mayP b = true
    · rw [c, c2] at hf
      subst hf
      refine E.neg (by decide) (E.bind (rdiff_f (goodP c) (goodP c2)) ?_)
      unfold diffV at hd
      rw [if_pos c, if_pos c2] at hd
      by_cases hc : (diffL a b).length > 100
      · rw [if_pos hc] at hd
        cases hd
        exact E.pos (by omega) (E.neg (by simp) (E.pos rfl (E.neg (by omega) h1)))
      · rw [if_neg hc] at hd
        cases hd
        exact E.neg (by omega) (E.pos (by omega) (E.bind (same15_eq rfl (by omega)) (E.pos rfl (E.pos rfl h1))))
    · have c3 : mayP b = false := by simpa using c2
      rw [c, c3] at hf
      subst hf
      unfold diffV at hd
      rw [if_pos c, if_neg c2] at hd
      cases hd
      exact E.pos rfl (E.neg (by simp) (E.pos rfl h1))
  · have c3 : mayP a = false := by simpa using c
    rw [c3] at hf
    subst hf
    unfold diffV at hd
    rw [if_neg c] at hd
    cases hd
    exact E.pos rfl (E.neg (by simp) (E.pos rfl h1))
theorem PlanTells_all (a b : List S52) (l : List S36) (ha : a.length ≤ 101) (hb : b.length ≤ 101) (hl : l.length ≤ 101) (hsa : ∀ x ∈ a, x.f0.size ≤ 9223372036854775807) (hsb : ∀ x ∈ b, x.f0.size ≤ 9223372036854775807) (hsl : ∀ x ∈ l, x.f0.size ≤ 9223372036854775807) :
    E (fun k => ((plan_Diff.f k a b).bind fun bt244 => ((plan_Apply.f k a l).bind fun bt248 => ((plan_Back.f k l).bind fun bt252 => ((plan_Check.f k l).bind fun t256 => ((tattleref15_May.f k l).bind fun t257 => (if ((t256 == 0) != t257) = true then (none) else ((tattleref14_May.f k a).bind fun t258 => (if t258 = true then ((tattleref14_May.f k b).bind fun t259 => (tattlelaw15_PlanTells.j0 k a b l bt244.1 bt244.2 bt248.1 bt248.2 bt252.1 bt252.2 (!t259))) else (tattlelaw15_PlanTells.j0 k a b l bt244.1 bt244.2 bt248.1 bt248.2 bt252.1 bt252.2 true)))))))))) true := by
  obtain ⟨u, e1⟩ : ∃ x, diffV a b = x := ⟨_, rfl⟩
  obtain ⟨d, e⟩ := u
  obtain ⟨u, e2⟩ : ∃ x, applyV a l = x := ⟨_, rfl⟩
  obtain ⟨x, f⟩ := u
  obtain ⟨u, e3⟩ : ∃ x, backV l = x := ⟨_, rfl⟩
  obtain ⟨y, g⟩ := u
  have h1 := diff_f a b (by omega)
  have h2 := apply_f a l (by omega)
  have h3 := back_f l (by omega)
  rw [e1] at h1
  rw [e2] at h2
  rw [e3] at h3
  refine E.bind h1 (E.bind h2 (E.bind h3 (E.bind (pcheck_f l (by omega)) (E.bind (rmay15_f l (by omega) hsl) ?_))))
  refine E.neg (by by_cases c : mayM l = true <;> simp [c]) ?_
  refine E.bind (rmay14_f a (by omega) hsa) ?_
  by_cases c : mayP a = true
  · refine E.pos c (E.bind (rmay14_f b (by omega) hsb) ?_)
    exact tells_j0 a b l ha hb hl hsa hsl x f e2 y g e3 d e e1 _ (by rw [c]; simp)
  · refine E.neg c ?_
    have c3 : mayP a = false := by simpa using c
    exact tells_j0 a b l ha hb hl hsa hsl x f e2 y g e3 d e e1 _ (by rw [c3]; simp)
theorem PlanTells (l0 l1 : List S52) (l2 : List S36) (w0 : l0.length ≤ maxLen) (w1 : ∀ x ∈ l0, x.f0.size ≤ maxLen ∧ (Lit.int .i64 x.f1).wf = true) (w2 : l1.length ≤ maxLen) (w3 : ∀ x ∈ l1, x.f0.size ≤ maxLen ∧ (Lit.int .i64 x.f1).wf = true) (w4 : l2.length ≤ maxLen) (w5 : ∀ x ∈ l2, x.f0.size ≤ maxLen ∧ (Lit.int .i64 x.f1).wf = true ∧ (Lit.int .i64 x.f2).wf = true) : ∃ k, tattlelaw15_PlanTells.f k l0 l1 l2 = some true := by
  have hmx : maxLen = 9223372036854775807 := by decide
  refine E.ex ?_
  unfold tattlelaw15_PlanTells.f
  simp only [puts_f, moves_f, Option.bind_some]
  exact PlanTells_all _ _ _ (small52 _) (small52 _) (small36 _) (fun x hx => by rw [← hmx]; exact (w1 x (List.mem_of_mem_take hx)).1) (fun x hx => by rw [← hmx]; exact (w3 x (List.mem_of_mem_take hx)).1) (fun x hx => by rw [← hmx]; exact (w5 x (List.mem_of_mem_take hx)).1)
end Go.Proofs.Ythbebfjoennmfaa.Pure
