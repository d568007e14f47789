/- For any three lists of what is put: what differs between one and a second, and between that and a third, applied one behind the other, makes the third, and no task is moved by the one from one to three that is moved by neither. No condition beyond the row's own. -/
import Derived.Test.YthbebfjoennmfaaFnsPlanThrough
namespace Go.Proofs.Ythbebfjoennmfaa.Pure
open Go.RowKit Go.Proofs.Ythbebfjoennmfaa.PPlanThrough Go.Proofs.YthbebfjoennmfaaW.PrintWords Go.Proofs.YthbebfjoennmfaaW.PrintLast Go.Proofs.YthbebfjoennmfaaW.PrintMore
set_option linter.unusedVariables false
def hit (t : ByteArray) (m : S36) : Bool := m.f0.toList == t.toList
theorem through_l2 (d x y : List S36) (hx : x.length ≤ 1000) (hy : y.length ≤ 1000) (n : Nat) (hn : n < y.length) (r : Bool) (hr : E (fun k => tattlelaw15_PlanThrough.l0 k d x y ((n : Int) + 1)) r) : ∀ (e j : Nat) (moved : Bool), j + e = x.length → (moved || (x.drop j).any (hit y[n].f0)) = true → E (fun k => tattlelaw15_PlanThrough.l2 k d x y (n : Int) moved (j : Int)) r
  | 0, j, moved, h, hm => by
    rw [List.drop_of_length_le (by omega)] at hm
    have hm' : moved = true := by simpa using hm
    refine E.succ ?_
    simp only [tattlelaw15_PlanThrough.l2, wrap_n (i := (n : Int)) (by omega) (by omega)]
    exact E.neg (by omega) (E.pos hm' hr)
  | e + 1, j, moved, h, hm => by
    have hj : j < x.length := by omega
    rw [drop_at hj, List.any_cons] at hm
    refine E.succ ?_
    simp only [tattlelaw15_PlanThrough.l2, rd36 x j hj, rd36 y n hn, wrap_n (i := (j : Int)) (by omega) (by omega)]
    refine E.pos (by omega) ?_
    by_cases c : moved = true
    · refine E.pos c ?_
      exact through_l2 d x y hx hy n hn r hr e (j + 1) true (by omega) (by simp)
    · refine E.neg c (E.pos (by omega) (E.pos (by omega) (E.pos (by omega) ?_)))
      have c' : moved = false := by simpa using c
      rw [c', Bool.false_or] at hm
      exact through_l2 d x y hx hy n hn r hr e (j + 1) _ (by omega) hm
theorem through_l1 (d x y : List S36) (hd : d.length ≤ 1000) (hy : y.length ≤ 1000) (n : Nat) (hn : n < y.length) (r : Bool) : ∀ (e j : Nat) (moved : Bool), j + e = d.length → E (fun k => tattlelaw15_PlanThrough.l2 k d x y (n : Int) (moved || (d.drop j).any (hit y[n].f0)) 0) r → E (fun k => tattlelaw15_PlanThrough.l1 k d x y (n : Int) moved (j : Int)) r
  | 0, j, moved, h, hm => by
    rw [List.drop_of_length_le (by omega)] at hm
    refine E.succ ?_
    simp only [tattlelaw15_PlanThrough.l1]
    refine E.neg (by omega) ?_
    simpa using hm
  | e + 1, j, moved, h, hm => by
    have hj : j < d.length := by omega
    rw [drop_at hj, List.any_cons] at hm
    refine E.succ ?_
    simp only [tattlelaw15_PlanThrough.l1, rd36 d j hj, rd36 y n hn, wrap_n (i := (j : Int)) (by omega) (by omega)]
    refine E.pos (by omega) ?_
    by_cases c : moved = true
    · refine E.pos c ?_
      subst c
      exact through_l1 d x y hd hy n hn r e (j + 1) true (by omega) (by simpa using hm)
    · refine E.neg c (E.pos (by omega) (E.pos (by omega) (E.pos (by omega) ?_)))
      have c' : moved = false := by simpa using c
      subst c'
      rw [Bool.false_or] at hm
      exact through_l1 d x y hd hy n hn r e (j + 1) _ (by omega) hm
theorem through_l0 (d x y : List S36) (hd : d.length ≤ 1000) (hx : x.length ≤ 1000) (hy : y.length ≤ 1000) (hall : ∀ m ∈ y, (∃ z ∈ d, z.f0 = m.f0) ∨ (∃ z ∈ x, z.f0 = m.f0)) : ∀ (e n : Nat), n + e = y.length → E (fun k => tattlelaw15_PlanThrough.l0 k d x y (n : Int)) true
  | 0, n, h => by
    refine E.succ ?_
    simp only [tattlelaw15_PlanThrough.l0]
    exact E.neg (by omega) awake_b
  | e + 1, n, h => by
    have hn : n < y.length := by omega
    have ih := through_l0 d x y hd hx hy hall e (n + 1) (by omega)
    refine E.succ ?_
    simp only [tattlelaw15_PlanThrough.l0]
    refine E.pos (by omega) ?_
    refine through_l1 d x y hd hy n hn true d.length 0 false (by omega) ?_
    refine through_l2 d x y hx hy n hn true (by simpa using ih) x.length 0 _ (by omega) ?_
    simp only [List.drop_zero, Bool.false_or, Bool.or_eq_true, List.any_eq_true, hit, beq_iff_eq, ba_iff]
    exact hall y[n] (List.getElem_mem hn)
theorem PlanThrough_all (a b c : List S52) (ha : a.length ≤ 101) (hb : b.length ≤ 101) (hc : c.length ≤ 101) : E (fun k => ((plan_Diff.f k a b).bind fun bt161 => ((plan_Diff.f k b c).bind fun bt165 => ((plan_Diff.f k a c).bind fun bt169 => (if bt161.2 = 0 then (if bt165.2 = 0 then (tattlelaw15_PlanThrough.j0 k a c bt161.1 bt165.1 bt169.1 (bt169.2 != 0)) else (tattlelaw15_PlanThrough.j0 k a c bt161.1 bt165.1 bt169.1 true)) else (tattlelaw15_PlanThrough.j0 k a c bt161.1 bt165.1 bt169.1 true)))))) true := by
  have stop : ∀ d x y : List S36, E (fun k => tattlelaw15_PlanThrough.j0 k a c d x y true) true := fun d x y => by
    refine E.succ ?_
    simp only [tattlelaw15_PlanThrough.j0]
    exact E.pos (by simp) awake_b
  refine E.bind (diff_f a b (by omega)) (E.bind (diff_f b c (by omega)) (E.bind (diff_f a c (by omega)) ?_))
  obtain ⟨u, e1⟩ : ∃ x, diffV a b = x := ⟨_, rfl⟩
  obtain ⟨d, e⟩ := u
  obtain ⟨u, e2⟩ : ∃ x, diffV b c = x := ⟨_, rfl⟩
  obtain ⟨x, f⟩ := u
  obtain ⟨u, e3⟩ : ∃ x, diffV a c = x := ⟨_, rfl⟩
  obtain ⟨y, g⟩ := u
  rw [e1, e2, e3]
  rcases diffV_ok e1 with ⟨rfl, ga, gb, _, gd, hm⟩ | ⟨hne, rfl⟩
  · refine E.pos rfl ?_
    rcases diffV_ok e2 with ⟨rfl, _, gc, _, gx, hx⟩ | ⟨hne, rfl⟩
    · refine E.pos rfl ?_
      rcases diffV_ok e3 with ⟨rfl, _, _, _, gy, hy⟩ | ⟨hne, rfl⟩
      · refine E.succ ?_
        simp only [tattlelaw15_PlanThrough.j0]
        refine E.neg (by simp) ?_
        have l1 := gd.len
        have l2 := gx.len
        have l3 := gy.len
        have h1 := apply_f a d (by omega)
        rw [applyV_to ga gd gb (fun m h => ((hm m).1 h).1) (diff_to gd hm)] at h1
        have h2 := apply_f b x (by omega)
        rw [applyV_to gb gx gc (fun m h => ((hx m).1 h).1) (diff_to gx hx)] at h2
        refine E.bind h1 (E.bind h2 (E.pos rfl (E.pos rfl (E.bind (same14_eq rfl (by show c.length < 1000000; omega)) (E.pos rfl ?_)))))
        have hall : ∀ m ∈ y, (∃ z ∈ d, z.f0 = m.f0) ∨ (∃ z ∈ x, z.f0 = m.f0) := fun m h => by
          obtain ⟨q1, q2, q3⟩ := (hy m).1 h
          by_cases c1 : atP a m.f0 = atP b m.f0
          · exact .inr ⟨⟨m.f0, atP b m.f0, atP c m.f0⟩, (hx _).2 ⟨rfl, rfl, by rw [← c1, ← q1, ← q2]; exact q3⟩, rfl⟩
          · exact .inl ⟨⟨m.f0, atP a m.f0, atP b m.f0⟩, (hm _).2 ⟨rfl, rfl, c1⟩, rfl⟩
        have hlen : y.length ≤ d.length + x.length := by
          have hnd : (y.map (·.f0)).Nodup := by
            unfold List.Nodup
            rw [List.pairwise_map]
            exact List.Pairwise.imp (fun h => lt_ne h) gy.sort
          have := nodup_len (m := d.map (·.f0) ++ x.map (·.f0)) hnd (fun t ht => by
            obtain ⟨m, hm1, rfl⟩ := List.mem_map.1 ht
            rw [List.mem_append, List.mem_map, List.mem_map]
            exact hall m hm1)
          simpa using this
        refine E.succ ?_
        simp only [tattlelaw15_PlanThrough.j1]
        have hw : wrap64 ((d.length : Int) + (x.length : Int)) = (d.length : Int) + (x.length : Int) := by unfold wrap64; omega
        refine E.neg (by rw [hw, decide_eq_true_eq]; omega) ?_
        exact through_l0 d x y (by omega) (by omega) (by omega) hall y.length 0 (by omega)
      · have hb : (g != 0) = true := bne_iff_ne.mpr hne
        simp only [hb]
        exact stop _ _ _
    · exact E.neg hne (stop _ _ _)
  · exact E.neg hne (stop _ _ _)
theorem PlanThrough (l0 l1 l2 : List S52) (w0 : l0.length ≤ maxLen) (w1 : ∀ x ∈ l0, x.f0.size ≤ maxLen ∧ (Lit.int .i64 x.f1).wf = true) (w2 : l1.length ≤ maxLen) (w3 : ∀ x ∈ l1, x.f0.size ≤ maxLen ∧ (Lit.int .i64 x.f1).wf = true) (w4 : l2.length ≤ maxLen) (w5 : ∀ x ∈ l2, x.f0.size ≤ maxLen ∧ (Lit.int .i64 x.f1).wf = true) : ∃ k, tattlelaw15_PlanThrough.f k l0 l1 l2 = some true := by
  refine E.ex ?_
  unfold tattlelaw15_PlanThrough.f
  simp only [puts_f, Option.bind_some]
  exact PlanThrough_all _ _ _ (small52 _) (small52 _) (small52 _)
end Go.Proofs.Ythbebfjoennmfaa.Pure
