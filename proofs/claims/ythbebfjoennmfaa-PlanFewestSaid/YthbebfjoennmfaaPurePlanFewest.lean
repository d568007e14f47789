/- For any two lists of what is put: without any one of the moves that differ the one does not come to be the other; of the same nothing differs. No condition beyond the row's own. -/
import Derived.Test.YthbebfjoennmfaaFnsPlanFewest
namespace Go.Proofs.Ythbebfjoennmfaa.Pure
open Go.RowKit Go.Proofs.Ythbebfjoennmfaa.PPlanFewest Go.Proofs.YthbebfjoennmfaaW.PrintWords Go.Proofs.YthbebfjoennmfaaW.PrintLast Go.Proofs.YthbebfjoennmfaaW.PrintMore
set_option linter.unusedVariables false
theorem fewest_less {d : List S36} {n : Nat} (hn : n < d.length) (gd : GoodM d) : GoodM (d.take n ++ d.drop (n + 1)) ∧ (∀ x ∈ d.take n ++ d.drop (n + 1), x ∈ d) ∧ fnd (d.take n ++ d.drop (n + 1)) d[n].f0 = none := by
  have hs := gd.sort
  have e : d = d.take n ++ d[n] :: d.drop (n + 1) := by rw [← List.drop_eq_getElem_cons hn, List.take_append_drop]
  have hsub : (d.take n ++ d.drop (n + 1)).Sublist d := by
    conv => rhs; rw [e]
    exact List.Sublist.append_left (List.sublist_cons_self _ _) _
  have hmem : ∀ x ∈ d.take n ++ d.drop (n + 1), x ∈ d := fun x hx => hsub.subset hx
  refine ⟨⟨fun x hx => gd.node x (hmem x hx), Nat.le_trans hsub.length_le gd.len, fun x hx => gd.name x (hmem x hx), List.Pairwise.sublist hsub hs⟩, hmem, ?_⟩
  cases h : fnd (d.take n ++ d.drop (n + 1)) d[n].f0 with
  | none => rfl
  | some x =>
    obtain ⟨hx, hx2⟩ := fnd_ex h
    unfold SortM at hs
    rw [e, List.pairwise_append, List.pairwise_cons] at hs
    obtain ⟨_, ⟨h1, _⟩, h2⟩ := hs
    rcases List.mem_append.1 hx with hx | hx
    · exact absurd hx2 (lt_ne (h2 x hx _ (List.mem_cons_self ..)))
    · exact absurd hx2.symm (lt_ne (h1 x hx))
theorem PlanFewest_all (a b : List S52) (w : Int) (ha : a.length ≤ 101) (hb : b.length ≤ 101) (hw0 : 0 ≤ w) (hw : w < 256) : E (fun k => ((plan_Diff.f k a b).bind fun bt158 => (if bt158.2 = 0 then (if (bt158.1.length : Int) = 0 then ((tattleref14_Same.f k a b).bind fun t163 => (if t163 = true then ((tattlelaw15_awake.f k).bind fun t164 => (some t164)) else (none))) else ((some (([] : List (S36)) : List (S36))).bind fun y165 => (if 0 ≤ (Int.tmod (wrap64 (w)) (bt158.1.length : Int)) then (if (Int.tmod (wrap64 (w)) (bt158.1.length : Int)) ≤ (bt158.1.length : Int) then ((some (bt158.1.take ((Int.tmod (wrap64 (w)) (bt158.1.length : Int)) : Int).toNat : List (S36))).bind fun y168 => (if y165.length + y168.length < 4398046511104 then ((some (y165 ++ y168 : List (S36))).bind fun y172 => (if 0 ≤ (wrap64 ((Int.tmod (wrap64 (w)) (bt158.1.length : Int)) + 1)) then (if (wrap64 ((Int.tmod (wrap64 (w)) (bt158.1.length : Int)) + 1)) ≤ (bt158.1.length : Int) then ((some (bt158.1.drop ((wrap64 ((Int.tmod (wrap64 (w)) (bt158.1.length : Int)) + 1)) : Int).toNat : List (S36))).bind fun y175 => (if y172.length + y175.length < 4398046511104 then ((plan_Apply.f k a (y172 ++ y175)).bind fun bt182 => (if bt182.2 = 9 then ((tattleref14_Same.f k a b).bind fun t186 => (if t186 = true then (none) else ((tattlelaw15_awake.f k).bind fun t187 => (some t187)))) else (if bt182.2 = 0 then ((tattleref14_Same.f k bt182.1 b).bind fun t188 => (if t188 = true then (none) else ((tattleref14_Same.f k a b).bind fun t189 => (if t189 = true then (none) else ((tattlelaw15_awake.f k).bind fun t190 => (some t190)))))) else (none)))) else (none))) else (none)) else (none))) else (none))) else (none)) else (none)))) else ((tattlelaw15_awake.f k).bind fun t162 => (some t162))))) true := by
  refine E.bind (diff_f a b (by omega)) ?_
  obtain ⟨x, ex⟩ : ∃ x, diffV a b = x := ⟨_, rfl⟩
  obtain ⟨d, e⟩ := x
  rw [ex]
  rcases diffV_ok ex with ⟨rfl, ga, gb, _, gd, hm⟩ | ⟨hne, rfl⟩
  · refine E.pos rfl ?_
    by_cases h0 : (d.length : Int) = 0
    · refine E.pos h0 ?_
      have hd : d = [] := List.eq_nil_of_length_eq_zero (by omega)
      have hab : a = b := ga.ext gb (fun t => by
        by_cases c : atP a t = atP b t
        · exact c
        · have := (hm ⟨t, atP a t, atP b t⟩).2 ⟨rfl, rfl, c⟩
          rw [hd] at this
          simp at this)
      exact E.bind (same14_eq hab (by omega)) (E.pos rfl awake_b)
    · refine E.neg h0 ?_
      have hlen := gd.len
      have hpos : 0 < d.length := by omega
      have hww : wrap64 w = w := by unfold wrap64; omega
      obtain ⟨n, hn⟩ : ∃ n : Nat, Int.tmod (wrap64 w) (d.length : Int) = (n : Int) := ⟨(Int.tmod (wrap64 w) (d.length : Int)).toNat, by rw [hww]; have := Int.tmod_nonneg (d.length : Int) hw0; omega⟩
      have hnl : n < d.length := by
        have := Int.tmod_lt_of_pos (wrap64 w) (b := (d.length : Int)) (by omega)
        omega
      have hwn : wrap64 ((n : Int) + 1) = ((n + 1 : Nat) : Int) := by rw [wrap_n (by omega) (by omega)]; omega
      obtain ⟨gl, hin, hf⟩ := fewest_less hnl gd
      obtain ⟨m1, m2, m3⟩ := (hm d[n]).1 (List.getElem_mem hnl)
      have hab : a ≠ b := fun h => m3 (by rw [m1, m2, h])
      simp only [hn, hwn, Option.bind_some, Int.toNat_natCast, List.nil_append]
      refine E.pos (by omega) (E.pos (by omega) (E.pos (by simp; omega) (E.pos (by omega) (E.pos (by omega) (E.pos (by simp; omega) ?_)))))
      refine E.bind (apply_f a _ (by have := gl.len; omega)) ?_
      obtain ⟨o, so, no, ht, _, _, hv⟩ := applyV_good ga gl (fun x hx => ((hm x).1 (hin x hx)).1)
      rw [hv]
      by_cases hc : o.length > 100
      · simp only [if_pos hc]
        exact E.pos (by simp) (E.bind (same14_ne hab (by omega)) (E.neg (by decide) awake_b))
      · simp only [if_neg hc]
        have hob : o ≠ b := fun h => m3 (by
          rw [m1, m2, ← h, ht, target_none hf])
        exact E.neg (by simp) (E.pos (by simp) (E.bind (same14_ne hob (by omega)) (E.neg (by decide) (E.bind (same14_ne hab (by omega)) (E.neg (by decide) awake_b)))))
  · exact E.neg hne awake_b
theorem PlanFewest (l0 l1 : List S52) (a2 : Int) (w0 : l0.length ≤ maxLen) (w1 : ∀ x ∈ l0, x.f0.size ≤ maxLen ∧ (Lit.int .i64 x.f1).wf = true) (w2 : l1.length ≤ maxLen) (w3 : ∀ x ∈ l1, x.f0.size ≤ maxLen ∧ (Lit.int .i64 x.f1).wf = true) (w4 : (Lit.int .u8 a2).wf = true) : ∃ k, tattlelaw15_PlanFewest.f k l0 l1 a2 = some true := by
  have hw' : 0 ≤ a2 ∧ a2 ≤ 255 := by simpa [Lit.wf, IntKind.min, IntKind.max, IntKind.bits, IntKind.signed] using w4
  have hw : 0 ≤ a2 ∧ a2 < 256 := by omega
  refine E.ex ?_
  unfold tattlelaw15_PlanFewest.f
  simp only [puts_f, Option.bind_some]
  exact PlanFewest_all _ _ _ (small52 _) (small52 _) hw.1 hw.2
end Go.Proofs.Ythbebfjoennmfaa.Pure
