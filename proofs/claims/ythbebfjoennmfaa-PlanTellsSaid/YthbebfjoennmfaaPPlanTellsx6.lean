-- Written by a program of this session (see NOTES.md) out of the print of Lean's own loaded functions; Lean checks it.
import Derived.Test.YthbebfjoennmfaaPPlanTellsx0
import Derived.Test.YthbebfjoennmfaaPPlanTellsx1
import Derived.Test.YthbebfjoennmfaaPPlanTellsx3
import Derived.Test.YthbebfjoennmfaaPPlanTellsx4
import Derived.Test.YthbebfjoennmfaaPPlanTellsx5
namespace Go.Proofs.Ythbebfjoennmfaa.PPlanTells
open Go.RowKit Go.Proofs.YthbebfjoennmfaaW.PrintWords Go.Proofs.YthbebfjoennmfaaW.PrintLast Go.Proofs.YthbebfjoennmfaaW.PrintMore
attribute [local go_sem] max2_int min2_int max_two min_two max_three min_three max_four min_four   -- for this text's walks alone
set_option linter.unusedVariables false
set_option linter.unusedSimpArgs false

attribute [local go_sem high] eqA36
/-! ### plan_Apply: function 13 -/
attribute [local go_sem] Oper.semAt_some
/-- What a move that may be comes to, of the moves l: the task and its node, or nothing; none: it was not where it was to be. -/
def stepA (l : List S36) (m : S36) : Option (List S52) :=
  if m.f2 = -1 then (if m.f1 = -1 then some [] else some [⟨m.f0, m.f1⟩])
  else if (rd_T36 l m.f2).f1 = m.f1 then (if (rd_T36 l m.f2).f2 = -1 then some [] else some [⟨m.f0, (rd_T36 l m.f2).f2⟩])
  else none
def applyTo (l : List S36) : List S36 → Option (List S52)
  | [] => some []
  | m :: ms => (stepA l m).bind fun p => (applyTo l ms).map fun o => p ++ o
theorem applyTo_snoc (l : List S36) (pre : List S36) (x : S36) : applyTo l (pre ++ [x]) = (applyTo l pre).bind fun o => (stepA l x).map fun p => o ++ p := by
  induction pre with
  | nil => cases h : stepA l x <;> simp [applyTo, h]
  | cons m ms ih =>
    simp only [List.cons_append, applyTo, ih]
    cases h : stepA l m with
    | none => simp
    | some p =>
      cases h2 : applyTo l ms with
      | none => simp
      | some o => cases h3 : stepA l x <;> simp
theorem applyTo_stop (l : List S36) (pre ms : List S36) (h : applyTo l pre = none) : applyTo l (pre ++ ms) = none := by
  induction pre with
  | nil => simp [applyTo] at h
  | cons m pre ih =>
    simp only [List.cons_append, applyTo] at h ⊢
    cases h1 : stepA l m with
    | none => simp
    | some p =>
      rw [h1] at h
      simp at h
      rw [ih h]
      simp
/-- The moves' tasks, with their places. -/
def placesUpto (l : List S36) (i : Nat) : List S52 := (List.range i).map fun (j : Nat) => ⟨(rd_T36 l (j : Int)).f0, (j : Int)⟩
def placesL (l : List S36) : List S52 := placesUpto l l.length
theorem placesUpto_succ (l : List S36) (i : Nat) : placesUpto l (i + 1) = placesUpto l i ++ [⟨(rd_T36 l (i : Int)).f0, (i : Int)⟩] := by simp [placesUpto, List.range_succ]
theorem placesUpto_length (l : List S36) (i : Nat) : (placesUpto l i).length = i := by simp [placesUpto]
theorem bothL_to : ∀ (k : Nat) (xs ys : List S52) (x : S36), x ∈ bothL k xs ys → x.f2 = -1 ∨ ∃ y ∈ ys, y.f1 = x.f2
  | 0, _, _, _ => by simp [bothL]
  | _ + 1, [], [], _ => by simp [bothL]
  | k + 1, a :: xs, [], x => by
    simp only [bothL, List.mem_cons]
    rintro (rfl | h)
    · exact .inl rfl
    · exact bothL_to k xs [] x h
  | k + 1, [], b :: ys, x => by
    simp only [bothL, List.mem_cons]
    rintro (rfl | h)
    · exact .inr ⟨b, .inl rfl, rfl⟩
    · exact (bothL_to k [] ys x h).imp id fun ⟨y, hy, e⟩ => ⟨y, .inr hy, e⟩
  | k + 1, a :: xs, b :: ys, x => by
    unfold bothL
    split
    · simp only [List.mem_cons]
      rintro (rfl | h)
      · exact .inr ⟨b, .inl rfl, rfl⟩
      · exact (bothL_to k (a :: xs) ys x h).imp id fun ⟨y, hy, e⟩ => ⟨y, .inr hy, e⟩
    · split
      · simp only [List.mem_cons]
        rintro (rfl | h)
        · exact .inr ⟨b, .inl rfl, rfl⟩
        · exact (bothL_to k xs ys x h).imp id fun ⟨y, hy, e⟩ => ⟨y, .inr hy, e⟩
      · simp only [List.mem_cons]
        rintro (rfl | h)
        · exact .inl rfl
        · exact (bothL_to k xs (b :: ys) x h).imp id fun ⟨y, hy, e⟩ => ⟨y, by simpa using hy, e⟩
theorem both_place {l : List S36} {xs : List S52} {k : Nat} {pre : List S36} {x : S36} (h : pre ++ [x] <+: bothL k xs (placesL l)) : x.f2 = -1 ∨ (0 ≤ x.f2 ∧ x.f2 < (l.length : Int)) := by
  have hm : x ∈ bothL k xs (placesL l) := h.subset (by simp)
  rcases bothL_to _ _ _ _ hm with h | ⟨y, hy, e⟩
  · exact .inl h
  · right
    simp only [placesL, placesUpto, List.mem_map, List.mem_range] at hy
    obtain ⟨j, hj, rfl⟩ := hy
    rw [← e]
    exact ⟨by simp, by simp; omega⟩
theorem stepA_le {l : List S36} {x : S36} {p : List S52} (h : stepA l x = some p) : p.length ≤ 1 := by
  unfold stepA at h
  split at h
  · split at h <;> (cases h; simp)
  · split at h
    · split at h <;> (cases h; simp)
    · cases h
theorem applyTo_le (l : List S36) : ∀ (ms : List S36) (o : List S52), applyTo l ms = some o → o.length ≤ ms.length
  | [], o, h => by cases h; simp
  | m :: ms, o, h => by
    simp only [applyTo] at h
    obtain ⟨p, hp, h⟩ := Option.bind_eq_some_iff.mp h
    obtain ⟨q, hq, rfl⟩ := Option.map_eq_some_iff.mp h
    have h1 := stepA_le hp
    have h2 := applyTo_le l ms q hq
    simp
    omega
def applyL (l0 : List S52) (l1 : List S36) : Option (List S52) := applyTo l1 (bothL (l0.length + (placesL l1).length + 1) l0 (placesL l1))
def plan_Apply.f (k : Nat) (l0 : List S52) (l1 : List S36) : Option (List S52 × Int) := if l0.length + l1.length < 1000000 then ((load_Check.f k l0).bind fun t1 => if t1 = 0 then ((plan_Check.f k l1).bind fun t2 => if t2 = 0 then (match applyL l0 l1 with | none => some ([], 8) | some o => if o.length > 100 then some ([], 9) else some (o, 0)) else some ([], t2)) else some ([], t1)) else none
theorem plan_Apply.mono : ∀ a0 a1 k, LeO (plan_Apply.f k a0 a1) (plan_Apply.f (k + 1) a0 a1) := by
  intro a0 a1 k
  unfold plan_Apply.f
  exact LeO.ite (LeO.bind (load_Check.mono _ _) fun _ => LeO.ite (LeO.bind (plan_Check.mono _ _) fun _ => LeO.refl _) (LeO.refl _)) (LeO.refl _)
/-- The named boxes of plan.Apply: its moves, its two results. -/
structure Ap (w W : World) (g : Nat) (v3 v4 v5 : Value) : Prop where
  hg : g = w.heap.size
  below : Below w.heap.size w W
  b3 : W.heap[g]? = some (.cells #[v3] 24 (0, 0))
  b4 : W.heap[g + 1]? = some (.cells #[v4] 22 (0, 0))
  b5 : W.heap[g + 1 + 1]? = some (.cells #[v5] 25 (0, 0))
section
variable {w W W' : World} {g : Nat} {v3 v4 v5 : Value}
theorem Ap.new (w : World) (v3 v4 v5 : Value) : Ap w (((w.alloc (.cells #[v3] 24)).alloc (.cells #[v4] 22)).alloc (.cells #[v5] 25)) w.heap.size v3 v4 v5 := by
  refine ⟨rfl, below_alloc (below_alloc (below_alloc (Below.refl _ _) _) _) _, blk_alloc (blk_alloc (blk_new _ _) _) _, blk_alloc ?_ _, ?_⟩
  · have := blk_new (w.alloc (.cells #[v3] 24)) (.cells #[v4] 22)
    rwa [World.size_alloc] at this
  · have := blk_new ((w.alloc (.cells #[v3] 24)).alloc (.cells #[v4] 22)) (.cells #[v5] 25)
    rwa [World.size_alloc, World.size_alloc] at this
theorem Ap.then_ (h : Ap w W g v3 v4 v5) (hb : Below W.heap.size W W') : Ap w W' g v3 v4 v5 := ⟨h.hg, below_step h.below hb, blk_below h.b3 hb, blk_below h.b4 hb, blk_below h.b5 hb⟩
theorem Ap.alloc (h : Ap w W g v3 v4 v5) (o : Obj) : Ap w (W.alloc o) g v3 v4 v5 := h.then_ (below_alloc (Below.refl _ _) o)
theorem Ap.drewN (h : Ap w W g v3 v4 v5) (n : Nat) : Ap w (W.drewN n) g v3 v4 v5 := h.then_ (pw_below_drewN (Below.refl _ _) n)
theorem Ap.grown (h : Ap w W g v3 v4 v5) {row : Option Nat} (hg : W.grownBy W' row) (hr : ∀ i, row = some i → w.heap.size + 3 ≤ i) : Ap w W' g v3 v4 v5 := by
  have e := h.hg
  refine ⟨h.hg, h.below.grown hg h.below.size (fun i hi => by have := hr i hi; omega), blk_grown h.b3 hg ?_, blk_grown h.b4 hg ?_, blk_grown h.b5 hg ?_⟩ <;> (intro he; have := hr _ he.symm; omega)
theorem Ap.set_ (h : Ap w W g v3 v4 v5) {p : Addr} (hp : w.heap.size + 3 ≤ p.block) (u : Value) : Ap w (W.setCell p u) g v3 v4 v5 := by
  have e := h.hg
  exact ⟨h.hg, h.below.setCell (by omega) u, blk_far h.b3 (by omega) u, blk_far h.b4 (by omega) u, blk_far h.b5 (by omega) u⟩
theorem Ap.set4 (h : Ap w W g v3 v4 v5) (u : Value) : Ap w (W.setCell ⟨g + 1, 0, none⟩ u) g v3 u v5 :=
  ⟨h.hg, h.below.setCell (p := ⟨g + 1, 0, none⟩) (by have := h.hg; show _ ≤ g + 1; omega) u, blk_far h.b3 (by simp) u, blk_put h.b4 0 u rfl, blk_far h.b5 (by simp) u⟩
theorem Ap.set5 (h : Ap w W g v3 v4 v5) (u : Value) : Ap w (W.setCell ⟨g + 1 + 1, 0, none⟩ u) g v3 v4 u :=
  ⟨h.hg, h.below.setCell (p := ⟨g + 1 + 1, 0, none⟩) (by have := h.hg; show _ ≤ g + 1 + 1; omega) u, blk_far h.b3 (by simp; omega) u, blk_far h.b4 (by simp) u, blk_put h.b5 0 u rfl⟩
theorem Ap.cells (h : Ap w W g v3 v4 v5) : W.cell? ⟨g, 0, none⟩ = some v3 ∧ W.cell? ⟨g + 1, 0, none⟩ = some v4 ∧ W.cell? ⟨g + 1 + 1, 0, none⟩ = some v5 ∧ W.frozen? ⟨g + 1, 0, none⟩ = false ∧ W.frozen? ⟨g + 1 + 1, 0, none⟩ = false :=
  ⟨(blk_cell h.b3 0).trans rfl, (blk_cell h.b4 0).trans rfl, (blk_cell h.b5 0).trans rfl, blk_frozen h.b4 0, blk_frozen h.b5 0⟩
theorem Ap.results {s : Option Addr} {n c : Nat} {e : Int} {x : Nat} {fn : Func} (hr : fn.results = #[.cell 4 22, .cell 5 25]) (h : Ap w W g v3 (.slice s n c) (.int .i64 e)) (tmps : Array Value) (h4 : tmps[4]? = some (.pointer (some ⟨g + 1, 0, none⟩))) (h5 : tmps[5]? = some (.pointer (some ⟨g + 1 + 1, 0, none⟩))) :
    (results fn tmps).run Try.prog W = .ok (.tuple #[.slice s n c, .int .i64 e]) W := by
  obtain ⟨_, c4, c5, _, _⟩ := h.cells
  have u22 := Try.underlying22
  have u25 := Try.underlying25
  simp [Go.results, hr, go_sem, h4, h5, c4, c5]
end
theorem Ap.off {w W W' : World} {g : Nat} {v3 v4 v5 : Value} {S : Nat → Prop} (h : Ap w W g v3 v4 v5) (k : Off S W W') (hS : ∀ i, S i → w.heap.size + 3 ≤ i) : Ap w W' g v3 v4 v5 := by
  have e := h.hg
  refine ⟨h.hg, k.below h.below (fun i hi => by have := hS i hi; omega), blk_kept h.b3 k.kept ?_, blk_kept h.b4 k.kept ?_, blk_kept h.b5 k.kept ?_⟩ <;> (intro hi; have := hS _ hi; omega)
/-- Behind 'out = append(out, ..)' in a round of plan.Apply: what the box O holds, and what has stayed. -/
theorem step_out {w W2 w1 : World} {g O : Nat} {v v1 v3 v4 v5 : Value} {o o' : List S52} (hO : w.heap.size + 3 ≤ O) (hp : Ap w W2 g v3 v4 v5) (b : W2.heap[O]? = some (.cells #[v] 22 (0, 0)))
    (R : Kd.R k52 52 W2 w.heap.size (fun i => O + 5 ≤ i) v o) (hg : W2.grownBy w1 v.ownBlock) (hR : Kd.R k52 52 w1 w.heap.size (fun i => O + 5 ≤ i) v1 o') :
    w1.heap[O]? = some (.cells #[v] 22 (0, 0)) ∧ (w1.setCell ⟨O, 0, none⟩ v1).heap[O]? = some (.cells #[v1] 22 (0, 0)) ∧ Kd.R k52 52 (w1.setCell ⟨O, 0, none⟩ v1) w.heap.size (fun i => O + 5 ≤ i) v1 o' ∧
      Ap w (w1.setCell ⟨O, 0, none⟩ v1) g v3 v4 v5 ∧ ∀ i, i < O + 5 → i ≠ O → i < W2.heap.size → (w1.setCell ⟨O, 0, none⟩ v1).heap[i]? = W2.heap[i]? := by
  have hne : ∀ i, v.ownBlock = some i → O + 5 ≤ i := fun i hi => (R_own_ok R i hi).1
  have b1 : w1.heap[O]? = some (.cells #[v] 22 (0, 0)) := blk_grown b hg (fun h => by have := hne O h.symm; omega)
  refine ⟨b1, blk_put b1 0 _ rfl, Kd.R_far hR (p := ⟨O, 0, none⟩) (fun i hi => by show i ≠ O; omega) _, (hp.grown hg (fun i hi => by have := hne i hi; omega)).set_ (p := ⟨O, 0, none⟩) hO _, fun i hi hn hlt => ?_⟩
  rw [Below.heap_setCell _ _ _ _ hn]
  exact hg.block i hlt (fun h => by have := hne i h.symm; omega)
set_option maxHeartbeats 4000000 in
set_option maxRecDepth 100000 in
theorem plan_Apply.calls (k : Nat) (A0 : Option Addr) (c0 : Nat) (l0 : List S52) (A1 : Option Addr) (c1 : Nat) (l1 : List S36) (r1 : List S52) (r2 : Int) (w : World) (hr0 : Kd.C k52 w A0 l0.length l0) (hc0 : l0.length ≤ c0) (hr1 : Kd.C k36 w A1 l1.length l1) (hc1 : l1.length ≤ c1) (h : plan_Apply.f k l0 l1 = some (r1, r2)) :
    Calls Try.prog 13 #[.slice A0 l0.length c0, .slice A1 l1.length c1] w fun e w' => ∃ v0_ : Value, e = .returned (.tuple #[v0_, .int .i64 r2]) ∧ Kd.R k52 52 w' w.heap.size (fun _ => True) v0_ r1 ∧ Below w.heap.size w w' := by
  unfold plan_Apply.f at h
  by_cases hsmall : l0.length + l1.length < 1000000
  · rw [if_pos hsmall] at h
    obtain ⟨t1, hA, h⟩ := Option.bind_eq_some_iff.mp h
    have HR0 := Aside0.mk hr0
    have HR1 := Aside0.mk hr1
    have HC0 := Aside0.mk hc0
    have HC1 := Aside0.mk hc1
    have HSM := Aside0.mk hsmall
    have H1 := Aside0.mk hA
    clear hr0 hr1 hc0 hc1 hsmall hA
    refine (callsIn_wide (n := 0)).1 ?_
    refine callsIn_of_wp_marks Try.func13 rfl trivial ?_
    simp only [Try.ntmps13, List.size_toArray, List.length_cons, List.length_nil, Nat.reduceAdd, Nat.reduceSub, Array.replicate_succ, Array.replicate_zero, List.push_toArray, List.append_toArray, List.nil_append, List.cons_append]
    refine wpIn_wide.2 ?_
    have P0 := Aside0.mk (Ap.new w (.slice A1 l1.length c1) (.slice none 0 0) (.int .i64 0))
    go_wp2_with (fail)
    refine (load_Check.calls k A0 c0 l0 t1 _ (Kd.C_below HR0.out P0.out.below) HC0.out H1.out).mono ?_
    rintro e w1 ⟨rfl, hb1⟩
    have P1 := Aside0.mk (P0.out.then_ hb1)
    clear hb1 P0
    generalize w.heap.size = g at P1 ⊢
    by_cases e1 : t1 = 0
    · subst e1
      rw [if_pos rfl] at h
      obtain ⟨t2, hA, h⟩ := Option.bind_eq_some_iff.mp h
      have H2 := Aside0.mk hA
      clear hA
      obtain ⟨q3, q4, q5, f4, f5⟩ := P1.out.cells
      go_wp2_with (fail)
      refine (plan_Check.calls k A1 c1 l1 t2 _ (Kd.C_below HR1.out P1.out.below) HC1.out H2.out).mono ?_
      rintro e w2 ⟨rfl, hb2⟩
      have P2 := Aside0.mk (P1.out.then_ hb2)
      clear hb2 P1 q3 q4 q5 f4 f5 w1
      by_cases e2 : t2 = 0
      · subst e2
        rw [if_pos rfl] at h
        have H := Aside0.mk h
        clear h
        obtain ⟨q3, q4, q5, f4, f5⟩ := P2.out.cells
        go_wp2_with (fail)
        clear q3 q4 q5 f4 f5
        have R0 := Aside0.mk (Kd.R_nil k52 52 w2 w.heap.size (fun i => w.heap.size + 3 ≤ i))
        go_loopw [8, 26] (fun v8 v26 wr => ∃ (x : Int), v26 = .int .i64 x ∧ Aside0 (0 ≤ x ∧ x ≤ (l1.length : Int)) ∧ Aside0 (Kd.R k52 52 wr w.heap.size (fun i => w.heap.size + 3 ≤ i) v8 (placesUpto l1 x.toNat)) ∧ Aside0 (Ap w wr g (.slice A1 l1.length c1) (.slice none 0 0) (.int .i64 0))) (fun _ v26 _ => l1.length - (intOf v26).toNat)
        case atStart => exact ⟨0, rfl, ⟨Int.le_refl _, by omega⟩, R0, P2⟩
        case round =>
          clear R0 P2 H1 H2
          obtain ⟨x, rfl, HX, HR, HP⟩ := hrel
          by_cases hlt : x < (l1.length : Int)
          · obtain ⟨p1, _⟩ := HX.out
            obtain ⟨Av, cv, rfl⟩ := Kd.R_slice HR.out
            obtain ⟨ad, e, h0, h1, h2⟩ := at_T36 (Kd.C_below HR1.out HP.out.below) x p1 hlt
            cases e
            have q1 := eq_true p1
            have q2 : decide (x < (l1.length : Int)) = true := decide_eq_true hlt
            have HLT := Aside0.mk hlt
            clear hlt
            have q3 := eq_true HLT.out
            have e3 : (placesUpto l1 x.toNat).length = x.toNat := placesUpto_length _ _
            have E3 := Aside0.mk e3
            clear e3
            have hx6 : x < 1000000 := by have := HLT.out; have := HSM.out; omega
            go_wp2_with (at_builtin; refine Kd.R_append k52 (w0 := w) w.heap.size rfl (.tmp 31) (.tmp 36) 22 52 _ 24 rfl Try.underlying22 info52 rfl (by decide) (by decide) (.slice Av (placesUpto l1 x.toNat).length cv) (placesUpto l1 x.toNat) ⟨(rd_T36 l1 x).f0, x⟩ [.string (rd_T36 l1 x).f0, .int .i64 x] (fun i => w.heap.size + 3 ≤ i) (fun _ => False) rfl (by rw [World.size_alloc]; rfl) (k52_mkM _ _ _ ⟨(rd_T36 l1 x).f0, x⟩) (fun _ h => h.elim) ?fresh (Kd.R_alloc HR.out _) (below_alloc HP.out.below _) (below_alloc HP.out.below _).size ?hl ?_; (case fresh => intro i hi; have h1 := blk_lt HP.out.b5; have h3 := HP.out.hg; rw [World.size_alloc] at hi; omega); (case hl => rw [E3.out]; omega); intro v1 W1 hR hB hg _; have HR1' := Aside0.mk hR; have HP1 := Aside0.mk ((HP.out.alloc _).grown hg (fun i hi => (R_own_ok HR.out i hi).1)); obtain ⟨A1', c1', rfl⟩ := Kd.R_slice hR; clear hR hB hg)
            go_roundw
            case rel => exact ⟨x + 1, rfl, ⟨by omega, by have := HLT.out; omega⟩, ⟨by
              rw [show (x + 1).toNat = x.toNat + 1 by omega, placesUpto_succ, show ((x.toNat : Nat) : Int) = x by omega]
              have h6 := HR1'.out
              rwa [show (placesUpto l1 x.toNat ++ [(⟨(rd_T36 l1 x).f0, x⟩ : S52)]).length = (placesUpto l1 x.toNat).length + 1 by simp] at h6⟩, HP1⟩
            case measure =>
              have := HLT.out
              simp [intOf]
              omega
          · have hd : decide (x < (l1.length : Int)) = false := decide_eq_false hlt
            obtain ⟨p1, p2⟩ := HX.out
            obtain rfl : x = (l1.length : Int) := by omega
            have hR2 := HR.out
            rw [Int.toNat_natCast] at hR2
            change Kd.R k52 52 wr w.heap.size (fun i => w.heap.size + 3 ≤ i) _ (placesL l1) at hR2
            clear HR p1 p2 HX hlt
            obtain ⟨Aq, cp, rfl⟩ := Kd.R_slice hR2
            have HR := Aside0.mk hR2
            clear hR2
            go_wp2_with (fail)
            refine (both_calls _ _ _ _ _ _ _).mono ?_
            rintro e w4 ⟨rfl, hw4⟩
            simp only [World.size_alloc] at hw4 ⊢
            obtain ⟨O, hO⟩ : ∃ O, O = wr.heap.size := ⟨_, rfl⟩
            have bO : w4.heap[O]? = some (.cells #[.slice none 0 0] 22 (0, 0)) := by rw [hw4, hO]; exact blk_alloc (blk_alloc (blk_new _ _) _) _
            have bA : w4.heap[O + 1]? = some (.cells #[.slice A0 l0.length c0] 22 (0, 0)) := by
              rw [hw4, hO]; refine blk_alloc ?_ _
              have := blk_new (wr.alloc (.cells #[.slice none 0 0] 22)) (.cells #[.slice A0 l0.length c0] 22)
              rwa [World.size_alloc] at this
            have bB : w4.heap[O + 1 + 1]? = some (.cells #[.slice Aq (placesL l1).length cp] 22 (0, 0)) := by
              rw [hw4, hO]
              have := blk_new ((wr.alloc (.cells #[.slice none 0 0] 22)).alloc (.cells #[.slice A0 l0.length c0] 22)) (.cells #[.slice Aq (placesL l1).length cp] 22)
              rwa [World.size_alloc, World.size_alloc] at this
            have hsz : w4.heap.size = O + 3 := by rw [hw4, hO]; simp
            have hb4 : Below wr.heap.size wr w4 := by rw [hw4]; exact below_alloc (below_alloc (below_alloc (Below.refl _ _) _) _) _
            have P4 := Aside0.mk (HP.out.then_ hb4)
            have hge : w.heap.size + 3 ≤ O := by have h1 := blk_lt HP.out.b5; have h3 := HP.out.hg; omega
            have hcp : (placesL l1).length ≤ cp := by
              obtain ⟨_, _, e9, h9, _⟩ := Kd.R_reads HR.out
              cases e9
              exact h9
            have hS : BothSt (fun i => i < w.heap.size ∨ (w.heap.size + 3 ≤ i ∧ i < O)) (O + 1) (O + 1 + 1) w4 l0 (placesL l1) :=
              ⟨A0, Aq, c0, cp, bA, bB, HC0.out, hcp, Kd.F_mono (Kd.F_step (Kd.C_F heap52 HR0.out) (fun i hi _ => P4.out.below.block i hi)) (fun i hi => .inl hi),
                Kd.F_mono (Kd.F_step (Kd.F_bound (Kd.R_F HR.out)) (fun i hi _ => hb4.block i hi.2)) (fun i hi => .inr ⟨hi.1, by rw [hO]; exact hi.2⟩)⟩
            rw [← hO]
            clear hO hw4 HR HP hb4
            have BO := Aside0.mk bO
            have HS := Aside0.mk hS
            clear bO bA bB hS hcp
            have hsv : ∀ i, offB (O + 1) (O + 1 + 1) w4 i → O < i ∧ i < O + 5 := fun i hi => by rcases hi with h | h | h | h <;> omega
            have HSV := Aside0.mk hsv
            have HSZ := Aside0.mk hsz
            have HGE := Aside0.mk hge
            clear hsv hsz hge hd
            go_wp2_with (fail)
            refine (wpIn_wide (n := 0)).1 ?_
            refine wpIn_range_both (A := O + 1) (B := O + 1 + 1) (Ok := fun i => i < w.heap.size ∨ (w.heap.size + 3 ≤ i ∧ i < O)) rfl (by omega) (by have := HGE.out; omega) (by have := HGE.out; omega) (fun i hi => by have := HGE.out; have := HSZ.out; omega) HS.out (l0.length + (placesL l1).length + 1) (by omega)
              (fun pre W => ∃ v o, applyTo l1 pre = some o ∧ W.heap[O]? = some (.cells #[v] 22 (0, 0)) ∧ Kd.R k52 52 W w.heap.size (fun i => O + 5 ≤ i) v o ∧ Ap w W g (.slice A1 l1.length c1) (.slice none 0 0) (.int .i64 0))
              (fun pre W => applyTo l1 pre = none ∧ Ap w W g (.slice A1 l1.length c1) (.slice none 0 0) (.int .i64 8)) ?hI ?hIx ?h0 ?hround ?hdone ?hstop
            case hI =>
              rintro pre W W' ⟨v, o, ha, b, R, hp⟩ ho
              exact ⟨v, o, ha, blk_kept b ho.kept (fun h => by have := HSV.out _ h; omega), Kd.R_kept R ho.kept (fun i hi h => by have := HSV.out _ h; omega), hp.off ho (fun i hi => by have := HSV.out _ hi; have := HGE.out; omega)⟩
            case hIx =>
              rintro pre W W' ⟨ha, hp⟩ ho
              exact ⟨ha, hp.off ho (fun i hi => by have := HSV.out _ hi; have := HGE.out; omega)⟩
            case h0 => exact ⟨_, _, rfl, BO.out, Kd.R_nil _ _ _ _ _, P4.out⟩
            case hround =>
              rintro l pre x W hI hlen hWs
              have HLEN := Aside0.mk hlen
              have HWS := Aside0.mk hWs
              clear hI hlen hWs P4 BO HS
              dsimp only [moveV]
              gi_wp2
              refine ⟨_, rfl, ?_⟩
              rintro W2 ho hI2 hm
              obtain ⟨m, hmm⟩ : ∃ m, m = W.heap.size := ⟨_, rfl⟩
              rw [← hmm] at hm ⊢
              have hml : O + 4 < m := by have := HWS.out; have := HSZ.out; omega
              have BM := Aside0.mk hm
              have HML := Aside0.mk hml
              clear hml ho hmm hm
              obtain ⟨v, o, ha, b, R, hp⟩ := hI2
              obtain ⟨Av, cv, rfl⟩ := Kd.R_slice R
              have RR := Aside0.mk R
              have BB := Aside0.mk b
              have PP := Aside0.mk hp
              have HA := Aside0.mk ha
              clear R b hp ha
              have hol : o.length < 1000000 := by
                have h1 := applyTo_le _ _ _ HA.out
                have h2 := HLEN.out.length_le
                rw [List.length_append, List.length_singleton] at h2
                have h3 := bothL_length (l0.length + (placesL l1).length + 1) l0 (placesL l1)
                have h4 : (placesL l1).length = l1.length := placesUpto_length _ _
                have h5 := HSM.out
                omega
              have HOL := Aside0.mk hol
              clear hol
              have keep : ∀ i, ((i < w.heap.size ∨ (w.heap.size + 3 ≤ i ∧ i < O)) ∨ offB (O + 1) (O + 1 + 1) w4 i) → i < O + 5 ∧ i ≠ O := fun i hi => by
                have := HGE.out
                rcases hi with h | h
                · omega
                · have := HSV.out i h
                  omega
              have KEEP := Aside0.mk keep
              clear keep
              by_cases hx2 : x.f2 = -1
              · have t2 : (x.f2 != -1) = false := bne_eq_false_iff_eq.mpr hx2
                by_cases hx1 : x.f1 = -1
                · have t1 : (x.f1 != -1) = false := bne_eq_false_iff_eq.mpr hx1
                  have S9 : Aside0 (stepA l1 x = some []) := ⟨by unfold stepA; rw [if_pos hx2, if_pos hx1]⟩
                  clear hx1 hx2
                  have m0 : W2.cell? ⟨m, 0, none⟩ = some (.string x.f0) := (blk_cell BM.out 0).trans rfl
                  have m1 : W2.cell? ⟨m, 1, none⟩ = some (.int .i64 x.f1) := (blk_cell BM.out 1).trans rfl
                  have m2 : W2.cell? ⟨m, 2, none⟩ = some (.int .i64 x.f2) := (blk_cell BM.out 2).trans rfl
                  have o0 : W2.cell? ⟨O, 0, none⟩ = some (.slice Av o.length cv) := (blk_cell BB.out 0).trans rfl
                  obtain ⟨q3, q4, q5, f4, f5⟩ := PP.out.cells
                  gi_wp2
                  refine ⟨⟨_, o, ?_, BB.out, RR.out, PP.out⟩, fun _ _ _ => rfl⟩
                  rw [applyTo_snoc, HA.out, S9.out]
                  simp
                · have t1 : (x.f1 != -1) = true := bne_iff_ne.mpr hx1
                  have S9 : Aside0 (stepA l1 x = some [⟨x.f0, x.f1⟩]) := ⟨by unfold stepA; rw [if_pos hx2, if_neg hx1]⟩
                  clear hx1 hx2
                  have m0 : W2.cell? ⟨m, 0, none⟩ = some (.string x.f0) := (blk_cell BM.out 0).trans rfl
                  have m1 : W2.cell? ⟨m, 1, none⟩ = some (.int .i64 x.f1) := (blk_cell BM.out 1).trans rfl
                  have m2 : W2.cell? ⟨m, 2, none⟩ = some (.int .i64 x.f2) := (blk_cell BM.out 2).trans rfl
                  have o0 : W2.cell? ⟨O, 0, none⟩ = some (.slice Av o.length cv) := (blk_cell BB.out 0).trans rfl
                  obtain ⟨q3, q4, q5, f4, f5⟩ := PP.out.cells
                  gi_wp2_with (gi_at_builtin; refine R_appendIn k52 (w0 := w) w.heap.size rfl (.tmp 65) (.tmp 70) 22 52 _ 24 rfl Try.underlying22 info52 rfl (by decide) (by decide) (.slice Av o.length cv) o ⟨x.f0, x.f1⟩ [.string x.f0, .int .i64 x.f1] (fun i => O + 5 ≤ i) rfl rfl (k52_mkM _ _ _ ⟨x.f0, x.f1⟩) ?fresh RR.out PP.out.below PP.out.below.size ?hl ?_; (case fresh => intro i hi; have h1 := HML.out; have h2 := blk_lt BM.out; omega); (case hl => have := HOL.out; omega); intro v1 w1 hR hB hg; obtain ⟨A1', c1', rfl⟩ := Kd.R_slice hR; have E9 := Aside0.mk (step_out HGE.out PP.out BB.out RR.out hg hR); have o1 : w1.cell? ⟨O, 0, none⟩ = some (.slice Av o.length cv) := (blk_cell E9.out.1 0).trans rfl; have of1 : w1.frozen? ⟨O, 0, none⟩ = false := blk_frozen E9.out.1 0; clear hR hB hg)
                  obtain ⟨_, g1, g2, g3, g4⟩ := E9.out
                  rw [show (o ++ [(⟨x.f0, x.f1⟩ : S52)]).length = o.length + 1 by simp] at g1 g2 g3 g4
                  refine ⟨⟨_, _, ?_, g1, g2, g3⟩, fun i hi hlt => g4 i (KEEP.out i hi).1 (KEEP.out i hi).2 hlt⟩
                  rw [applyTo_snoc, HA.out, S9.out]
                  simp
              · have t2 : (x.f2 != -1) = true := bne_iff_ne.mpr hx2
                obtain ⟨u0, u1⟩ := (both_place HLEN.out).resolve_left hx2
                obtain ⟨ad, e9, h0, h1, h2⟩ := at_T36 (Kd.C_below HR1.out PP.out.below) x.f2 u0 u1
                cases e9
                have u2 := eq_true u0
                have u3 : decide (x.f2 < (l1.length : Int)) = true := decide_eq_true u1
                have u4 := eq_true u1
                clear u0 u1
                by_cases hs : (rd_T36 l1 x.f2).f1 = x.f1
                · have t3 : ((rd_T36 l1 x.f2).f1 != x.f1) = false := bne_eq_false_iff_eq.mpr hs
                  by_cases ht : (rd_T36 l1 x.f2).f2 = -1
                  · have t4 : ((rd_T36 l1 x.f2).f2 != -1) = false := bne_eq_false_iff_eq.mpr ht
                    have S9 : Aside0 (stepA l1 x = some []) := ⟨by unfold stepA; rw [if_neg hx2, if_pos hs, if_pos ht]⟩
                    clear hx2 hs ht
                    have m0 : W2.cell? ⟨m, 0, none⟩ = some (.string x.f0) := (blk_cell BM.out 0).trans rfl
                    have m1 : W2.cell? ⟨m, 1, none⟩ = some (.int .i64 x.f1) := (blk_cell BM.out 1).trans rfl
                    have m2 : W2.cell? ⟨m, 2, none⟩ = some (.int .i64 x.f2) := (blk_cell BM.out 2).trans rfl
                    have o0 : W2.cell? ⟨O, 0, none⟩ = some (.slice Av o.length cv) := (blk_cell BB.out 0).trans rfl
                    obtain ⟨q3, q4, q5, f4, f5⟩ := PP.out.cells
                    gi_wp2
                    refine wpIn_region_quiet_round (by kernel_rfl) (by kernel_rfl) (by kernel_rfl) ?_
                    repeat (quiet_step (fail))
                    refine wpQuiet_nil ?_
                    intro _ hw'
                    obtain ⟨nq, hw''⟩ := hw'
                    subst hw''
                    gi_wp2
                    refine ⟨⟨_, o, ?_, BB.out, Kd.R_drewN RR.out _, PP.out.drewN _⟩, fun _ _ _ => rfl⟩
                    rw [applyTo_snoc, HA.out, S9.out]
                    simp
                  · have t4 : ((rd_T36 l1 x.f2).f2 != -1) = true := bne_iff_ne.mpr ht
                    have S9 : Aside0 (stepA l1 x = some [⟨x.f0, (rd_T36 l1 x.f2).f2⟩]) := ⟨by unfold stepA; rw [if_neg hx2, if_pos hs, if_neg ht]⟩
                    clear hx2 hs ht
                    have m0 : W2.cell? ⟨m, 0, none⟩ = some (.string x.f0) := (blk_cell BM.out 0).trans rfl
                    have m1 : W2.cell? ⟨m, 1, none⟩ = some (.int .i64 x.f1) := (blk_cell BM.out 1).trans rfl
                    have m2 : W2.cell? ⟨m, 2, none⟩ = some (.int .i64 x.f2) := (blk_cell BM.out 2).trans rfl
                    have o0 : W2.cell? ⟨O, 0, none⟩ = some (.slice Av o.length cv) := (blk_cell BB.out 0).trans rfl
                    obtain ⟨q3, q4, q5, f4, f5⟩ := PP.out.cells
                    gi_wp2
                    refine wpIn_region_quiet_round (by kernel_rfl) (by kernel_rfl) (by kernel_rfl) ?_
                    repeat (quiet_step (fail))
                    refine wpQuiet_nil ?_
                    intro _ hw'
                    obtain ⟨nq, hw''⟩ := hw'
                    subst hw''
                    have RR' := Aside0.mk (Kd.R_drewN RR.out nq)
                    have PP' := Aside0.mk (PP.out.drewN nq)
                    gi_wp2_with (gi_at_builtin; refine R_appendIn k52 (w0 := w) w.heap.size rfl (.tmp 65) (.tmp 70) 22 52 _ 24 rfl Try.underlying22 info52 rfl (by decide) (by decide) (.slice Av o.length cv) o ⟨x.f0, (rd_T36 l1 x.f2).f2⟩ [.string x.f0, .int .i64 (rd_T36 l1 x.f2).f2] (fun i => O + 5 ≤ i) rfl rfl (k52_mkM _ _ _ ⟨x.f0, (rd_T36 l1 x.f2).f2⟩) ?fresh RR'.out PP'.out.below PP'.out.below.size ?hl ?_; (case fresh => intro i hi; replace hi : W2.heap.size ≤ i := hi; have h1 := HML.out; have h2 := blk_lt BM.out; omega); (case hl => have := HOL.out; omega); intro v1 w1 hR hB hg; obtain ⟨A1', c1', rfl⟩ := Kd.R_slice hR; have E9 := Aside0.mk (step_out HGE.out PP'.out (blk_drewN BB.out nq) RR'.out hg hR); have o1 : w1.cell? ⟨O, 0, none⟩ = some (.slice Av o.length cv) := (blk_cell E9.out.1 0).trans rfl; have of1 : w1.frozen? ⟨O, 0, none⟩ = false := blk_frozen E9.out.1 0; clear hR hB hg)
                    obtain ⟨_, g1, g2, g3, g4⟩ := E9.out
                    rw [show (o ++ [(⟨x.f0, (rd_T36 l1 x.f2).f2⟩ : S52)]).length = o.length + 1 by simp] at g1 g2 g3 g4
                    refine ⟨⟨_, _, ?_, g1, g2, g3⟩, fun i hi hlt => g4 i (KEEP.out i hi).1 (KEEP.out i hi).2 hlt⟩
                    rw [applyTo_snoc, HA.out, S9.out]
                    simp
                · have t3 : ((rd_T36 l1 x.f2).f1 != x.f1) = true := bne_iff_ne.mpr hs
                  have S9 : Aside0 (stepA l1 x = none) := ⟨by unfold stepA; rw [if_neg hx2, if_neg hs]⟩
                  clear hx2 hs
                  have m0 : W2.cell? ⟨m, 0, none⟩ = some (.string x.f0) := (blk_cell BM.out 0).trans rfl
                  have m1 : W2.cell? ⟨m, 1, none⟩ = some (.int .i64 x.f1) := (blk_cell BM.out 1).trans rfl
                  have m2 : W2.cell? ⟨m, 2, none⟩ = some (.int .i64 x.f2) := (blk_cell BM.out 2).trans rfl
                  have o0 : W2.cell? ⟨O, 0, none⟩ = some (.slice Av o.length cv) := (blk_cell BB.out 0).trans rfl
                  obtain ⟨q3, q4, q5, f4, f5⟩ := PP.out.cells
                  gi_wp2
                  refine wpIn_region_quiet_round (by kernel_rfl) (by kernel_rfl) (by kernel_rfl) ?_
                  repeat (quiet_step (fail))
                  refine wpQuiet_nil ?_
                  intro _ hw'
                  obtain ⟨nq, hw''⟩ := hw'
                  subst hw''
                  gi_wp2
                  refine ⟨⟨by rw [applyTo_snoc, HA.out, S9.out]; rfl, ((PP.out.drewN nq).set4 _).set5 _⟩, fun i hi hlt => ?_⟩
                  have h1 := PP.out.hg
                  have h2 := HGE.out
                  have h3 : i ≠ g + 1 ∧ i ≠ g + 1 + 1 := by
                    rcases hi with h | h
                    · omega
                    · have := HSV.out i h
                      omega
                  rw [Below.heap_setCell _ _ _ _ h3.2, Below.heap_setCell _ _ _ _ h3.1]
                  rfl
            case hdone =>
              rintro W ⟨v, o, ha, b, R, hp⟩ hK
              obtain ⟨Av, cv, rfl⟩ := Kd.R_slice R
              have hal : applyL l0 l1 = some o := ha
              have H' := H.out
              rw [hal] at H'
              replace H' : (if o.length > 100 then some ([], 9) else some (o, 0)) = some (r1, r2) := H'
              have RR := Aside0.mk R
              have BB := Aside0.mk b
              have PP := Aside0.mk hp
              have HK := Aside0.mk hK
              have o0 : W.cell? ⟨O, 0, none⟩ = some (.slice Av o.length cv) := (blk_cell b 0).trans rfl
              obtain ⟨q3, q4, q5, f4, f5⟩ := hp.cells
              clear ha hal b R hp hK P4 BO HS H
              have hD : ∀ u1 u2 : Value, ((W.setCell ⟨g + 1, 0, none⟩ u1).setCell ⟨g + 1 + 1, 0, none⟩ u2).heap[w4.heap.size]? = some (.deferred (some [])) := fun u1 u2 => by
                have h1 := PP.out.hg
                have h2 := HGE.out
                have h3 := HSZ.out
                rw [Below.heap_setCell _ _ _ _ (by show w4.heap.size ≠ g + 1 + 1; omega), Below.heap_setCell _ _ _ _ (by show w4.heap.size ≠ g + 1; omega)]
                exact HK.out
              have HD := Aside0.mk hD
              have hP : ∀ u1 u2 : Value, Ap w (((W.setCell ⟨g + 1, 0, none⟩ u1).setCell ⟨g + 1 + 1, 0, none⟩ u2).putObj w4.heap.size (.deferred none)) g (.slice A1 l1.length c1) u1 u2 := fun u1 u2 =>
                Ap.off (S := fun i => i = w4.heap.size) ((PP.out.set4 u1).set5 u2) (Off.putObj (S := fun i => i = w4.heap.size) (Off.refl _ _) rfl _) (fun i hi => by have h2 := HGE.out; have h3 := HSZ.out; omega)
              have HP := Aside0.mk hP
              clear hD hP
              by_cases h100 : o.length > 100
              · rw [if_pos h100] at H'
                have HF := Aside0.mk H'
                have hd : decide ((100 : Int) < (o.length : Int)) = true := decide_eq_true (by omega)
                clear H' h100
                gi_wp2
                go_wp2
                refine ⟨by simp, .inl ⟨_, _, rfl, run_takeDeferred (HD.out _ _), ?_⟩⟩
                have hf := HF.out
                simp only [Option.some.injEq, Prod.mk.injEq] at hf
                obtain ⟨rfl, rfl⟩ := hf
                exact ⟨_, Ap.results (x := 0) rfl (HP.out _ _) _ rfl rfl, _, rfl, Kd.R_nil _ _ _ _ _, (HP.out _ _).below⟩
              · rw [if_neg h100] at H'
                have HF := Aside0.mk H'
                have hd : decide ((100 : Int) < (o.length : Int)) = false := decide_eq_false (by omega)
                clear H' h100
                gi_wp2
                go_wp2
                refine ⟨by simp, .inl ⟨_, _, rfl, run_takeDeferred (HD.out _ _), ?_⟩⟩
                have hf := HF.out
                simp only [Option.some.injEq, Prod.mk.injEq] at hf
                obtain ⟨rfl, rfl⟩ := hf
                refine ⟨_, Ap.results (x := 0) rfl (HP.out _ _) _ rfl rfl, _, rfl, ?_, (HP.out _ _).below⟩
                refine Kd.R_mono (ok := fun i => O + 5 ≤ i) (Kd.R_step RR.out (fun i hi hlt => ?_)) (fun _ _ => trivial)
                have h1 := PP.out.hg
                have h2 := HGE.out
                have h3 := HSZ.out
                rw [World.putObj_heap_other (by omega), Below.heap_setCell _ _ _ _ (by show i ≠ g + 1 + 1; omega), Below.heap_setCell _ _ _ _ (by show i ≠ g + 1; omega)]
            case hstop =>
              rintro pre W ⟨ms, hms⟩ ⟨ha, hp⟩ hK
              have hal : applyL l0 l1 = none := by
                unfold applyL
                rw [← hms]
                exact applyTo_stop _ _ _ ha
              have H' := H.out
              rw [hal] at H'
              replace H' : (some ([], 8) : Option (List S52 × Int)) = some (r1, r2) := H'
              have HF := Aside0.mk H'
              have PP := Aside0.mk hp
              have HK := Aside0.mk hK
              clear ha hal hp hK P4 BO HS H H' hms
              gi_wp2
              refine ⟨by simp, .inl ⟨_, _, rfl, run_takeDeferred HK.out, ?_⟩⟩
              have hf := HF.out
              simp only [Option.some.injEq, Prod.mk.injEq] at hf
              obtain ⟨rfl, rfl⟩ := hf
              have hP : Ap w (W.putObj w4.heap.size (.deferred none)) g (.slice A1 l1.length c1) (.slice none 0 0) (.int .i64 8) :=
                Ap.off (S := fun i => i = w4.heap.size) PP.out (Off.putObj (S := fun i => i = w4.heap.size) (Off.refl _ _) rfl _) (fun i hi => by have h2 := HGE.out; have h3 := HSZ.out; omega)
              exact ⟨_, Ap.results (x := 0) rfl hP _ rfl rfl, _, rfl, Kd.R_nil _ _ _ _ _, hP.below⟩
      · rw [if_neg e2] at h
        simp only [Option.some.injEq, Prod.mk.injEq] at h
        obtain ⟨rfl, rfl⟩ := h
        have b2 : (t2 != 0) = true := bne_iff_ne.mpr e2
        clear e2
        obtain ⟨q3, q4, q5, f4, f5⟩ := P2.out.cells
        go_wp2
        exact ⟨_, Ap.results (x := 0) rfl ((P2.out.set4 _).set5 _) _ rfl rfl, _, rfl, Kd.R_nil _ _ _ _ _, ((P2.out.set4 _).set5 _).below⟩
    · rw [if_neg e1] at h
      simp only [Option.some.injEq, Prod.mk.injEq] at h
      obtain ⟨rfl, rfl⟩ := h
      have b1 : (t1 != 0) = true := bne_iff_ne.mpr e1
      clear e1
      obtain ⟨q3, q4, q5, f4, f5⟩ := P1.out.cells
      go_wp2
      exact ⟨_, Ap.results (x := 0) rfl ((P1.out.set4 _).set5 _) _ rfl rfl, _, rfl, Kd.R_nil _ _ _ _ _, ((P1.out.set4 _).set5 _).below⟩
  · rw [if_neg hsmall] at h
    cases h

/-! ### tattleref15_Same: function 20 -/
def tattleref15_Same.l0 : Nat → List (S36) → List (S36) → Int → Option (Bool)
  | 0, _, _, _ => none
  | k + 1, x0, x1, x5 => if x5 < (x0.length : Int) then (if 0 ≤ x5 then (if x5 < (x1.length : Int) then (if (!((((rd_T36 x0 x5).f0).toList) == (((rd_T36 x1 x5).f0).toList)) || (!(((rd_T36 x0 x5).f1) == ((rd_T36 x1 x5).f1)) || (!(((rd_T36 x0 x5).f2) == ((rd_T36 x1 x5).f2))))) = true then (some false) else (tattleref15_Same.l0 k x0 x1 (wrap64 (x5 + 1)))) else (none)) else (none)) else (some true)
def tattleref15_Same.f (k : Nat) (l0 : List (S36)) (l1 : List (S36)) : Option (Bool) := if (l0.length : Int) = (l1.length : Int) then (tattleref15_Same.l0 k l0 l1 0) else (some false)
theorem tattleref15_Same.mono_l : ∀ k, (∀ y0 y1 y2, LeO (tattleref15_Same.l0 k y0 y1 y2) (tattleref15_Same.l0 (k + 1) y0 y1 y2))
  | 0 => fun _ _ _ r h => by simp [tattleref15_Same.l0] at h
  | k + 1 => by
    have ih0 := tattleref15_Same.mono_l k
    · intro y0 y1 y2
      unfold tattleref15_Same.l0
      repeat' first
      | (with_reducible exact ih0 _ _ _)
      | (with_reducible exact LeO.refl _)
      | (with_reducible exact LeO.none _)
      | (with_reducible refine LeO.ite ?_ ?_)
      | (with_reducible refine LeO.bind ?_ (fun _ => ?_))
      | exact ih0 _ _ _
      | exact LeO.none _
      | refine LeO.ite ?_ ?_
      | refine LeO.bind ?_ (fun _ => ?_)
theorem tattleref15_Same.mono : ∀ a0 a1 k, LeO (tattleref15_Same.f k a0 a1) (tattleref15_Same.f (k + 1) a0 a1) := by
  intro a0 a1 k
  have ih0 := tattleref15_Same.mono_l k
  unfold tattleref15_Same.f
  repeat' first
      | (with_reducible exact ih0 _ _ _)
      | (with_reducible exact LeO.refl _)
      | (with_reducible exact LeO.none _)
      | (with_reducible refine LeO.ite ?_ ?_)
      | (with_reducible refine LeO.bind ?_ (fun _ => ?_))
      | exact ih0 _ _ _
      | exact LeO.none _
      | refine LeO.ite ?_ ?_
      | refine LeO.bind ?_ (fun _ => ?_)
set_option maxHeartbeats 8000000 in
set_option maxRecDepth 100000 in
theorem tattleref15_Same.calls (k : Nat) (A0 : Option Addr) (c0 : Nat) (l0 : List (S36)) (A1 : Option Addr) (c1 : Nat) (l1 : List (S36)) (r : Bool) (w : World) (hr0 : Kd.C k36 w A0 l0.length l0) (hc0 : l0.length ≤ c0) (hr1 : Kd.C k36 w A1 l1.length l1) (hc1 : l1.length ≤ c1) (h : tattleref15_Same.f k l0 l1 = some r) :
    Calls Try.prog 20 #[.slice A0 l0.length c0, .slice A1 l1.length c1] w fun e w' => e = .returned (.bool r) ∧ Drawn0 w w' := by
  have hu36 := Try.underlying36
  have HR0 := Aside0.mk hr0
  have HC0 := Aside0.mk hc0
  clear hr0 hc0
  have HR1 := Aside0.mk hr1
  have HC1 := Aside0.mk hc1
  clear hr1 hc1
  have H : (if (l0.length : Int) = (l1.length : Int) then (tattleref15_Same.l0 k l0 l1 0) else (some false)) = some r := h
  clear h
  by_cases c3 : (l0.length : Int) = (l1.length : Int)
  · rw [if_pos c3] at H
    have c3b0 : ((l0.length : Int) == (l1.length : Int)) = true := beq_iff_eq.mpr c3
    have c3b1 : ((l0.length : Int) != (l1.length : Int)) = false := bne_eq_false_iff_eq.mpr c3
    have c3b2 : (l0.length == l1.length) = true := by first | simpa using c3 | (simp at c3 ⊢; omega)
    clear c3
    have H' := Aside0.mk H
    clear H
    go_enter Try.func20, Try.ntmps20
    go_wp2
    repeat (go_quiet (fail); try go_wp2)
    go_loopg [5] k (fun kq v5 w' => ∃ (x5_1 : Int), v5 = .int .i64 x5_1 ∧ Aside0 (tattleref15_Same.l0 kq l0 l1 x5_1 = some r) ∧ Aside0 (kq ≤ k) ∧ Drawn0 w w')
    case atStart => exact ⟨(0), (by first | rfl | (simp; done) | (simp [*]; done)), H', ⟨Nat.le_refl _⟩, by repeat (first | exact Drawn0.refl _ | apply Drawn0.step)⟩
    case round =>
      clear H'
      try clear c1
      try clear c2
      try clear p2
      try clear c3
      try clear c3b0
      try clear c3b1
      try clear c3b2
      obtain ⟨x5_1, rfl, HA, HK1, ⟨m1, rfl⟩⟩ := hrel
      cases gk with
      | zero => exact absurd HA.out (by simp [tattleref15_Same.l0])
      | succ k1 =>
        have H := HA.out
        clear HA
        simp only [tattleref15_Same.l0] at H
        by_cases c4 : x5_1 < (l0.length : Int)
        · rw [if_pos c4] at H
          have c4b0 : decide (x5_1 < (l0.length : Int)) = true := decide_eq_true c4
          clear c4
          by_cases c5 : 0 ≤ x5_1
          · rw [if_pos c5] at H
            have c5b0 : decide (0 ≤ x5_1) = true := decide_eq_true c5
            clear c5
            by_cases c6 : x5_1 < (l1.length : Int)
            · rw [if_pos c6] at H
              have c6b0 : decide (x5_1 < (l1.length : Int)) = true := decide_eq_true c6
              clear c6
              by_cases c7 : (!((((rd_T36 l0 x5_1).f0).toList) == (((rd_T36 l1 x5_1).f0).toList)) || (!(((rd_T36 l0 x5_1).f1) == ((rd_T36 l1 x5_1).f1)) || (!(((rd_T36 l0 x5_1).f2) == ((rd_T36 l1 x5_1).f2))))) = true
              · rw [if_pos c7] at H
                have c7b0 : (!((((rd_T36 l0 x5_1).f0).toList) == (((rd_T36 l1 x5_1).f0).toList)) || (!(((rd_T36 l0 x5_1).f1) == ((rd_T36 l1 x5_1).f1)) || (!(((rd_T36 l0 x5_1).f2) == ((rd_T36 l1 x5_1).f2))))) = true := c7
                clear c7
                obtain rfl := Option.some.inj H
                have p123 : 0 ≤ (x5_1 : Int) := of_decide_eq_true (by first | (with_reducible assumption) | assumption)
                have q123 : x5_1 < (l0.length : Int) := of_decide_eq_true (by first | (with_reducible assumption) | assumption)
                obtain ⟨ad123, e123, hx123_0, hx123_1, hx123_2⟩ := at_T36 HR0.out x5_1 p123 q123
                cases e123
                replace p123 := eq_true p123
                replace q123 := eq_true q123
                have p124 : 0 ≤ (x5_1 : Int) := of_decide_eq_true (by first | (with_reducible assumption) | assumption)
                have q124 : x5_1 < (l1.length : Int) := of_decide_eq_true (by first | (with_reducible assumption) | assumption)
                obtain ⟨ad124, e124, hx124_0, hx124_1, hx124_2⟩ := at_T36 HR1.out x5_1 p124 q124
                cases e124
                replace p124 := eq_true p124
                replace q124 := eq_true q124
                go_wp2
                repeat (go_quiet (fail); try go_wp2)
                go_ret
                exact ⟨by first | rfl | (simp; done) | (simp [*]; done), by repeat (first | exact Drawn0.refl _ | apply Drawn0.step)⟩
              · rw [if_neg c7] at H
                have c7b0 : (!((((rd_T36 l0 x5_1).f0).toList) == (((rd_T36 l1 x5_1).f0).toList)) || (!(((rd_T36 l0 x5_1).f1) == ((rd_T36 l1 x5_1).f1)) || (!(((rd_T36 l0 x5_1).f2) == ((rd_T36 l1 x5_1).f2))))) = false := by simpa using c7
                clear c7
                have H' := Aside0.mk H
                clear H
                have p123 : 0 ≤ (x5_1 : Int) := of_decide_eq_true (by first | (with_reducible assumption) | assumption)
                have q123 : x5_1 < (l0.length : Int) := of_decide_eq_true (by first | (with_reducible assumption) | assumption)
                obtain ⟨ad123, e123, hx123_0, hx123_1, hx123_2⟩ := at_T36 HR0.out x5_1 p123 q123
                cases e123
                replace p123 := eq_true p123
                replace q123 := eq_true q123
                have p124 : 0 ≤ (x5_1 : Int) := of_decide_eq_true (by first | (with_reducible assumption) | assumption)
                have q124 : x5_1 < (l1.length : Int) := of_decide_eq_true (by first | (with_reducible assumption) | assumption)
                obtain ⟨ad124, e124, hx124_0, hx124_1, hx124_2⟩ := at_T36 HR1.out x5_1 p124 q124
                cases e124
                replace p124 := eq_true p124
                replace q124 := eq_true q124
                go_wp2
                repeat (go_quiet (fail); try go_wp2)
                go_roundg k1
                case measure => have := HK1.out; omega
                case rel => exact ⟨(wrap64 (x5_1 + 1)), (by first | rfl | (simp; done) | (simp [*]; done)), H', ⟨by have := HK1.out; omega⟩, by repeat (first | exact Drawn0.refl _ | apply Drawn0.step)⟩
            · rw [if_neg c6] at H
              exact absurd H (by simp)
          · rw [if_neg c5] at H
            exact absurd H (by simp)
        · rw [if_neg c4] at H
          have c4b0 : decide (x5_1 < (l0.length : Int)) = false := decide_eq_false c4
          clear c4
          obtain rfl := Option.some.inj H
          go_wp2
          repeat (go_quiet (fail); try go_wp2)
          go_ret
          exact ⟨by first | rfl | (simp; done) | (simp [*]; done), by repeat (first | exact Drawn0.refl _ | apply Drawn0.step)⟩
  · rw [if_neg c3] at H
    have c3b0 : ((l0.length : Int) == (l1.length : Int)) = false := beq_eq_false_iff_ne.mpr c3
    have c3b1 : ((l0.length : Int) != (l1.length : Int)) = true := bne_iff_ne.mpr c3
    have c3b2 : (l0.length == l1.length) = false := by first | simpa using c3 | (simp at c3 ⊢; omega)
    obtain rfl := Option.some.inj H
    go_enter Try.func20, Try.ntmps20
    go_wp2
    repeat (go_quiet (fail); try go_wp2)
    go_ret
    exact ⟨by first | rfl | (simp; done) | (simp [*]; done), by repeat (first | exact Drawn0.refl _ | apply Drawn0.step)⟩

/-! ### tattlelaw15_awake: function 11 -/
def tattlelaw15_awake.f (k : Nat)  : Option (Bool) := (some (([(⟨(⟨#[97]⟩ : ByteArray), 1⟩ : S52), (⟨(⟨#[98]⟩ : ByteArray), 2⟩ : S52)] : List (S52)) : List (S52))).bind fun y125 => ((plan_Diff.f k y125 (([(⟨(⟨#[97]⟩ : ByteArray), 1⟩ : S52), (⟨(⟨#[99]⟩ : ByteArray), 2⟩ : S52)] : List (S52)))).bind fun bt131 => ((plan_Apply.f k y125 (([(⟨(⟨#[98]⟩ : ByteArray), 1, 2⟩ : S36)] : List (S36)))).bind fun bt138 => ((plan_Diff.f k y125 y125).bind fun bt142 => (if (bt131.1.length : Int) = 2 then ((tattleref15_Same.f k bt131.1 (([(⟨(⟨#[98]⟩ : ByteArray), 2, (-1)⟩ : S36), (⟨(⟨#[99]⟩ : ByteArray), (-1), 2⟩ : S36)] : List (S36)))).bind fun t149 => (if t149 = true then (if bt131.2 = 0 then (if bt138.2 = 8 then (if (bt142.1.length : Int) = 0 then (some (bt142.2 == 0)) else (none)) else (none)) else (none)) else (none))) else (none)))))
theorem tattlelaw15_awake.mono : ∀ k, LeO (tattlelaw15_awake.f k ) (tattlelaw15_awake.f (k + 1) ) := by
  intro  k
  unfold tattlelaw15_awake.f
  repeat' first
      | (with_reducible exact plan_Apply.mono _ _ _)
      | (with_reducible exact plan_Diff.mono _ _ _)
      | (with_reducible exact tattleref15_Same.mono _ _ _)
      | (with_reducible exact LeO.refl _)
      | (with_reducible exact LeO.none _)
      | (with_reducible refine LeO.ite ?_ ?_)
      | (with_reducible refine LeO.bind ?_ (fun _ => ?_))
      | exact plan_Apply.mono _ _ _
      | exact plan_Diff.mono _ _ _
      | exact tattleref15_Same.mono _ _ _
      | exact LeO.none _
      | refine LeO.ite ?_ ?_
      | refine LeO.bind ?_ (fun _ => ?_)
set_option maxHeartbeats 8000000 in
set_option maxRecDepth 100000 in
theorem tattlelaw15_awake.calls (k : Nat)  (r : Bool) (w : World) (h : tattlelaw15_awake.f k  = some r) :
    Calls Try.prog 11 #[] w fun e w' => e = .returned (.bool r) ∧ Below w.heap.size w w' := by
  have hu52 := Try.underlying52
  have hu36 := Try.underlying36
  have HB := Aside0.mk (Below.refl w.heap.size w)
  have H : ((some (([(⟨(⟨#[97]⟩ : ByteArray), 1⟩ : S52), (⟨(⟨#[98]⟩ : ByteArray), 2⟩ : S52)] : List (S52)) : List (S52))).bind fun y125 => ((plan_Diff.f k y125 (([(⟨(⟨#[97]⟩ : ByteArray), 1⟩ : S52), (⟨(⟨#[99]⟩ : ByteArray), 2⟩ : S52)] : List (S52)))).bind fun bt131 => ((plan_Apply.f k y125 (([(⟨(⟨#[98]⟩ : ByteArray), 1, 2⟩ : S36)] : List (S36)))).bind fun bt138 => ((plan_Diff.f k y125 y125).bind fun bt142 => (if (bt131.1.length : Int) = 2 then ((tattleref15_Same.f k bt131.1 (([(⟨(⟨#[98]⟩ : ByteArray), 2, (-1)⟩ : S36), (⟨(⟨#[99]⟩ : ByteArray), (-1), 2⟩ : S36)] : List (S36)))).bind fun t149 => (if t149 = true then (if bt131.2 = 0 then (if bt138.2 = 8 then (if (bt142.1.length : Int) = 0 then (some (bt142.2 == 0)) else (none)) else (none)) else (none)) else (none))) else (none)))))) = some r := h
  clear h
  obtain ⟨y125, hy125⟩ : ∃ y_ : List (S52), y_ = (([(⟨(⟨#[97]⟩ : ByteArray), 1⟩ : S52), (⟨(⟨#[98]⟩ : ByteArray), 2⟩ : S52)] : List (S52))) := ⟨_, rfl⟩
  replace H : ((plan_Diff.f k y125 (([(⟨(⟨#[97]⟩ : ByteArray), 1⟩ : S52), (⟨(⟨#[99]⟩ : ByteArray), 2⟩ : S52)] : List (S52)))).bind fun bt131 => ((plan_Apply.f k y125 (([(⟨(⟨#[98]⟩ : ByteArray), 1, 2⟩ : S36)] : List (S36)))).bind fun bt138 => ((plan_Diff.f k y125 y125).bind fun bt142 => (if (bt131.1.length : Int) = 2 then ((tattleref15_Same.f k bt131.1 (([(⟨(⟨#[98]⟩ : ByteArray), 2, (-1)⟩ : S36), (⟨(⟨#[99]⟩ : ByteArray), (-1), 2⟩ : S36)] : List (S36)))).bind fun t149 => (if t149 = true then (if bt131.2 = 0 then (if bt138.2 = 8 then (if (bt142.1.length : Int) = 0 then (some (bt142.2 == 0)) else (none)) else (none)) else (none)) else (none))) else (none))))) = some r := by first | (rw [hy125]; with_reducible exact H) | (have H2_ := (Option.bind_some _ _).symm.trans H; rw [hy125]; with_reducible exact H2_) | (have H2_ := (Option.bind_some _ _).symm.trans H; with_reducible exact H2_) | with_reducible exact H | (rw [hy125]; exact H) | exact H
  have Ny125 := Aside0.mk hy125
  clear hy125
  obtain ⟨y128, hy128⟩ : ∃ y_ : List (S52), y_ = (([(⟨(⟨#[97]⟩ : ByteArray), 1⟩ : S52), (⟨(⟨#[99]⟩ : ByteArray), 2⟩ : S52)] : List (S52))) := ⟨_, rfl⟩
  replace H : ((plan_Diff.f k y125 y128).bind fun bt131 => ((plan_Apply.f k y125 (([(⟨(⟨#[98]⟩ : ByteArray), 1, 2⟩ : S36)] : List (S36)))).bind fun bt138 => ((plan_Diff.f k y125 y125).bind fun bt142 => (if (bt131.1.length : Int) = 2 then ((tattleref15_Same.f k bt131.1 (([(⟨(⟨#[98]⟩ : ByteArray), 2, (-1)⟩ : S36), (⟨(⟨#[99]⟩ : ByteArray), (-1), 2⟩ : S36)] : List (S36)))).bind fun t149 => (if t149 = true then (if bt131.2 = 0 then (if bt138.2 = 8 then (if (bt142.1.length : Int) = 0 then (some (bt142.2 == 0)) else (none)) else (none)) else (none)) else (none))) else (none))))) = some r := by first | (rw [hy128]; with_reducible exact H) | (have H2_ := (Option.bind_some _ _).symm.trans H; rw [hy128]; with_reducible exact H2_) | (have H2_ := (Option.bind_some _ _).symm.trans H; with_reducible exact H2_) | with_reducible exact H | (rw [hy128]; exact H) | exact H
  have Ny128 := Aside0.mk hy128
  clear hy128
  replace H := Option.bind_eq_some_iff.mp H
  obtain ⟨⟨t131, t132⟩, A10, H⟩ := H
  replace H : ((plan_Apply.f k y125 (([(⟨(⟨#[98]⟩ : ByteArray), 1, 2⟩ : S36)] : List (S36)))).bind fun bt138 => ((plan_Diff.f k y125 y125).bind fun bt142 => (if (t131.length : Int) = 2 then ((tattleref15_Same.f k t131 (([(⟨(⟨#[98]⟩ : ByteArray), 2, (-1)⟩ : S36), (⟨(⟨#[99]⟩ : ByteArray), (-1), 2⟩ : S36)] : List (S36)))).bind fun t149 => (if t149 = true then (if t132 = 0 then (if bt138.2 = 8 then (if (bt142.1.length : Int) = 0 then (some (bt142.2 == 0)) else (none)) else (none)) else (none)) else (none))) else (none)))) = some r := H
  have A1 := Aside0.mk A10
  clear A10
  obtain ⟨y135, hy135⟩ : ∃ y_ : List (S36), y_ = (([(⟨(⟨#[98]⟩ : ByteArray), 1, 2⟩ : S36)] : List (S36))) := ⟨_, rfl⟩
  replace H : ((plan_Apply.f k y125 y135).bind fun bt138 => ((plan_Diff.f k y125 y125).bind fun bt142 => (if (t131.length : Int) = 2 then ((tattleref15_Same.f k t131 (([(⟨(⟨#[98]⟩ : ByteArray), 2, (-1)⟩ : S36), (⟨(⟨#[99]⟩ : ByteArray), (-1), 2⟩ : S36)] : List (S36)))).bind fun t149 => (if t149 = true then (if t132 = 0 then (if bt138.2 = 8 then (if (bt142.1.length : Int) = 0 then (some (bt142.2 == 0)) else (none)) else (none)) else (none)) else (none))) else (none)))) = some r := by first | (rw [hy135]; with_reducible exact H) | (have H2_ := (Option.bind_some _ _).symm.trans H; rw [hy135]; with_reducible exact H2_) | (have H2_ := (Option.bind_some _ _).symm.trans H; with_reducible exact H2_) | with_reducible exact H | (rw [hy135]; exact H) | exact H
  have Ny135 := Aside0.mk hy135
  clear hy135
  replace H := Option.bind_eq_some_iff.mp H
  obtain ⟨⟨t138, t139⟩, A20, H⟩ := H
  replace H : ((plan_Diff.f k y125 y125).bind fun bt142 => (if (t131.length : Int) = 2 then ((tattleref15_Same.f k t131 (([(⟨(⟨#[98]⟩ : ByteArray), 2, (-1)⟩ : S36), (⟨(⟨#[99]⟩ : ByteArray), (-1), 2⟩ : S36)] : List (S36)))).bind fun t149 => (if t149 = true then (if t132 = 0 then (if t139 = 8 then (if (bt142.1.length : Int) = 0 then (some (bt142.2 == 0)) else (none)) else (none)) else (none)) else (none))) else (none))) = some r := H
  have A2 := Aside0.mk A20
  clear A20
  replace H := Option.bind_eq_some_iff.mp H
  obtain ⟨⟨t142, t143⟩, A30, H⟩ := H
  replace H : (if (t131.length : Int) = 2 then ((tattleref15_Same.f k t131 (([(⟨(⟨#[98]⟩ : ByteArray), 2, (-1)⟩ : S36), (⟨(⟨#[99]⟩ : ByteArray), (-1), 2⟩ : S36)] : List (S36)))).bind fun t149 => (if t149 = true then (if t132 = 0 then (if t139 = 8 then (if (t142.length : Int) = 0 then (some (t143 == 0)) else (none)) else (none)) else (none)) else (none))) else (none)) = some r := H
  have A3 := Aside0.mk A30
  clear A30
  by_cases c4 : (t131.length : Int) = 2
  · rw [if_pos c4] at H
    have c4b0 : ((t131.length : Int) == 2) = true := beq_iff_eq.mpr c4
    have c4b1 : ((t131.length : Int) != 2) = false := bne_eq_false_iff_eq.mpr c4
    clear c4
    obtain ⟨y146, hy146⟩ : ∃ y_ : List (S36), y_ = (([(⟨(⟨#[98]⟩ : ByteArray), 2, (-1)⟩ : S36), (⟨(⟨#[99]⟩ : ByteArray), (-1), 2⟩ : S36)] : List (S36))) := ⟨_, rfl⟩
    replace H : ((tattleref15_Same.f k t131 y146).bind fun t149 => (if t149 = true then (if t132 = 0 then (if t139 = 8 then (if (t142.length : Int) = 0 then (some (t143 == 0)) else (none)) else (none)) else (none)) else (none))) = some r := by first | (rw [hy146]; with_reducible exact H) | (have H2_ := (Option.bind_some _ _).symm.trans H; rw [hy146]; with_reducible exact H2_) | (have H2_ := (Option.bind_some _ _).symm.trans H; with_reducible exact H2_) | with_reducible exact H | (rw [hy146]; exact H) | exact H
    have Ny146 := Aside0.mk hy146
    clear hy146
    replace H := Option.bind_eq_some_iff.mp H
    obtain ⟨t149, A50, H⟩ := H
    replace H : (if t149 = true then (if t132 = 0 then (if t139 = 8 then (if (t142.length : Int) = 0 then (some (t143 == 0)) else (none)) else (none)) else (none)) else (none)) = some r := H
    have A5 := Aside0.mk A50
    clear A50
    by_cases c6 : t149 = true
    · subst c6
      have H1 : (if t132 = 0 then (if t139 = 8 then (if (t142.length : Int) = 0 then (some (t143 == 0)) else (none)) else (none)) else (none)) = some r := by rw [if_pos rfl] at H; exact H
      clear H
      have H := H1
      clear H1
      by_cases c7 : t132 = 0
      · rw [if_pos c7] at H
        have c7b0 : (t132 == 0) = true := beq_iff_eq.mpr c7
        have c7b1 : (t132 != 0) = false := bne_eq_false_iff_eq.mpr c7
        clear c7
        by_cases c8 : t139 = 8
        · rw [if_pos c8] at H
          have c8b0 : (t139 == 8) = true := beq_iff_eq.mpr c8
          have c8b1 : (t139 != 8) = false := bne_eq_false_iff_eq.mpr c8
          clear c8
          by_cases c9 : (t142.length : Int) = 0
          · rw [if_pos c9] at H
            have c9b0 : ((t142.length : Int) == 0) = true := beq_iff_eq.mpr c9
            have c9b1 : ((t142.length : Int) != 0) = false := bne_eq_false_iff_eq.mpr c9
            clear c9
            obtain rfl := Option.some.inj H
            go_enter Try.func11, Try.ntmps11
            go_wp2_with (first | ((with_reducible refine gate_dst (N := 11) rfl ?_); (try (refine gate_guard (by rfl) ?_; dsimp only)); refine Kd.R_lit k52 _ 52 ?hg (N := 11) ?hd (xs := ([(⟨(⟨#[97]⟩ : ByteArray), 1⟩ : S52), (⟨(⟨#[98]⟩ : ByteArray), 2⟩ : S52)] : List (S52))) (inner := [.string (⟨#[97]⟩ : ByteArray), .int .i64 1, .string (⟨#[98]⟩ : ByteArray), .int .i64 2]) (ok := fun _ => True) (okp := fun _ => True) ?hr ?hp (fun _ hk => hk) trivial (Below.refl _ _) (Nat.le_refl _) (by simp) ?_; (case hd => rfl); (case hg => rfl); (case hr => first | (go_simp; done) | (go_simp; rfl)); (case hp => exact (Reps.c2 (show Kd.M k52 _ _ _ (⟨(⟨#[97]⟩ : ByteArray), 1⟩ : S52) [.string (⟨#[97]⟩ : ByteArray), .int .i64 1] from (k52_mkM _ _ _ (⟨(⟨#[97]⟩ : ByteArray), 1⟩ : S52) )) (Reps.c2 (show Kd.M k52 _ _ _ (⟨(⟨#[98]⟩ : ByteArray), 2⟩ : S52) [.string (⟨#[98]⟩ : ByteArray), .int .i64 2] from (k52_mkM _ _ _ (⟨(⟨#[98]⟩ : ByteArray), 2⟩ : S52) )) (Reps.none _ _)))); intro v126 w10 ho11 hb hg_ hnew_; clear hg_ hnew_; (first | rw [← Ny125.out] at ho11 | (simp only [Int.reduceToNat] at ho11; rw [← Ny125.out] at ho11)); have n0_ := Aside0.mk (Kd.R_lower ho11 (below_size (by repeat (first | (with_reducible first | exact HB.out | apply below_alloc | apply pw_below_drewN | apply below_drew1) | exact HB.out)))); have n1_ := Aside0.mk (below_step (by repeat (first | (with_reducible first | exact HB.out | apply below_alloc | apply pw_below_drewN | apply below_drew1) | exact HB.out)) hb); clear HB; have HO127 := n0_; have HB := n1_; clear n0_ n1_; clear hb ho11) | ((with_reducible refine gate_dst (N := 14) rfl ?_); (try (refine gate_guard (by rfl) ?_; dsimp only)); refine Kd.R_lit k52 _ 52 ?hg (N := 14) ?hd (xs := ([(⟨(⟨#[97]⟩ : ByteArray), 1⟩ : S52), (⟨(⟨#[99]⟩ : ByteArray), 2⟩ : S52)] : List (S52))) (inner := [.string (⟨#[97]⟩ : ByteArray), .int .i64 1, .string (⟨#[99]⟩ : ByteArray), .int .i64 2]) (ok := fun _ => True) (okp := fun _ => True) ?hr ?hp (fun _ hk => hk) trivial (Below.refl _ _) (Nat.le_refl _) (by simp) ?_; (case hd => rfl); (case hg => rfl); (case hr => first | (go_simp; done) | (go_simp; rfl)); (case hp => exact (Reps.c2 (show Kd.M k52 _ _ _ (⟨(⟨#[97]⟩ : ByteArray), 1⟩ : S52) [.string (⟨#[97]⟩ : ByteArray), .int .i64 1] from (k52_mkM _ _ _ (⟨(⟨#[97]⟩ : ByteArray), 1⟩ : S52) )) (Reps.c2 (show Kd.M k52 _ _ _ (⟨(⟨#[99]⟩ : ByteArray), 2⟩ : S52) [.string (⟨#[99]⟩ : ByteArray), .int .i64 2] from (k52_mkM _ _ _ (⟨(⟨#[99]⟩ : ByteArray), 2⟩ : S52) )) (Reps.none _ _)))); intro v129 w12 ho13 hb hg_ hnew_; clear hg_ hnew_; (first | rw [← Ny128.out] at ho13 | (simp only [Int.reduceToNat] at ho13; rw [← Ny128.out] at ho13)); have n0_ := Aside0.mk (Kd.R_elder' (by (with_reducible repeat (first | apply Kd.R_alloc | apply Kd.R_drewN | apply Kd.R_drew)); exact HO127.out) (Kd.R_base ho13) hb); have n1_ := Aside0.mk (Kd.R_lower (Kd.R_new' ho13 (Kd.R_lt (by (with_reducible repeat (first | apply Kd.R_alloc | apply Kd.R_drewN | apply Kd.R_drew)); exact HO127.out))) (below_size (by repeat (first | (with_reducible first | exact HB.out | apply below_alloc | apply pw_below_drewN | apply below_drew1) | exact HB.out)))); have n2_ := Aside0.mk (below_step (by repeat (first | (with_reducible first | exact HB.out | apply below_alloc | apply pw_below_drewN | apply below_drew1) | exact HB.out)) hb); clear HO127; clear HB; have HO127 := n0_; have HO130 := n1_; have HB := n2_; clear n0_ n1_ n2_; clear hb ho13; obtain ⟨Ao14, co14, eo14⟩ := Kd.R_slice HO127.out; subst eo14; obtain ⟨Ao15, co15, eo15⟩ := Kd.R_slice HO130.out; subst eo15) | ((with_reducible refine gate_callee (f := 10) rfl ?_); refine goesL_ (some 18) rfl rfl Try.func10 (by kernel_rfl) rfl #[.slice Ao14 y125.length co14, .slice Ao15 y128.length co15] rfl (by (try simp only [List.map_toArray, List.map_cons, List.map_nil]); first | done | rfl | (simp only [List.length_drop, List.length_take]; rfl)) ?_; (with_reducible refine (plan_Diff.calls k _ _ y125 _ _ y128 t131 t132 _ ?side1 ?side2 ?side3 ?side4 A1.out).mono ?_); (case side1 => repeat (first | exact (Kd.R_reads' HO127.out).2.2 | (with_reducible refine Kd.C_alloc ?_ _) | (with_reducible refine Kd.C_drewN ?_ _) | (with_reducible refine Kd.C_drew ?_))); (case side2 => exact (Kd.R_reads' HO127.out).2.1); (case side3 => repeat (first | exact (Kd.R_reads' HO130.out).2.2 | (with_reducible refine Kd.C_alloc ?_ _) | (with_reducible refine Kd.C_drewN ?_ _) | (with_reducible refine Kd.C_drew ?_))); (case side4 => exact (Kd.R_reads' HO130.out).2.1); rintro e w16 ⟨v133, rfl, ho0, hb⟩; refine ⟨_, rfl, ?_⟩; have n0_ := Aside0.mk (Kd.R_below (by (with_reducible repeat (first | apply Kd.R_alloc | apply Kd.R_drewN | apply Kd.R_drew)); exact HO127.out) hb); have n1_ := Aside0.mk (Kd.R_below (by (with_reducible repeat (first | apply Kd.R_alloc | apply Kd.R_drewN | apply Kd.R_drew)); exact HO130.out) hb); have n2_ := Aside0.mk (Kd.R_lower ho0 (below_size (by repeat (first | (with_reducible first | exact HB.out | apply below_alloc | apply pw_below_drewN | apply below_drew1) | exact HB.out)))); have n3_ := Aside0.mk (below_step (by repeat (first | (with_reducible first | exact HB.out | apply below_alloc | apply pw_below_drewN | apply below_drew1) | exact HB.out)) hb); clear HO127; clear HO130; clear HB; have HO127 := n0_; have HO130 := n1_; have HO134 := n2_; have HB := n3_; clear n0_ n1_ n2_ n3_; (try clear hb); (try clear hb2); (try clear hk); (try clear hi); (try clear ho0)) | ((with_reducible refine gate_dst (N := 24) rfl ?_); (try (refine gate_guard (by rfl) ?_; dsimp only)); refine Kd.R_lit k36 _ 36 ?hg (N := 24) ?hd (xs := ([(⟨(⟨#[98]⟩ : ByteArray), 1, 2⟩ : S36)] : List (S36))) (inner := [.string (⟨#[98]⟩ : ByteArray), .int .i64 1, .int .i64 2]) (ok := fun _ => True) (okp := fun _ => True) ?hr ?hp (fun _ hk => hk) trivial (Below.refl _ _) (Nat.le_refl _) (by simp) ?_; (case hd => rfl); (case hg => rfl); (case hr => first | (go_simp; done) | (go_simp; rfl)); (case hp => exact (Reps.c3 (show Kd.M k36 _ _ _ (⟨(⟨#[98]⟩ : ByteArray), 1, 2⟩ : S36) [.string (⟨#[98]⟩ : ByteArray), .int .i64 1, .int .i64 2] from (k36_mkM _ _ _ (⟨(⟨#[98]⟩ : ByteArray), 1, 2⟩ : S36) )) (Reps.none _ _))); intro v136 w17 ho18 hb hg_ hnew_; clear hg_ hnew_; (first | rw [← Ny135.out] at ho18 | (simp only [Int.reduceToNat] at ho18; rw [← Ny135.out] at ho18)); have n0_ := Aside0.mk (Kd.R_below (by (with_reducible repeat (first | apply Kd.R_alloc | apply Kd.R_drewN | apply Kd.R_drew)); exact HO127.out) hb); have n1_ := Aside0.mk (Kd.R_below (by (with_reducible repeat (first | apply Kd.R_alloc | apply Kd.R_drewN | apply Kd.R_drew)); exact HO130.out) hb); have n2_ := Aside0.mk (Kd.R_elder' (by (with_reducible repeat (first | apply Kd.R_alloc | apply Kd.R_drewN | apply Kd.R_drew)); exact HO134.out) (Kd.R_base ho18) hb); have n3_ := Aside0.mk (Kd.R_lower (Kd.R_new' ho18 (Kd.R_lt (by (with_reducible repeat (first | apply Kd.R_alloc | apply Kd.R_drewN | apply Kd.R_drew)); exact HO134.out))) (below_size (by repeat (first | (with_reducible first | exact HB.out | apply below_alloc | apply pw_below_drewN | apply below_drew1) | exact HB.out)))); have n4_ := Aside0.mk (below_step (by repeat (first | (with_reducible first | exact HB.out | apply below_alloc | apply pw_below_drewN | apply below_drew1) | exact HB.out)) hb); clear HO127; clear HO130; clear HO134; clear HB; have HO127 := n0_; have HO130 := n1_; have HO134 := n2_; have HO137 := n3_; have HB := n4_; clear n0_ n1_ n2_ n3_ n4_; clear hb ho18; obtain ⟨Ao19, co19, eo19⟩ := Kd.R_slice HO137.out; subst eo19) | ((with_reducible refine gate_callee (f := 13) rfl ?_); refine goesL_ (some 25) rfl rfl Try.func13 (by kernel_rfl) rfl #[.slice Ao14 y125.length co14, .slice Ao19 y135.length co19] rfl (by (try simp only [List.map_toArray, List.map_cons, List.map_nil]); first | done | rfl | (simp only [List.length_drop, List.length_take]; rfl)) ?_; (with_reducible refine (plan_Apply.calls k _ _ y125 _ _ y135 t138 t139 _ ?side1 ?side2 ?side3 ?side4 A2.out).mono ?_); (case side1 => repeat (first | exact (Kd.R_reads' HO127.out).2.2 | (with_reducible refine Kd.C_alloc ?_ _) | (with_reducible refine Kd.C_drewN ?_ _) | (with_reducible refine Kd.C_drew ?_))); (case side2 => exact (Kd.R_reads' HO127.out).2.1); (case side3 => repeat (first | exact (Kd.R_reads' HO137.out).2.2 | (with_reducible refine Kd.C_alloc ?_ _) | (with_reducible refine Kd.C_drewN ?_ _) | (with_reducible refine Kd.C_drew ?_))); (case side4 => exact (Kd.R_reads' HO137.out).2.1); rintro e w20 ⟨v140, rfl, ho0, hb⟩; refine ⟨_, rfl, ?_⟩; have n0_ := Aside0.mk (Kd.R_elder' (by (with_reducible repeat (first | apply Kd.R_alloc | apply Kd.R_drewN | apply Kd.R_drew)); exact HO127.out) (Kd.R_base ho0) hb); have n1_ := Aside0.mk (Kd.R_elder' (by (with_reducible repeat (first | apply Kd.R_alloc | apply Kd.R_drewN | apply Kd.R_drew)); exact HO130.out) (Kd.R_base ho0) hb); have n2_ := Aside0.mk (Kd.R_below (by (with_reducible repeat (first | apply Kd.R_alloc | apply Kd.R_drewN | apply Kd.R_drew)); exact HO134.out) hb); have n3_ := Aside0.mk (Kd.R_below (by (with_reducible repeat (first | apply Kd.R_alloc | apply Kd.R_drewN | apply Kd.R_drew)); exact HO137.out) hb); have n4_ := Aside0.mk (Kd.R_lower (Kd.R_new' (Kd.R_new' ho0 (Kd.R_lt (by (with_reducible repeat (first | apply Kd.R_alloc | apply Kd.R_drewN | apply Kd.R_drew)); exact HO127.out))) (Kd.R_lt (by (with_reducible repeat (first | apply Kd.R_alloc | apply Kd.R_drewN | apply Kd.R_drew)); exact HO130.out))) (below_size (by repeat (first | (with_reducible first | exact HB.out | apply below_alloc | apply pw_below_drewN | apply below_drew1) | exact HB.out)))); have n5_ := Aside0.mk (below_step (by repeat (first | (with_reducible first | exact HB.out | apply below_alloc | apply pw_below_drewN | apply below_drew1) | exact HB.out)) hb); clear HO127; clear HO130; clear HO134; clear HO137; clear HB; have HO127 := n0_; have HO130 := n1_; have HO134 := n2_; have HO137 := n3_; have HO141 := n4_; have HB := n5_; clear n0_ n1_ n2_ n3_ n4_ n5_; (try clear hb); (try clear hb2); (try clear hk); (try clear hi); (try clear ho0)) | ((with_reducible refine gate_callee (f := 10) rfl ?_); refine goesL_ (some 31) rfl rfl Try.func10 (by kernel_rfl) rfl #[.slice Ao14 y125.length co14, .slice Ao14 y125.length co14] rfl (by (try simp only [List.map_toArray, List.map_cons, List.map_nil]); first | done | rfl | (simp only [List.length_drop, List.length_take]; rfl)) ?_; (with_reducible refine (plan_Diff.calls k _ _ y125 _ _ y125 t142 t143 _ ?side1 ?side2 ?side3 ?side4 A3.out).mono ?_); (case side1 => repeat (first | exact (Kd.R_reads' HO127.out).2.2 | (with_reducible refine Kd.C_alloc ?_ _) | (with_reducible refine Kd.C_drewN ?_ _) | (with_reducible refine Kd.C_drew ?_))); (case side2 => exact (Kd.R_reads' HO127.out).2.1); (case side3 => repeat (first | exact (Kd.R_reads' HO127.out).2.2 | (with_reducible refine Kd.C_alloc ?_ _) | (with_reducible refine Kd.C_drewN ?_ _) | (with_reducible refine Kd.C_drew ?_))); (case side4 => exact (Kd.R_reads' HO127.out).2.1); rintro e w21 ⟨v144, rfl, ho0, hb⟩; refine ⟨_, rfl, ?_⟩; have n0_ := Aside0.mk (Kd.R_below (by (with_reducible repeat (first | apply Kd.R_alloc | apply Kd.R_drewN | apply Kd.R_drew)); exact HO127.out) hb); have n1_ := Aside0.mk (Kd.R_below (by (with_reducible repeat (first | apply Kd.R_alloc | apply Kd.R_drewN | apply Kd.R_drew)); exact HO130.out) hb); have n2_ := Aside0.mk (Kd.R_elder' (by (with_reducible repeat (first | apply Kd.R_alloc | apply Kd.R_drewN | apply Kd.R_drew)); exact HO134.out) (Kd.R_base ho0) hb); have n3_ := Aside0.mk (Kd.R_elder' (by (with_reducible repeat (first | apply Kd.R_alloc | apply Kd.R_drewN | apply Kd.R_drew)); exact HO137.out) (Kd.R_base ho0) hb); have n4_ := Aside0.mk (Kd.R_below (by (with_reducible repeat (first | apply Kd.R_alloc | apply Kd.R_drewN | apply Kd.R_drew)); exact HO141.out) hb); have n5_ := Aside0.mk (Kd.R_lower (Kd.R_new' (Kd.R_new' ho0 (Kd.R_lt (by (with_reducible repeat (first | apply Kd.R_alloc | apply Kd.R_drewN | apply Kd.R_drew)); exact HO134.out))) (Kd.R_lt (by (with_reducible repeat (first | apply Kd.R_alloc | apply Kd.R_drewN | apply Kd.R_drew)); exact HO137.out))) (below_size (by repeat (first | (with_reducible first | exact HB.out | apply below_alloc | apply pw_below_drewN | apply below_drew1) | exact HB.out)))); have n6_ := Aside0.mk (below_step (by repeat (first | (with_reducible first | exact HB.out | apply below_alloc | apply pw_below_drewN | apply below_drew1) | exact HB.out)) hb); clear HO127; clear HO130; clear HO134; clear HO137; clear HO141; clear HB; have HO127 := n0_; have HO130 := n1_; have HO134 := n2_; have HO137 := n3_; have HO141 := n4_; have HO145 := n5_; have HB := n6_; clear n0_ n1_ n2_ n3_ n4_ n5_ n6_; (try clear hb); (try clear hb2); (try clear hk); (try clear hi); (try clear ho0); obtain ⟨Ao22, co22, eo22⟩ := Kd.R_slice HO134.out; subst eo22) | ((with_reducible refine gate_dst (N := 41) rfl ?_); (try (refine gate_guard (by rfl) ?_; dsimp only)); refine Kd.R_lit k36 _ 36 ?hg (N := 41) ?hd (xs := ([(⟨(⟨#[98]⟩ : ByteArray), 2, (-1)⟩ : S36), (⟨(⟨#[99]⟩ : ByteArray), (-1), 2⟩ : S36)] : List (S36))) (inner := [.string (⟨#[98]⟩ : ByteArray), .int .i64 2, .int .i64 (-1), .string (⟨#[99]⟩ : ByteArray), .int .i64 (-1), .int .i64 2]) (ok := fun _ => True) (okp := fun _ => True) ?hr ?hp (fun _ hk => hk) trivial (Below.refl _ _) (Nat.le_refl _) (by simp) ?_; (case hd => rfl); (case hg => rfl); (case hr => first | (go_simp; done) | (go_simp; rfl)); (case hp => exact (Reps.c3 (show Kd.M k36 _ _ _ (⟨(⟨#[98]⟩ : ByteArray), 2, (-1)⟩ : S36) [.string (⟨#[98]⟩ : ByteArray), .int .i64 2, .int .i64 (-1)] from (k36_mkM _ _ _ (⟨(⟨#[98]⟩ : ByteArray), 2, (-1)⟩ : S36) )) (Reps.c3 (show Kd.M k36 _ _ _ (⟨(⟨#[99]⟩ : ByteArray), (-1), 2⟩ : S36) [.string (⟨#[99]⟩ : ByteArray), .int .i64 (-1), .int .i64 2] from (k36_mkM _ _ _ (⟨(⟨#[99]⟩ : ByteArray), (-1), 2⟩ : S36) )) (Reps.none _ _)))); intro v147 w23 ho24 hb hg_ hnew_; clear hg_ hnew_; (first | rw [← Ny146.out] at ho24 | (simp only [Int.reduceToNat] at ho24; rw [← Ny146.out] at ho24)); have n0_ := Aside0.mk (Kd.R_below (by (with_reducible repeat (first | apply Kd.R_alloc | apply Kd.R_drewN | apply Kd.R_drew)); exact HO127.out) hb); have n1_ := Aside0.mk (Kd.R_below (by (with_reducible repeat (first | apply Kd.R_alloc | apply Kd.R_drewN | apply Kd.R_drew)); exact HO130.out) hb); have n2_ := Aside0.mk (Kd.R_elder' (by (with_reducible repeat (first | apply Kd.R_alloc | apply Kd.R_drewN | apply Kd.R_drew)); exact HO134.out) (Kd.R_base ho24) hb); have n3_ := Aside0.mk (Kd.R_elder' (by (with_reducible repeat (first | apply Kd.R_alloc | apply Kd.R_drewN | apply Kd.R_drew)); exact HO137.out) (Kd.R_base ho24) hb); have n4_ := Aside0.mk (Kd.R_below (by (with_reducible repeat (first | apply Kd.R_alloc | apply Kd.R_drewN | apply Kd.R_drew)); exact HO141.out) hb); have n5_ := Aside0.mk (Kd.R_elder' (by (with_reducible repeat (first | apply Kd.R_alloc | apply Kd.R_drewN | apply Kd.R_drew)); exact HO145.out) (Kd.R_base ho24) hb); have n6_ := Aside0.mk (Kd.R_lower (Kd.R_new' (Kd.R_new' (Kd.R_new' ho24 (Kd.R_lt (by (with_reducible repeat (first | apply Kd.R_alloc | apply Kd.R_drewN | apply Kd.R_drew)); exact HO134.out))) (Kd.R_lt (by (with_reducible repeat (first | apply Kd.R_alloc | apply Kd.R_drewN | apply Kd.R_drew)); exact HO137.out))) (Kd.R_lt (by (with_reducible repeat (first | apply Kd.R_alloc | apply Kd.R_drewN | apply Kd.R_drew)); exact HO145.out))) (below_size (by repeat (first | (with_reducible first | exact HB.out | apply below_alloc | apply pw_below_drewN | apply below_drew1) | exact HB.out)))); have n7_ := Aside0.mk (below_step (by repeat (first | (with_reducible first | exact HB.out | apply below_alloc | apply pw_below_drewN | apply below_drew1) | exact HB.out)) hb); clear HO127; clear HO130; clear HO134; clear HO137; clear HO141; clear HO145; clear HB; have HO127 := n0_; have HO130 := n1_; have HO134 := n2_; have HO137 := n3_; have HO141 := n4_; have HO145 := n5_; have HO148 := n6_; have HB := n7_; clear n0_ n1_ n2_ n3_ n4_ n5_ n6_ n7_; clear hb ho24; obtain ⟨Ao25, co25, eo25⟩ := Kd.R_slice HO148.out; subst eo25) | (go_at_call 20; (with_reducible refine (tattleref15_Same.calls k _ _ t131 _ _ y146 true _ ?side1 ?side2 ?side3 ?side4 A5.out).mono ?_); (case side1 => repeat (first | exact (Kd.R_reads' HO134.out).2.2 | (with_reducible refine Kd.C_alloc ?_ _) | (with_reducible refine Kd.C_drewN ?_ _) | (with_reducible refine Kd.C_drew ?_))); (case side2 => exact (Kd.R_reads' HO134.out).2.1); (case side3 => repeat (first | exact (Kd.R_reads' HO148.out).2.2 | (with_reducible refine Kd.C_alloc ?_ _) | (with_reducible refine Kd.C_drewN ?_ _) | (with_reducible refine Kd.C_drew ?_))); (case side4 => exact (Kd.R_reads' HO148.out).2.1); rintro e w' ⟨rfl, ⟨nd, rfl⟩⟩; obtain ⟨Ao26, co26, eo26⟩ := Kd.R_slice HO145.out; subst eo26))
            go_ret
            exact ⟨by first | rfl | (simp [errW_none, errW_some] <;> rfl) | (simp [*, errW_none, errW_some] <;> rfl), by repeat (first | (with_reducible first | exact HB.out | apply below_alloc | apply pw_below_drewN | apply below_drew1) | exact HB.out)⟩
          · rw [if_neg c9] at H
            exact absurd H (by simp)
        · rw [if_neg c8] at H
          exact absurd H (by simp)
      · rw [if_neg c7] at H
        exact absurd H (by simp)
    · replace c6 := Bool.eq_false_iff.mpr c6
      subst c6
      have H1 : (none) = some r := by rw [if_neg (show ¬ (false = true) by decide)] at H; exact H
      clear H
      have H := H1
      clear H1
      exact absurd H (by simp)
  · rw [if_neg c4] at H
    exact absurd H (by simp)

end Go.Proofs.Ythbebfjoennmfaa.PPlanTells
