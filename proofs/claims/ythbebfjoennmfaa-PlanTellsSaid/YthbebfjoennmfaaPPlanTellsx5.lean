-- Written by a program of this session (see NOTES.md) out of the print of Lean's own loaded functions; Lean checks it.
import Derived.Test.YthbebfjoennmfaaPPlanTellsx0
import Derived.Test.YthbebfjoennmfaaPPlanTellsx3
import Derived.Test.YthbebfjoennmfaaPPlanTellsx4
namespace Go.Proofs.Ythbebfjoennmfaa.PPlanTells
open Go.RowKit Go.Proofs.YthbebfjoennmfaaW.PrintWords Go.Proofs.YthbebfjoennmfaaW.PrintLast Go.Proofs.YthbebfjoennmfaaW.PrintMore
attribute [local go_sem] max2_int min2_int max_two min_two max_three min_three max_four min_four   -- for this text's walks alone
set_option linter.unusedVariables false
set_option linter.unusedSimpArgs false

/-! ### plan_Diff: function 10 -/
attribute [local go_sem] Oper.semAt_some
def moved (m : S36) : Bool := decide (m.f1 ≠ m.f2)
theorem moved_no {m : S36} (h : m.f1 = m.f2) : moved m = false := by simp [moved, h]
theorem moved_yes {m : S36} (h : ¬ m.f1 = m.f2) : moved m = true := by simp [moved, h]
def diffL (l0 l1 : List S52) : List S36 := (bothL (l0.length + l1.length + 1) l0 l1).filter moved
def plan_Diff.f (k : Nat) (l0 l1 : List S52) : Option (List S36 × Int) := if l0.length + l1.length < 1000000 then ((load_Check.f k l0).bind fun t1 => if t1 = 0 then ((load_Check.f k l1).bind fun t2 => if t2 = 0 then (if (diffL l0 l1).length > 100 then some ([], 9) else some (diffL l0 l1, 0)) else some ([], t2)) else some ([], t1)) else none
theorem plan_Diff.mono : ∀ a0 a1 k, LeO (plan_Diff.f k a0 a1) (plan_Diff.f (k + 1) a0 a1) := by
  intro a0 a1 k
  unfold plan_Diff.f
  exact LeO.ite (LeO.bind (load_Check.mono _ _) fun _ => LeO.ite (LeO.bind (load_Check.mono _ _) fun _ => LeO.refl _) (LeO.refl _)) (LeO.refl _)
set_option maxHeartbeats 2000000 in
set_option maxRecDepth 100000 in
theorem plan_Diff.calls (k : Nat) (A0 : Option Addr) (c0 : Nat) (l0 : List S52) (A1 : Option Addr) (c1 : Nat) (l1 : List S52) (r1 : List S36) (r2 : Int) (w : World) (hr0 : Kd.C k52 w A0 l0.length l0) (hc0 : l0.length ≤ c0) (hr1 : Kd.C k52 w A1 l1.length l1) (hc1 : l1.length ≤ c1) (h : plan_Diff.f k l0 l1 = some (r1, r2)) :
    Calls Try.prog 10 #[.slice A0 l0.length c0, .slice A1 l1.length c1] w fun e w' => ∃ v0_ : Value, e = .returned (.tuple #[v0_, .int .i64 r2]) ∧ Kd.R k36 36 w' w.heap.size (fun _ => True) v0_ r1 ∧ Below w.heap.size w w' := by
  unfold plan_Diff.f at h
  by_cases hsmall : l0.length + l1.length < 1000000
  · rw [if_pos hsmall] at h
    obtain ⟨t1, hA, h⟩ := Option.bind_eq_some_iff.mp h
    have HR0 := Aside0.mk hr0
    have HR1 := Aside0.mk hr1
    have HC0 := Aside0.mk hc0
    have HC1 := Aside0.mk hc1
    have HSM := Aside0.mk hsmall
    have H1 := Aside0.mk hA
    have HB := Aside0.mk (Below.refl w.heap.size w)
    clear hr0 hr1 hc0 hc1 hsmall hA
    by_cases e1 : t1 = 0
    · subst e1
      rw [if_pos rfl] at h
      obtain ⟨t2, hA, h⟩ := Option.bind_eq_some_iff.mp h
      have H2 := Aside0.mk hA
      clear hA
      by_cases e2 : t2 = 0
      · subst e2
        rw [if_pos rfl] at h
        have H := Aside0.mk h
        clear h
        refine (callsIn_wide (n := 0)).1 ?_
        refine callsIn_of_wp_marks Try.func10 rfl trivial ?_
        simp only [Try.ntmps10, List.size_toArray, List.length_cons, List.length_nil, Nat.reduceAdd, Nat.reduceSub, Array.replicate_succ, Array.replicate_zero, List.push_toArray, List.append_toArray, List.nil_append, List.cons_append]
        gi_wp2_with (fail)
        refine ⟨trivial, rfl, (callsIn_wide.2 (load_Check.calls k A0 c0 l0 0 w HR0.out HC0.out H1.out)).mono ?_⟩
        rintro e w1 ⟨rfl, hb1⟩
        have HB1 := Aside0.mk hb1
        clear hb1
        gi_wp2_with (fail)
        refine ⟨trivial, rfl, (callsIn_wide.2 (load_Check.calls k A1 c1 l1 0 w1 (Kd.C_below HR1.out HB1.out) HC1.out H2.out)).mono ?_⟩
        rintro e w2 ⟨rfl, hb2⟩
        have HB2 := Aside0.mk (below_step HB1.out hb2)
        clear hb2 HB1 HB
        clear w1
        gi_wp2_with (fail)
        refine ⟨trivial, rfl, (callsIn_wide.2 (both_calls _ _ _ _ _ _ _)).mono ?_⟩
        rintro e w4 ⟨rfl, hw4⟩
        simp only [World.size_alloc] at hw4 ⊢
        obtain ⟨O, hO⟩ : ∃ O, O = w2.heap.size := ⟨_, rfl⟩
        have bO : w4.heap[O]? = some (.cells #[.slice none 0 0] 24 (0, 0)) := by rw [hw4, hO]; exact blk_alloc (blk_alloc (blk_new _ _) _) _
        have bA : w4.heap[O + 1]? = some (.cells #[.slice A0 l0.length c0] 22 (0, 0)) := by
          rw [hw4, hO]; refine blk_alloc ?_ _
          have := blk_new (w2.alloc (.cells #[.slice none 0 0] 24)) (.cells #[.slice A0 l0.length c0] 22)
          rwa [World.size_alloc] at this
        have bB : w4.heap[O + 1 + 1]? = some (.cells #[.slice A1 l1.length c1] 22 (0, 0)) := by
          rw [hw4, hO]
          have := blk_new ((w2.alloc (.cells #[.slice none 0 0] 24)).alloc (.cells #[.slice A0 l0.length c0] 22)) (.cells #[.slice A1 l1.length c1] 22)
          rwa [World.size_alloc, World.size_alloc] at this
        have hsz : w4.heap.size = O + 3 := by rw [hw4, hO]; simp
        have HB4 : Aside0 (Below w.heap.size w w4) := ⟨by rw [hw4]; exact below_alloc (below_alloc (below_alloc HB2.out _) _) _⟩
        have hge : w.heap.size ≤ O := by rw [hO]; exact HB2.out.size
        rw [← hO]
        clear hO hw4 HB2
        have hS : BothSt (fun k => k < w.heap.size) (O + 1) (O + 1 + 1) w4 l0 l1 :=
          ⟨A0, A1, c0, c1, bA, bB, HC0.out, HC1.out, Kd.F_step (Kd.C_F heap52 HR0.out) (fun k hk _ => HB4.out.block k hk), Kd.F_step (Kd.C_F heap52 HR1.out) (fun k hk _ => HB4.out.block k hk)⟩
        have BO := Aside0.mk bO
        have HS := Aside0.mk hS
        clear bO bA bB hS
        have hsv : ∀ i, offB (O + 1) (O + 1 + 1) w4 i → O < i := fun i hi => by rcases hi with h | h | h | h <;> omega
        have HSV := Aside0.mk hsv
        have HSZ := Aside0.mk hsz
        have HGE := Aside0.mk hge
        clear hsv hsz hge
        gi_wp2_with (fail)
        refine wpIn_range_both (A := O + 1) (B := O + 1 + 1) (Ok := fun k => k < w.heap.size) rfl (by omega) (by have := HGE.out; omega) (by have := HGE.out; omega) (fun k hk => by have := HGE.out; have := HSZ.out; omega) HS.out (l0.length + l1.length + 1) (by omega)
          (fun pre W => ∃ v, W.heap[O]? = some (.cells #[v] 24 (0, 0)) ∧ Kd.R k36 36 W w.heap.size (fun i => i ≠ O ∧ ¬ offB (O + 1) (O + 1 + 1) w4 i) v (pre.filter moved) ∧ Below w.heap.size w W)
          (fun _ _ => False) ?hI (fun _ _ _ h _ => h) ?h0 ?hround ?hdone (fun _ _ _ h _ => h.elim)
        case hI =>
          rintro pre W W' ⟨v, b, R, hb⟩ ho
          have hnO : ¬ offB (O + 1) (O + 1 + 1) w4 O := fun h => by have := HSV.out O h; omega
          exact ⟨v, blk_kept b ho.kept hnO, Kd.R_kept R ho.kept (fun k hk => hk.2), ho.below hb (fun i hi => by have := HSV.out i hi; have := HGE.out; omega)⟩
        case h0 => exact ⟨_, BO.out, Kd.R_nil _ _ _ _ _, HB4.out⟩
        case hround =>
          rintro l pre x W hI hlen hWs
          have HI := Aside0.mk hI
          have HLEN := Aside0.mk hlen
          have HWS := Aside0.mk hWs
          clear hI hlen hWs
          dsimp only [moveV]
          gi_wp2
          refine ⟨_, rfl, ?_⟩
          rintro W2 ho hI2 hm
          obtain ⟨m, hmm⟩ : ∃ m, m = W.heap.size := ⟨_, rfl⟩
          rw [← hmm] at hm ⊢
          have hlt : m < W2.heap.size := blk_lt hm
          have hml : w4.heap.size + 1 < m := by have := HWS.out; omega
          have BM := Aside0.mk hm
          have HML := Aside0.mk hml
          clear hlt hml ho hmm
          obtain ⟨v, b, R, hb⟩ := hI2
          obtain ⟨Av, cv, rfl⟩ := Kd.R_slice R
          have RR := Aside0.mk R
          have BB := Aside0.mk b
          have HBW := Aside0.mk hb
          clear R hb HI HB4 BO HS
          have m0 : W2.cell? ⟨m, 0, none⟩ = some (.string x.f0) := (blk_cell BM.out 0).trans rfl
          have m1 : W2.cell? ⟨m, 1, none⟩ = some (.int .i64 x.f1) := (blk_cell BM.out 1).trans rfl
          have m2 : W2.cell? ⟨m, 2, none⟩ = some (.int .i64 x.f2) := (blk_cell BM.out 2).trans rfl
          have o0 : W2.cell? ⟨O, 0, none⟩ = some (.slice Av (pre.filter moved).length cv) := (blk_cell BB.out 0).trans rfl
          clear hm b
          by_cases hx : x.f1 = x.f2
          · have hx0 : (x.f1 != x.f2) = false := bne_eq_false_iff_eq.mpr hx
            have HX := Aside0.mk hx
            clear hx
            gi_wp2
            refine ⟨⟨_, BB.out, ?_, HBW.out⟩, fun _ _ _ => rfl⟩
            have e1 : (pre ++ [x]).filter moved = pre.filter moved := by rw [List.filter_append, List.filter_cons, moved_no HX.out]; simp
            rw [e1]
            exact RR.out
          · have hx0 : (x.f1 != x.f2) = true := bne_iff_ne.mpr hx
            have e1 : (pre ++ [x]).filter moved = pre.filter moved ++ [x] := by rw [List.filter_append, List.filter_cons, moved_yes hx]; simp
            have E1 := Aside0.mk e1
            clear hx e1
            gi_wp2_with (gi_at_builtin; refine R_appendIn k36 (w0 := w) w.heap.size rfl (.tmp 29) (.tmp 31) 24 36 _ 32 rfl Try.underlying24 info36 rfl (by decide) (by decide) (.slice Av (pre.filter moved).length cv) (pre.filter moved) x [.string x.f0, .int .i64 x.f1, .int .i64 x.f2] (fun i => i ≠ O ∧ ¬ offB (O + 1) (O + 1 + 1) w4 i) rfl rfl (k36_mkM _ _ _ x) ?fresh RR.out HBW.out HBW.out.size ?hl ?_; (case fresh => intro i hi; have h1 := HML.out; have h2 := blk_lt BM.out; have h3 := HSZ.out; exact ⟨by omega, fun h => by rcases h with h | h | h | h <;> omega⟩); (case hl => have h1 := HLEN.out.length_le; rw [List.length_append, List.length_singleton] at h1; have h2 : (pre.filter moved).length ≤ pre.length := List.length_filter_le _ _; have h3 := bothL_length (l0.length + l1.length + 1) l0 l1; have h4 := HSM.out; omega); intro v1 w1 hR hB hg; obtain ⟨A1', c1', rfl⟩ := Kd.R_slice hR; have HR2 := Aside0.mk hR; have HB5 := Aside0.mk hB; have HG := Aside0.mk hg; have bO1 : Aside0 (w1.heap[O]? = some (.cells #[.slice Av (pre.filter moved).length cv] 24 (0, 0))) := ⟨blk_grown BB.out hg (fun h => (R_own_ok RR.out O h.symm).1.1 rfl)⟩; have o1 : w1.cell? ⟨O, 0, none⟩ = some (.slice Av (pre.filter moved).length cv) := (blk_cell bO1.out 0).trans rfl; have of1 : w1.frozen? ⟨O, 0, none⟩ = false := blk_frozen bO1.out 0; clear hR hB hg)
            refine ⟨⟨_, blk_put bO1.out 0 _ rfl, ?_, HB5.out.setCell (p := ⟨O, 0, none⟩) HGE.out _⟩, ?_⟩
            · rw [E1.out]
              have h6 := HR2.out
              rw [show (pre.filter moved ++ [x]).length = (pre.filter moved).length + 1 by simp] at h6
              exact Kd.R_far h6 (p := ⟨O, 0, none⟩) (fun i hi => hi.1) _
            · intro i hi hlt
              have hne : i ≠ O := fun e => by
                rcases hi with h | h
                · have := HGE.out; omega
                · have := HSV.out i h; omega
              rw [Below.heap_setCell _ _ _ _ hne]
              refine HG.out.block i hlt (fun h => ?_)
              have h5 := R_own_ok RR.out i h.symm
              rcases hi with h | h
              · omega
              · exact h5.1.2 h
        case hdone =>
          rintro W ⟨v, b, R, hb⟩ hK
          obtain ⟨Av, cv, rfl⟩ := Kd.R_slice R
          have hD : diffL l0 l1 = (bothL (l0.length + l1.length + 1) l0 l1).filter moved := rfl
          rw [← hD] at R b
          have RR := Aside0.mk R
          have BB := Aside0.mk b
          have HBW := Aside0.mk hb
          have HK := Aside0.mk hK
          have o0 : W.cell? ⟨O, 0, none⟩ = some (.slice Av (diffL l0 l1).length cv) := (blk_cell b 0).trans rfl
          have fin : Aside0 (Below w.heap.size w (W.putObj w4.heap.size (.deferred none)) ∧ Kd.R k36 36 (W.putObj w4.heap.size (.deferred none)) w.heap.size (fun _ => True) (.slice Av (diffL l0 l1).length cv) (diffL l0 l1)) :=
            ⟨hb.trans ⟨rfl, rfl, rfl, by simp, fun i hi => World.putObj_heap_other (by have := HGE.out; have := HSZ.out; omega)⟩,
              Kd.R_mono (Kd.R_step R (fun i hi _ => World.putObj_heap_other (fun e => hi.2 (.inr (.inr (.inl e)))))) (fun _ _ => trivial)⟩
          have H' := H.out
          clear hD R b hb hK HB4 BO HS
          by_cases h100 : (diffL l0 l1).length > 100
          · rw [if_pos h100] at H'
            have HF := Aside0.mk H'
            have hd : decide ((100 : Int) < ((diffL l0 l1).length : Int)) = true := decide_eq_true (by omega)
            clear H' h100
            gi_wp2
            refine ⟨by simp, .inl ⟨_, _, rfl, run_takeDeferred HK.out, ?_⟩⟩
            have hf := HF.out
            simp only [Option.some.injEq, Prod.mk.injEq] at hf
            obtain ⟨rfl, rfl⟩ := hf
            exact ⟨_, results_tmp2 rfl _ _ _, _, rfl, Kd.R_nil _ _ _ _ _, fin.out.1⟩
          · rw [if_neg h100] at H'
            have HF := Aside0.mk H'
            have hd : decide ((100 : Int) < ((diffL l0 l1).length : Int)) = false := decide_eq_false (by omega)
            clear H' h100
            gi_wp2
            refine ⟨by simp, .inl ⟨_, _, rfl, run_takeDeferred HK.out, ?_⟩⟩
            have hf := HF.out
            simp only [Option.some.injEq, Prod.mk.injEq] at hf
            obtain ⟨rfl, rfl⟩ := hf
            exact ⟨_, results_tmp2 rfl _ _ _, _, rfl, fin.out.2, fin.out.1⟩
      · rw [if_neg e2] at h
        simp only [Option.some.injEq, Prod.mk.injEq] at h
        obtain ⟨rfl, rfl⟩ := h
        have b1 : (t2 != 0) = true := bne_iff_ne.mpr e2
        clear e2
        go_enter Try.func10, Try.ntmps10
        go_wp2_with (first | (go_at_call 22; (with_reducible refine (load_Check.calls k A0 c0 l0 0 w HR0.out HC0.out H1.out).mono ?_); rintro e w1 ⟨rfl, hb1⟩; have HB1 := Aside0.mk hb1; clear hb1 H1) | (go_at_call 22; refine (load_Check.calls k A1 c1 l1 t2 w1 (Kd.C_below HR1.out HB1.out) HC1.out H2.out).mono ?_; rintro e w2 ⟨rfl, hb2⟩; have HB2 := Aside0.mk (below_step HB1.out hb2); clear hb2))
        go_ret2
        exact ⟨_, rfl, Kd.R_nil _ _ _ _ _, HB2.out⟩
    · rw [if_neg e1] at h
      simp only [Option.some.injEq, Prod.mk.injEq] at h
      obtain ⟨rfl, rfl⟩ := h
      have b1 : (t1 != 0) = true := bne_iff_ne.mpr e1
      clear e1
      go_enter Try.func10, Try.ntmps10
      go_wp2_with (go_at_call 22; refine (load_Check.calls k A0 c0 l0 t1 w HR0.out HC0.out H1.out).mono ?_; rintro e w1 ⟨rfl, hb1⟩; have HB1 := Aside0.mk hb1; clear hb1)
      go_ret2
      exact ⟨_, rfl, Kd.R_nil _ _ _ _ _, HB1.out⟩
  · rw [if_neg hsmall] at h
    cases h

/-! ### plan_node: function 24 -/
def plan_node.f (a0 : Int) : Option (Bool) := if a0 ≥ (-1) then (some (decide (a0 < 64))) else (some false)
set_option maxHeartbeats 8000000 in
set_option maxRecDepth 100000 in
theorem plan_node.calls (a0 : Int) (r : Bool) (w : World) (h : plan_node.f a0 = some r) :
    Calls Try.prog 24 #[.int .i64 a0] w fun e w' => e = .returned (.bool r) ∧ Drawn0 w w' := by
  have H : (if a0 ≥ (-1) then (some (decide (a0 < 64))) else (some false)) = some r := h
  clear h
  by_cases c2 : a0 ≥ (-1)
  · rw [if_pos c2] at H
    have c2b0 : decide ((-1) ≤ a0) = true := decide_eq_true c2
    clear c2
    obtain rfl := Option.some.inj H
    go_enter Try.func24, Try.ntmps24
    go_wp2
    go_ret
    exact ⟨by first | rfl | (simp; done) | (simp [*]; done), by repeat (first | exact Drawn0.refl _ | apply Drawn0.step)⟩
  · rw [if_neg c2] at H
    have c2b0 : decide ((-1) ≤ a0) = false := decide_eq_false c2
    clear c2
    obtain rfl := Option.some.inj H
    go_enter Try.func24, Try.ntmps24
    go_wp2
    go_ret
    exact ⟨by first | rfl | (simp; done) | (simp [*]; done), by repeat (first | exact Drawn0.refl _ | apply Drawn0.step)⟩

/-! ### plan_Check: function 16 -/
def plan_Check.l0 : Nat → List ByteArray → List (S36) → Int → Int → Option (Int)
  | 0, _, _, _, _ => none
  | k + 1, x3, x6, x7, x8 => if x8 < x7 then (if 0 ≤ x8 then (if x8 < (x6.length : Int) then ((plan_node.f ((rd_T36 x6 x8).f1)).bind fun t118 => (if t118 = true then ((plan_node.f ((rd_T36 x6 x8).f2)).bind fun t119 => (if t119 = true then (if ((rd_T36 x6 x8).f1) = ((rd_T36 x6 x8).f2) then (some 1) else (if x3.length < 8796093022208 then (plan_Check.l0 k (x3 ++ [(rd_T36 x6 x8).f0]) x6 x7 (wrap64 (x8 + 1))) else (none))) else (some 1))) else (some 1))) else (none)) else (none)) else ((load_Tasks.f k x3).bind fun t115 => (some t115))
def plan_Check.f (k : Nat) (l0 : List (S36)) : Option (Int) := plan_Check.l0 k ([] : List ByteArray) l0 (l0.length : Int) 0
theorem plan_Check.mono_l : ∀ k, (∀ y0 y1 y2 y3, LeO (plan_Check.l0 k y0 y1 y2 y3) (plan_Check.l0 (k + 1) y0 y1 y2 y3))
  | 0 => fun _ _ _ _ r h => by simp [plan_Check.l0] at h
  | k + 1 => by
    have ih0 := plan_Check.mono_l k
    · intro y0 y1 y2 y3
      unfold plan_Check.l0
      repeat' first
      | (with_reducible exact ih0 _ _ _ _)
      | (with_reducible exact load_Tasks.mono _ _)
      | (with_reducible exact LeO.refl _)
      | (with_reducible exact LeO.none _)
      | (with_reducible refine LeO.ite ?_ ?_)
      | (with_reducible refine LeO.bind ?_ (fun _ => ?_))
      | exact ih0 _ _ _ _
      | exact load_Tasks.mono _ _
      | exact LeO.none _
      | refine LeO.ite ?_ ?_
      | refine LeO.bind ?_ (fun _ => ?_)
theorem plan_Check.mono : ∀ a0 k, LeO (plan_Check.f k a0) (plan_Check.f (k + 1) a0) := by
  intro a0 k
  have ih0 := plan_Check.mono_l k
  unfold plan_Check.f
  repeat' first
      | (with_reducible exact ih0 _ _ _ _)
      | (with_reducible exact load_Tasks.mono _ _)
      | (with_reducible exact LeO.refl _)
      | (with_reducible exact LeO.none _)
      | (with_reducible refine LeO.ite ?_ ?_)
      | (with_reducible refine LeO.bind ?_ (fun _ => ?_))
      | exact ih0 _ _ _ _
      | exact load_Tasks.mono _ _
      | exact LeO.none _
      | refine LeO.ite ?_ ?_
      | refine LeO.bind ?_ (fun _ => ?_)
set_option maxHeartbeats 8000000 in
set_option maxRecDepth 100000 in
theorem plan_Check.calls (k : Nat) (A0 : Option Addr) (c0 : Nat) (l0 : List (S36)) (r : Int) (w : World) (hr0 : Kd.C k36 w A0 l0.length l0) (hc0 : l0.length ≤ c0) (h : plan_Check.f k l0 = some r) :
    Calls Try.prog 16 #[.slice A0 l0.length c0] w fun e w' => e = .returned (.int .i64 r) ∧ Below w.heap.size w w' := by
  have hu36 := Try.underlying36
  have HR0 := Aside0.mk hr0
  have HC0 := Aside0.mk hc0
  clear hr0 hc0
  have HB := Aside0.mk (Below.refl w.heap.size w)
  have H : (plan_Check.l0 k ([] : List ByteArray) l0 (l0.length : Int) 0) = some r := h
  clear h
  have H' := Aside0.mk H
  clear H
  go_enter Try.func16, Try.ntmps16
  go_wp2
  go_loopg [3, 8] k (fun kq v3 v8 w' => ∃ (x3_1 : List ByteArray) (x8_1 : Int), v8 = .int .i64 x8_1 ∧ Aside0 (plan_Check.l0 kq x3_1 l0 (l0.length : Int) x8_1 = some r) ∧ Aside0 (kq ≤ k) ∧ Aside0 (Kd.R Kd.string 9 w' w.heap.size (fun _ => True) v3 x3_1) ∧ Aside0 (Below w.heap.size w w'))
  case atStart => exact ⟨(([] : List ByteArray)), (0), (by first | rfl | (simp; done) | (simp [*]; done)), H', ⟨Nat.le_refl _⟩, ⟨by first | exact Kd.R_nil _ _ _ _ _ | exact Kd.N_nil _ _ _ _ _ | exact Kd.V_nil _ _ _ _ _ | exact Kd.Q_nil _ _ _ _ _ | exact Kd.S_nil _ _ _ _ _⟩, ⟨by repeat (first | (with_reducible first | exact HB.out | apply below_alloc | apply pw_below_drewN | apply below_drew1) | exact HB.out)⟩⟩
  case round =>
    clear H'
    try clear c1
    obtain ⟨x3_1, x8_1, rfl, HA, HK1, HO_3, HB⟩ := hrel
    cases gk with
    | zero => exact absurd HA.out (by simp [plan_Check.l0])
    | succ k1 =>
      have H := HA.out
      clear HA
      simp only [plan_Check.l0] at H
      by_cases c2 : x8_1 < (l0.length : Int)
      · rw [if_pos c2] at H
        have c2b0 : decide (x8_1 < (l0.length : Int)) = true := decide_eq_true c2
        clear c2
        by_cases c3 : 0 ≤ x8_1
        · rw [if_pos c3] at H
          have c3b0 : decide (0 ≤ x8_1) = true := decide_eq_true c3
          clear c3
          by_cases c4 : x8_1 < (l0.length : Int)
          · rw [if_pos c4] at H
            have c4b0 : decide (x8_1 < (l0.length : Int)) = true := decide_eq_true c4
            clear c4
            replace H := Option.bind_eq_some_iff.mp H
            obtain ⟨t118, A50, H⟩ := H
            replace H : (if t118 = true then ((plan_node.f ((rd_T36 l0 x8_1).f2)).bind fun t119 => (if t119 = true then (if ((rd_T36 l0 x8_1).f1) = ((rd_T36 l0 x8_1).f2) then (some 1) else (if x3_1.length < 8796093022208 then (plan_Check.l0 k1 (x3_1 ++ [(rd_T36 l0 x8_1).f0]) l0 (l0.length : Int) (wrap64 (x8_1 + 1))) else (none))) else (some 1))) else (some 1)) = some r := H
            have A5 := Aside0.mk A50
            clear A50
            by_cases c6 : t118 = true
            · subst c6
              have H1 : ((plan_node.f ((rd_T36 l0 x8_1).f2)).bind fun t119 => (if t119 = true then (if ((rd_T36 l0 x8_1).f1) = ((rd_T36 l0 x8_1).f2) then (some 1) else (if x3_1.length < 8796093022208 then (plan_Check.l0 k1 (x3_1 ++ [(rd_T36 l0 x8_1).f0]) l0 (l0.length : Int) (wrap64 (x8_1 + 1))) else (none))) else (some 1))) = some r := by rw [if_pos rfl] at H; exact H
              clear H
              have H := H1
              clear H1
              replace H := Option.bind_eq_some_iff.mp H
              obtain ⟨t119, A70, H⟩ := H
              replace H : (if t119 = true then (if ((rd_T36 l0 x8_1).f1) = ((rd_T36 l0 x8_1).f2) then (some 1) else (if x3_1.length < 8796093022208 then (plan_Check.l0 k1 (x3_1 ++ [(rd_T36 l0 x8_1).f0]) l0 (l0.length : Int) (wrap64 (x8_1 + 1))) else (none))) else (some 1)) = some r := H
              have A7 := Aside0.mk A70
              clear A70
              by_cases c8 : t119 = true
              · subst c8
                have H1 : (if ((rd_T36 l0 x8_1).f1) = ((rd_T36 l0 x8_1).f2) then (some 1) else (if x3_1.length < 8796093022208 then (plan_Check.l0 k1 (x3_1 ++ [(rd_T36 l0 x8_1).f0]) l0 (l0.length : Int) (wrap64 (x8_1 + 1))) else (none))) = some r := by rw [if_pos rfl] at H; exact H
                clear H
                have H := H1
                clear H1
                by_cases c9 : ((rd_T36 l0 x8_1).f1) = ((rd_T36 l0 x8_1).f2)
                · rw [if_pos c9] at H
                  have c9b0 : (((rd_T36 l0 x8_1).f1) == ((rd_T36 l0 x8_1).f2)) = true := beq_iff_eq.mpr c9
                  have c9b1 : (((rd_T36 l0 x8_1).f1) != ((rd_T36 l0 x8_1).f2)) = false := bne_eq_false_iff_eq.mpr c9
                  clear c9
                  obtain rfl := Option.some.inj H
                  have p116 : 0 ≤ (x8_1 : Int) := of_decide_eq_true (by first | (with_reducible assumption) | assumption)
                  have q116 : x8_1 < (l0.length : Int) := of_decide_eq_true (by first | (with_reducible assumption) | assumption)
                  obtain ⟨ad116, e116, hx116_0, hx116_1, hx116_2⟩ := at_T36 HR0.out x8_1 p116 q116
                  cases e116
                  replace hx116_0 := (HB.out.cell (World.block_lt_of_cell? w _ hx116_0)).trans hx116_0
                  replace hx116_1 := (HB.out.cell (World.block_lt_of_cell? w _ hx116_1)).trans hx116_1
                  replace hx116_2 := (HB.out.cell (World.block_lt_of_cell? w _ hx116_2)).trans hx116_2
                  replace p116 := eq_true p116
                  replace q116 := eq_true q116
                  go_wp2_with (first | ((with_reducible refine gate_dst (N := 5) rfl ?_); refine box_event ?hg (N := 5) ?hd (cs := #[.string (⟨#[]⟩ : ByteArray), .int .i64 0, .int .i64 0]) (t := 36) ?hr ?_; (case hd => rfl); (case hg => rfl); (case hr => first | (go_simp; done) | (go_simp; rfl)); intro gb117 hg w10 hbox hb; have n0_ := Aside0.mk (Kd.R_below (by (with_reducible repeat (first | apply Kd.R_alloc | apply Kd.R_drewN | apply Kd.R_drew)); exact HO_3.out) hb); have n1_ := Aside0.mk (below_step (by repeat (first | (with_reducible first | exact HB.out | apply below_alloc | apply pw_below_drewN | apply below_drew1) | exact HB.out)) hb); have n2_ := Aside0.mk (hbox); have n3_ := Aside0.mk ((by rw [hg]; exact (below_size (by repeat (first | (with_reducible first | exact HB.out | apply below_alloc | apply pw_below_drewN | apply below_drew1) | exact HB.out))) : w.heap.size ≤ gb117)); have n4_ := Aside0.mk ((by rw [hg]; exact (below_size (by repeat (first | (with_reducible first | exact HB.out | apply below_alloc | apply pw_below_drewN | apply below_drew1) | exact HB.out))) : w.heap.size ≤ gb117)); clear HO_3; clear HB; have HO_3 := n0_; have HB := n1_; have BK117 := n2_; have GW117 := n3_; have GE117 := n4_; clear n0_ n1_ n2_ n3_ n4_; clear hb hbox hg; have hcz11_0 : w10.cell? ⟨gb117, 0, none⟩ = some (.string (⟨#[]⟩ : ByteArray)) := (blk_cell BK117.out 0).trans rfl; have hcz11_1 : w10.cell? ⟨gb117, 1, none⟩ = some (.int .i64 0) := (blk_cell BK117.out 1).trans rfl; have hcz11_2 : w10.cell? ⟨gb117, 2, none⟩ = some (.int .i64 0) := (blk_cell BK117.out 2).trans rfl; have hfz11_0 := blk_frozen BK117.out 0; have hfz11_1 := blk_frozen BK117.out 1; have hfz11_2 := blk_frozen BK117.out 2) | ((with_reducible refine gate_callee (f := 24) rfl ?_); refine goesL_ (some 14) rfl rfl Try.func24 (by kernel_rfl) rfl #[.int .i64 ((rd_T36 l0 x8_1).f1)] rfl (by (try simp only [List.map_toArray, List.map_cons, List.map_nil]); first | done | rfl | (simp only [List.length_drop, List.length_take]; rfl)) ?_; (with_reducible refine (plan_node.calls ((rd_T36 l0 x8_1).f1) true _ A5.out).mono ?_); rintro e w' ⟨rfl, ⟨nd, rfl⟩⟩; refine ⟨_, rfl, ?_⟩) | (go_at_call 24; (with_reducible refine (plan_node.calls ((rd_T36 l0 x8_1).f2) true _ A7.out).mono ?_); rintro e w' ⟨rfl, ⟨nd, rfl⟩⟩))
                  go_ret
                  exact ⟨by first | rfl | (simp [errW_none, errW_some] <;> rfl) | (simp [*, errW_none, errW_some] <;> rfl), by repeat (first | (with_reducible first | exact HB.out | apply below_alloc | apply pw_below_drewN | apply below_drew1 | refine below_set ?_ GE117.out) | exact HB.out)⟩
                · rw [if_neg c9] at H
                  have c9b0 : (((rd_T36 l0 x8_1).f1) == ((rd_T36 l0 x8_1).f2)) = false := beq_eq_false_iff_ne.mpr c9
                  have c9b1 : (((rd_T36 l0 x8_1).f1) != ((rd_T36 l0 x8_1).f2)) = true := bne_iff_ne.mpr c9
                  by_cases c12 : x3_1.length < 8796093022208
                  · rw [if_pos c12] at H
                    have LMc12 := Aside0.mk c12
                    clear c12
                    obtain ⟨y120, hy120⟩ : ∃ y_ : List ByteArray, y_ = (x3_1 ++ [(rd_T36 l0 x8_1).f0]) := ⟨_, rfl⟩
                    replace H : (plan_Check.l0 k1 y120 l0 (l0.length : Int) (wrap64 (x8_1 + 1))) = some r := by first | (rw [hy120]; with_reducible exact H) | (have H2_ := (Option.bind_some _ _).symm.trans H; rw [hy120]; with_reducible exact H2_) | (have H2_ := (Option.bind_some _ _).symm.trans H; with_reducible exact H2_) | with_reducible exact H | (rw [hy120]; exact H) | exact H
                    have Ny120 := Aside0.mk hy120
                    clear hy120
                    have H' := Aside0.mk H
                    clear H
                    have p116 : 0 ≤ (x8_1 : Int) := of_decide_eq_true (by first | (with_reducible assumption) | assumption)
                    have q116 : x8_1 < (l0.length : Int) := of_decide_eq_true (by first | (with_reducible assumption) | assumption)
                    obtain ⟨ad116, e116, hx116_0, hx116_1, hx116_2⟩ := at_T36 HR0.out x8_1 p116 q116
                    cases e116
                    replace hx116_0 := (HB.out.cell (World.block_lt_of_cell? w _ hx116_0)).trans hx116_0
                    replace hx116_1 := (HB.out.cell (World.block_lt_of_cell? w _ hx116_1)).trans hx116_1
                    replace hx116_2 := (HB.out.cell (World.block_lt_of_cell? w _ hx116_2)).trans hx116_2
                    replace p116 := eq_true p116
                    replace q116 := eq_true q116
                    go_wp2_with (first | ((with_reducible refine gate_dst (N := 5) rfl ?_); refine box_event ?hg (N := 5) ?hd (cs := #[.string (⟨#[]⟩ : ByteArray), .int .i64 0, .int .i64 0]) (t := 36) ?hr ?_; (case hd => rfl); (case hg => rfl); (case hr => first | (go_simp; done) | (go_simp; rfl)); intro gb117 hg w13 hbox hb; have n0_ := Aside0.mk (Kd.R_below (by (with_reducible repeat (first | apply Kd.R_alloc | apply Kd.R_drewN | apply Kd.R_drew)); exact HO_3.out) hb); have n1_ := Aside0.mk (below_step (by repeat (first | (with_reducible first | exact HB.out | apply below_alloc | apply pw_below_drewN | apply below_drew1) | exact HB.out)) hb); have n2_ := Aside0.mk (hbox); have n3_ := Aside0.mk ((by rw [hg]; exact (below_size (by repeat (first | (with_reducible first | exact HB.out | apply below_alloc | apply pw_below_drewN | apply below_drew1) | exact HB.out))) : w.heap.size ≤ gb117)); have n4_ := Aside0.mk ((by rw [hg]; exact (below_size (by repeat (first | (with_reducible first | exact HB.out | apply below_alloc | apply pw_below_drewN | apply below_drew1) | exact HB.out))) : w.heap.size ≤ gb117)); clear HO_3; clear HB; have HO_3 := n0_; have HB := n1_; have BK117 := n2_; have GW117 := n3_; have GE117 := n4_; clear n0_ n1_ n2_ n3_ n4_; clear hb hbox hg; have hcz14_0 : w13.cell? ⟨gb117, 0, none⟩ = some (.string (⟨#[]⟩ : ByteArray)) := (blk_cell BK117.out 0).trans rfl; have hcz14_1 : w13.cell? ⟨gb117, 1, none⟩ = some (.int .i64 0) := (blk_cell BK117.out 1).trans rfl; have hcz14_2 : w13.cell? ⟨gb117, 2, none⟩ = some (.int .i64 0) := (blk_cell BK117.out 2).trans rfl; have hfz14_0 := blk_frozen BK117.out 0; have hfz14_1 := blk_frozen BK117.out 1; have hfz14_2 := blk_frozen BK117.out 2) | ((with_reducible refine gate_callee (f := 24) rfl ?_); refine goesL_ (some 14) rfl rfl Try.func24 (by kernel_rfl) rfl #[.int .i64 ((rd_T36 l0 x8_1).f1)] rfl (by (try simp only [List.map_toArray, List.map_cons, List.map_nil]); first | done | rfl | (simp only [List.length_drop, List.length_take]; rfl)) ?_; (with_reducible refine (plan_node.calls ((rd_T36 l0 x8_1).f1) true _ A5.out).mono ?_); rintro e w' ⟨rfl, ⟨nd, rfl⟩⟩; refine ⟨_, rfl, ?_⟩) | (go_at_call 24; (with_reducible refine (plan_node.calls ((rd_T36 l0 x8_1).f2) true _ A7.out).mono ?_); rintro e w' ⟨rfl, ⟨nd, rfl⟩⟩) | ((with_reducible refine gate_builtin (b := .append) (xs := #[.tmp 29, .tmp 32]) rfl ?_); at_builtin; refine Kd.R_append Kd.string (w0 := w) w.heap.size rfl (.tmp 29) (.tmp 32) 53 9 (.string ⟨#[]⟩) 16 rfl Try.underlying53 info9 rfl (by decide) (by omega) u3 x3_1 ((rd_T36 l0 x8_1).f0) [.string ((rd_T36 l0 x8_1).f0)] (fun _ => True) (fun _ => False) rfl (by first | (go_simp; done) | (go_simp; rfl)) ?aP (fun _ hk => hk.elim) ?aF ?aO ?aB ?aS ?aL ?_; (case aP => exact rfl); (case aB => exact (by repeat (first | (with_reducible first | exact HB.out | apply below_alloc | apply pw_below_drewN | apply below_drew1 | refine below_set ?_ GE117.out) | exact HB.out))); (case aF => exact (fun _ _ => trivial)); (case aO => exact (by (with_reducible repeat (first | apply Kd.R_alloc | apply Kd.R_drewN | apply Kd.R_drew)); exact Kd.R_mono (Kd.R_far (p := ⟨gb117, 2, none⟩) (Kd.R_far (p := ⟨gb117, 1, none⟩) (Kd.R_far (p := ⟨gb117, 0, none⟩) (Kd.R_types HO_3.out BK117.out (by decide)) (fun _ hk => hk.2) (.string ((rd_T36 l0 x8_1).f0))) (fun _ hk => hk.2) (.int .i64 ((rd_T36 l0 x8_1).f1))) (fun _ hk => hk.2) (.int .i64 ((rd_T36 l0 x8_1).f2))) (fun _ hk => trivial))); (case aS => exact (below_size (by repeat (first | (with_reducible first | exact HB.out | apply below_alloc | apply pw_below_drewN | apply below_drew1 | refine below_set ?_ GE117.out) | exact HB.out)))); (case aL => have := LMc12.out; omega); intro v121 w15 ho hb hg hat; rw [← Ny120.out] at ho; have n0_ := Aside0.mk (blk_grown (g := gb117) (o := .cells #[.string ((rd_T36 l0 x8_1).f0), .int .i64 ((rd_T36 l0 x8_1).f1), .int .i64 ((rd_T36 l0 x8_1).f2)] 36 (0, 0)) (by (with_reducible repeat (first | refine blk_drewN ?_ _ | refine blk_drew ?_ | refine blk_alloc ?_ _)); refine blk_put (cs := #[.string ((rd_T36 l0 x8_1).f0), .int .i64 ((rd_T36 l0 x8_1).f1), .int .i64 0]) ?_ 2 _ rfl; (with_reducible repeat (first | refine blk_drewN ?_ _ | refine blk_drew ?_ | refine blk_alloc ?_ _)); refine blk_put (cs := #[.string ((rd_T36 l0 x8_1).f0), .int .i64 0, .int .i64 0]) ?_ 1 _ rfl; (with_reducible repeat (first | refine blk_drewN ?_ _ | refine blk_drew ?_ | refine blk_alloc ?_ _)); refine blk_put (cs := #[.string (⟨#[]⟩ : ByteArray), .int .i64 0, .int .i64 0]) ?_ 0 _ rfl; (with_reducible repeat (first | refine blk_drewN ?_ _ | refine blk_drew ?_ | refine blk_alloc ?_ _)); exact BK117.out) hg (Kd.R_ne HO_3.out BK117.out (by decide))); have n1_ := Aside0.mk (hb); have n2_ := Aside0.mk (ho); clear BK117; clear HB; clear HO_3; have BK117 := n0_; have HB := n1_; have HO122 := n2_; clear n0_ n1_ n2_; clear ho hb hg hat))
                    go_roundg k1
                    case measure => have := HK1.out; omega
                    case rel => exact ⟨(y120), (wrap64 (x8_1 + 1)), (by first | rfl | (simp; done) | (simp [*]; done)), H', ⟨by have := HK1.out; omega⟩, ⟨by (with_reducible repeat (first | apply Kd.R_alloc | apply Kd.R_drewN | apply Kd.R_drew)); exact HO122.out⟩, ⟨by repeat (first | (with_reducible first | exact HB.out | apply below_alloc | apply pw_below_drewN | apply below_drew1 | refine below_set ?_ GE117.out) | exact HB.out)⟩⟩
                  · rw [if_neg c12] at H
                    exact absurd H (by simp)
              · replace c8 := Bool.eq_false_iff.mpr c8
                subst c8
                have H1 : (some 1) = some r := by rw [if_neg (show ¬ (false = true) by decide)] at H; exact H
                clear H
                have H := H1
                clear H1
                obtain rfl := Option.some.inj H
                have p116 : 0 ≤ (x8_1 : Int) := of_decide_eq_true (by first | (with_reducible assumption) | assumption)
                have q116 : x8_1 < (l0.length : Int) := of_decide_eq_true (by first | (with_reducible assumption) | assumption)
                obtain ⟨ad116, e116, hx116_0, hx116_1, hx116_2⟩ := at_T36 HR0.out x8_1 p116 q116
                cases e116
                replace hx116_0 := (HB.out.cell (World.block_lt_of_cell? w _ hx116_0)).trans hx116_0
                replace hx116_1 := (HB.out.cell (World.block_lt_of_cell? w _ hx116_1)).trans hx116_1
                replace hx116_2 := (HB.out.cell (World.block_lt_of_cell? w _ hx116_2)).trans hx116_2
                replace p116 := eq_true p116
                replace q116 := eq_true q116
                go_wp2_with (first | ((with_reducible refine gate_dst (N := 5) rfl ?_); refine box_event ?hg (N := 5) ?hd (cs := #[.string (⟨#[]⟩ : ByteArray), .int .i64 0, .int .i64 0]) (t := 36) ?hr ?_; (case hd => rfl); (case hg => rfl); (case hr => first | (go_simp; done) | (go_simp; rfl)); intro gb117 hg w16 hbox hb; have n0_ := Aside0.mk (Kd.R_below (by (with_reducible repeat (first | apply Kd.R_alloc | apply Kd.R_drewN | apply Kd.R_drew)); exact HO_3.out) hb); have n1_ := Aside0.mk (below_step (by repeat (first | (with_reducible first | exact HB.out | apply below_alloc | apply pw_below_drewN | apply below_drew1) | exact HB.out)) hb); have n2_ := Aside0.mk (hbox); have n3_ := Aside0.mk ((by rw [hg]; exact (below_size (by repeat (first | (with_reducible first | exact HB.out | apply below_alloc | apply pw_below_drewN | apply below_drew1) | exact HB.out))) : w.heap.size ≤ gb117)); have n4_ := Aside0.mk ((by rw [hg]; exact (below_size (by repeat (first | (with_reducible first | exact HB.out | apply below_alloc | apply pw_below_drewN | apply below_drew1) | exact HB.out))) : w.heap.size ≤ gb117)); clear HO_3; clear HB; have HO_3 := n0_; have HB := n1_; have BK117 := n2_; have GW117 := n3_; have GE117 := n4_; clear n0_ n1_ n2_ n3_ n4_; clear hb hbox hg; have hcz17_0 : w16.cell? ⟨gb117, 0, none⟩ = some (.string (⟨#[]⟩ : ByteArray)) := (blk_cell BK117.out 0).trans rfl; have hcz17_1 : w16.cell? ⟨gb117, 1, none⟩ = some (.int .i64 0) := (blk_cell BK117.out 1).trans rfl; have hcz17_2 : w16.cell? ⟨gb117, 2, none⟩ = some (.int .i64 0) := (blk_cell BK117.out 2).trans rfl; have hfz17_0 := blk_frozen BK117.out 0; have hfz17_1 := blk_frozen BK117.out 1; have hfz17_2 := blk_frozen BK117.out 2) | ((with_reducible refine gate_callee (f := 24) rfl ?_); refine goesL_ (some 14) rfl rfl Try.func24 (by kernel_rfl) rfl #[.int .i64 ((rd_T36 l0 x8_1).f1)] rfl (by (try simp only [List.map_toArray, List.map_cons, List.map_nil]); first | done | rfl | (simp only [List.length_drop, List.length_take]; rfl)) ?_; (with_reducible refine (plan_node.calls ((rd_T36 l0 x8_1).f1) true _ A5.out).mono ?_); rintro e w' ⟨rfl, ⟨nd, rfl⟩⟩; refine ⟨_, rfl, ?_⟩) | (go_at_call 24; (with_reducible refine (plan_node.calls ((rd_T36 l0 x8_1).f2) false _ A7.out).mono ?_); rintro e w' ⟨rfl, ⟨nd, rfl⟩⟩))
                go_ret
                exact ⟨by first | rfl | (simp [errW_none, errW_some] <;> rfl) | (simp [*, errW_none, errW_some] <;> rfl), by repeat (first | (with_reducible first | exact HB.out | apply below_alloc | apply pw_below_drewN | apply below_drew1 | refine below_set ?_ GE117.out) | exact HB.out)⟩
            · replace c6 := Bool.eq_false_iff.mpr c6
              subst c6
              have H1 : (some 1) = some r := by rw [if_neg (show ¬ (false = true) by decide)] at H; exact H
              clear H
              have H := H1
              clear H1
              obtain rfl := Option.some.inj H
              have p116 : 0 ≤ (x8_1 : Int) := of_decide_eq_true (by first | (with_reducible assumption) | assumption)
              have q116 : x8_1 < (l0.length : Int) := of_decide_eq_true (by first | (with_reducible assumption) | assumption)
              obtain ⟨ad116, e116, hx116_0, hx116_1, hx116_2⟩ := at_T36 HR0.out x8_1 p116 q116
              cases e116
              replace hx116_0 := (HB.out.cell (World.block_lt_of_cell? w _ hx116_0)).trans hx116_0
              replace hx116_1 := (HB.out.cell (World.block_lt_of_cell? w _ hx116_1)).trans hx116_1
              replace hx116_2 := (HB.out.cell (World.block_lt_of_cell? w _ hx116_2)).trans hx116_2
              replace p116 := eq_true p116
              replace q116 := eq_true q116
              go_wp2_with (first | ((with_reducible refine gate_dst (N := 5) rfl ?_); refine box_event ?hg (N := 5) ?hd (cs := #[.string (⟨#[]⟩ : ByteArray), .int .i64 0, .int .i64 0]) (t := 36) ?hr ?_; (case hd => rfl); (case hg => rfl); (case hr => first | (go_simp; done) | (go_simp; rfl)); intro gb117 hg w18 hbox hb; have n0_ := Aside0.mk (Kd.R_below (by (with_reducible repeat (first | apply Kd.R_alloc | apply Kd.R_drewN | apply Kd.R_drew)); exact HO_3.out) hb); have n1_ := Aside0.mk (below_step (by repeat (first | (with_reducible first | exact HB.out | apply below_alloc | apply pw_below_drewN | apply below_drew1) | exact HB.out)) hb); have n2_ := Aside0.mk (hbox); have n3_ := Aside0.mk ((by rw [hg]; exact (below_size (by repeat (first | (with_reducible first | exact HB.out | apply below_alloc | apply pw_below_drewN | apply below_drew1) | exact HB.out))) : w.heap.size ≤ gb117)); have n4_ := Aside0.mk ((by rw [hg]; exact (below_size (by repeat (first | (with_reducible first | exact HB.out | apply below_alloc | apply pw_below_drewN | apply below_drew1) | exact HB.out))) : w.heap.size ≤ gb117)); clear HO_3; clear HB; have HO_3 := n0_; have HB := n1_; have BK117 := n2_; have GW117 := n3_; have GE117 := n4_; clear n0_ n1_ n2_ n3_ n4_; clear hb hbox hg; have hcz19_0 : w18.cell? ⟨gb117, 0, none⟩ = some (.string (⟨#[]⟩ : ByteArray)) := (blk_cell BK117.out 0).trans rfl; have hcz19_1 : w18.cell? ⟨gb117, 1, none⟩ = some (.int .i64 0) := (blk_cell BK117.out 1).trans rfl; have hcz19_2 : w18.cell? ⟨gb117, 2, none⟩ = some (.int .i64 0) := (blk_cell BK117.out 2).trans rfl; have hfz19_0 := blk_frozen BK117.out 0; have hfz19_1 := blk_frozen BK117.out 1; have hfz19_2 := blk_frozen BK117.out 2) | ((with_reducible refine gate_callee (f := 24) rfl ?_); refine goesL_ (some 14) rfl rfl Try.func24 (by kernel_rfl) rfl #[.int .i64 ((rd_T36 l0 x8_1).f1)] rfl (by (try simp only [List.map_toArray, List.map_cons, List.map_nil]); first | done | rfl | (simp only [List.length_drop, List.length_take]; rfl)) ?_; (with_reducible refine (plan_node.calls ((rd_T36 l0 x8_1).f1) false _ A5.out).mono ?_); rintro e w' ⟨rfl, ⟨nd, rfl⟩⟩; refine ⟨_, rfl, ?_⟩))
              go_ret
              exact ⟨by first | rfl | (simp [errW_none, errW_some] <;> rfl) | (simp [*, errW_none, errW_some] <;> rfl), by repeat (first | (with_reducible first | exact HB.out | apply below_alloc | apply pw_below_drewN | apply below_drew1 | refine below_set ?_ GE117.out) | exact HB.out)⟩
          · rw [if_neg c4] at H
            exact absurd H (by simp)
        · rw [if_neg c3] at H
          exact absurd H (by simp)
      · rw [if_neg c2] at H
        have c2b0 : decide (x8_1 < (l0.length : Int)) = false := decide_eq_false c2
        clear c2
        replace H := Option.bind_eq_some_iff.mp H
        obtain ⟨t115, A200, H⟩ := H
        replace H : (some t115) = some r := H
        have A20 := Aside0.mk A200
        clear A200
        obtain rfl := Option.some.inj H
        obtain ⟨Ao21, co21, eo21⟩ := Kd.R_slice HO_3.out
        subst eo21
        go_wp2_with (first | ((with_reducible refine gate_callee (f := 25) rfl ?_); refine goesL_ (some 36) rfl rfl Try.func25 (by kernel_rfl) rfl #[.slice Ao21 x3_1.length co21] rfl (by (try simp only [List.map_toArray, List.map_cons, List.map_nil]); first | done | rfl | (simp only [List.length_drop, List.length_take]; rfl)) ?_; (with_reducible refine (load_Tasks.calls k1 _ _ x3_1 t115 _ ?side1 ?side2 A20.out).mono ?_); (case side1 => repeat (first | exact (Kd.R_reads' HO_3.out).2.2 | (with_reducible refine Kd.C_alloc ?_ _) | (with_reducible refine Kd.C_drewN ?_ _) | (with_reducible refine Kd.C_drew ?_))); (case side2 => exact (Kd.R_reads' HO_3.out).2.1); rintro e w22 ⟨rfl, hb⟩; refine ⟨_, rfl, ?_⟩; have n0_ := Aside0.mk (Kd.R_below (by (with_reducible repeat (first | apply Kd.R_alloc | apply Kd.R_drewN | apply Kd.R_drew)); exact HO_3.out) hb); have n1_ := Aside0.mk (below_step (by repeat (first | (with_reducible first | exact HB.out | apply below_alloc | apply pw_below_drewN | apply below_drew1) | exact HB.out)) hb); clear HO_3; clear HB; have HO_3 := n0_; have HB := n1_; clear n0_ n1_; (try clear hb); (try clear hb2); (try clear hk); (try clear hi)))
        go_ret
        exact ⟨by first | rfl | (simp [errW_none, errW_some] <;> rfl) | (simp [*, errW_none, errW_some] <;> rfl), by repeat (first | (with_reducible first | exact HB.out | apply below_alloc | apply pw_below_drewN | apply below_drew1) | exact HB.out)⟩

end Go.Proofs.Ythbebfjoennmfaa.PPlanTells
