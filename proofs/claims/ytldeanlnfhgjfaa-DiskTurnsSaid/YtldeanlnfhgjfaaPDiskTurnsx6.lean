-- Written by a program of this session (see NOTES.md) out of the print of Lean's own loaded functions; Lean checks it.
import Derived.Test.YtldeanlnfhgjfaaPDiskTurnsx0
import Derived.Test.YtldeanlnfhgjfaaPDiskTurnsx1
import Derived.Test.YtldeanlnfhgjfaaPDiskTurnsx3
import Derived.Test.YtldeanlnfhgjfaaPDiskTurnsx4
import Derived.Test.YtldeanlnfhgjfaaPDiskTurnsx5
namespace Go.Proofs.Ytldeanlnfhgjfaa.PDiskTurns
open Go.RowKit Go.Proofs.YtldeanlnfhgjfaaW.PrintWords Go.Proofs.YtldeanlnfhgjfaaW.PrintLast Go.Proofs.YtldeanlnfhgjfaaW.PrintMore
attribute [local go_sem] max2_int min2_int max_two min_two max_three min_three max_four min_four   -- for this text's walks alone
set_option linter.unusedVariables false
set_option linter.unusedSimpArgs false

attribute [local go_sem high] eqA26
/-! ### tattlelaw16_DiskTurns: function 7 -/
mutual
def tattlelaw16_DiskTurns.j0 : Nat → Int → Int → ByteArray → Int → Bool → Int → Int → Int → Int → Int → Option (Bool)
  | 0, _, _, _, _, _, _, _, _, _, _ => none
  | k + 1, x1, x2, x7, x8, x26, x224000, x224001, x224002, x224003, x224004 => if x26 = true then (if x8 = 1 then ((tattlelaw16_awake.f k).bind fun t226 => (some t226)) else (none)) else (tattlelaw16_DiskTurns.l0 k x1 x2 x7 x7 0 x224000 x224001 x224002 x224003 x224004)
def tattlelaw16_DiskTurns.l0 : Nat → Int → Int → ByteArray → ByteArray → Int → Int → Int → Int → Int → Int → Option (Bool)
  | 0, _, _, _, _, _, _, _, _, _, _ => none
  | k + 1, x1, x2, x7, x9, x10, x224000, x224001, x224002, x224003, x224004 => if x10 < 32 then (if 0 ≤ x10 then (if (Go.bits .and .u32 (shr .u32 x2 x10) 1) = 1 then (if (wrap64 (8 * (x7.size : Int))) = 0 then (none) else ((tattleref01_Turn.f x9 (wrap64 ((Int.tmod (wrap64 (x1)) (wrap64 (8 * (x7.size : Int)))) + x10))).bind fun t227 => (tattlelaw16_DiskTurns.l0 k x1 x2 x7 t227 (wrap64 (x10 + 1)) x224000 x224001 x224002 x224003 x224004))) else (tattlelaw16_DiskTurns.l0 k x1 x2 x7 x9 (wrap64 (x10 + 1)) x224000 x224001 x224002 x224003 x224004)) else (none)) else ((disk_Parse.f k x9).bind fun bt228 => (if (x7.size : Int) = 0 then (none) else (if 0 ≤ (Int.tmod (wrap64 (x1)) (x7.size : Int)) then (if (Int.tmod (wrap64 (x1)) (x7.size : Int)) ≤ (x7.size : Int) then ((disk_Parse.f k (x7.extract 0 ((Int.tmod (wrap64 (x1)) (x7.size : Int)) : Int).toNat)).bind fun bt235 => (if bt235.2.2.2.2.2 = 0 then (none) else (if x9.toList = x7.toList then (if (bt228.1 == x224000 && (bt228.2.1 == x224001 && (bt228.2.2.1 == x224002 && (bt228.2.2.2.1 == x224003 && (bt228.2.2.2.2.1 == x224004))))) = true then (if bt228.2.2.2.2.2 = 0 then ((tattlelaw16_awake.f k).bind fun t242 => (some t242)) else (none)) else (none)) else (if (bt228.1 == 0 && (bt228.2.1 == 0 && (bt228.2.2.1 == 0 && (bt228.2.2.2.1 == 0 && (bt228.2.2.2.2.1 == 0))))) = true then (if bt228.2.2.2.2.2 = 10 then ((tattlelaw16_awake.f k).bind fun t243 => (some t243)) else (none)) else (none))))) else (none)) else (none))))
end
def tattlelaw16_DiskTurns.f (k : Nat) (a0_0 : Int) (a0_1 : Int) (a0_2 : Int) (a0_3 : Int) (a0_4 : Int) (a1 : Int) (a2 : Int) : Option (Bool) := (disk_Lay.f k a0_0 a0_1 a0_2 a0_3 a0_4).bind fun bt224 => (if bt224.2 = 0 then (tattlelaw16_DiskTurns.j0 k a1 a2 bt224.1 bt224.2 ((bt224.1.size : Int) == 0) a0_0 a0_1 a0_2 a0_3 a0_4) else (tattlelaw16_DiskTurns.j0 k a1 a2 bt224.1 bt224.2 true a0_0 a0_1 a0_2 a0_3 a0_4))
theorem tattlelaw16_DiskTurns.mono_l : ∀ k, (∀ y0 y1 y2 y3 y4 y5 y6 y7 y8 y9, LeO (tattlelaw16_DiskTurns.j0 k y0 y1 y2 y3 y4 y5 y6 y7 y8 y9) (tattlelaw16_DiskTurns.j0 (k + 1) y0 y1 y2 y3 y4 y5 y6 y7 y8 y9)) ∧ (∀ y0 y1 y2 y3 y4 y5 y6 y7 y8 y9, LeO (tattlelaw16_DiskTurns.l0 k y0 y1 y2 y3 y4 y5 y6 y7 y8 y9) (tattlelaw16_DiskTurns.l0 (k + 1) y0 y1 y2 y3 y4 y5 y6 y7 y8 y9))
  | 0 => ⟨fun _ _ _ _ _ _ _ _ _ _ r h => by simp [tattlelaw16_DiskTurns.j0] at h, fun _ _ _ _ _ _ _ _ _ _ r h => by simp [tattlelaw16_DiskTurns.l0] at h⟩
  | k + 1 => by
    obtain ⟨ih0, ih1⟩ := tattlelaw16_DiskTurns.mono_l k
    refine ⟨?_, ?_⟩
    · intro y0 y1 y2 y3 y4 y5 y6 y7 y8 y9
      unfold tattlelaw16_DiskTurns.j0
      repeat' first
      | (with_reducible exact ih0 _ _ _ _ _ _ _ _ _ _)
      | (with_reducible exact ih1 _ _ _ _ _ _ _ _ _ _)
      | (with_reducible exact disk_Lay.mono _ _ _ _ _ _)
      | (with_reducible exact disk_Parse.mono _ _)
      | (with_reducible exact tattlelaw16_awake.mono _)
      | (with_reducible exact LeO.refl _)
      | (with_reducible exact LeO.none _)
      | (with_reducible refine LeO.ite ?_ ?_)
      | (with_reducible refine LeO.bind ?_ (fun _ => ?_))
      | exact ih0 _ _ _ _ _ _ _ _ _ _
      | exact ih1 _ _ _ _ _ _ _ _ _ _
      | exact disk_Lay.mono _ _ _ _ _ _
      | exact disk_Parse.mono _ _
      | exact tattlelaw16_awake.mono _
      | exact LeO.none _
      | refine LeO.ite ?_ ?_
      | refine LeO.bind ?_ (fun _ => ?_)
    · intro y0 y1 y2 y3 y4 y5 y6 y7 y8 y9
      unfold tattlelaw16_DiskTurns.l0
      repeat' first
      | (with_reducible exact ih0 _ _ _ _ _ _ _ _ _ _)
      | (with_reducible exact ih1 _ _ _ _ _ _ _ _ _ _)
      | (with_reducible exact disk_Lay.mono _ _ _ _ _ _)
      | (with_reducible exact disk_Parse.mono _ _)
      | (with_reducible exact tattlelaw16_awake.mono _)
      | (with_reducible exact LeO.refl _)
      | (with_reducible exact LeO.none _)
      | (with_reducible refine LeO.ite ?_ ?_)
      | (with_reducible refine LeO.bind ?_ (fun _ => ?_))
      | exact ih0 _ _ _ _ _ _ _ _ _ _
      | exact ih1 _ _ _ _ _ _ _ _ _ _
      | exact disk_Lay.mono _ _ _ _ _ _
      | exact disk_Parse.mono _ _
      | exact tattlelaw16_awake.mono _
      | exact LeO.none _
      | refine LeO.ite ?_ ?_
      | refine LeO.bind ?_ (fun _ => ?_)
theorem tattlelaw16_DiskTurns.mono : ∀ a0 a1 a2 a3 a4 a5 a6 k, LeO (tattlelaw16_DiskTurns.f k a0 a1 a2 a3 a4 a5 a6) (tattlelaw16_DiskTurns.f (k + 1) a0 a1 a2 a3 a4 a5 a6) := by
  intro a0 a1 a2 a3 a4 a5 a6 k
  obtain ⟨ih0, ih1⟩ := tattlelaw16_DiskTurns.mono_l k
  unfold tattlelaw16_DiskTurns.f
  repeat' first
      | (with_reducible exact ih0 _ _ _ _ _ _ _ _ _ _)
      | (with_reducible exact ih1 _ _ _ _ _ _ _ _ _ _)
      | (with_reducible exact disk_Lay.mono _ _ _ _ _ _)
      | (with_reducible exact disk_Parse.mono _ _)
      | (with_reducible exact tattlelaw16_awake.mono _)
      | (with_reducible exact LeO.refl _)
      | (with_reducible exact LeO.none _)
      | (with_reducible refine LeO.ite ?_ ?_)
      | (with_reducible refine LeO.bind ?_ (fun _ => ?_))
      | exact ih0 _ _ _ _ _ _ _ _ _ _
      | exact ih1 _ _ _ _ _ _ _ _ _ _
      | exact disk_Lay.mono _ _ _ _ _ _
      | exact disk_Parse.mono _ _
      | exact tattlelaw16_awake.mono _
      | exact LeO.none _
      | refine LeO.ite ?_ ?_
      | refine LeO.bind ?_ (fun _ => ?_)
set_option maxHeartbeats 8000000 in
set_option maxRecDepth 100000 in
theorem tattlelaw16_DiskTurns.calls (k : Nat) (a0_0 : Int) (a0_1 : Int) (a0_2 : Int) (a0_3 : Int) (a0_4 : Int) (a1 : Int) (a2 : Int) (r : Bool) (w : World) (h : tattlelaw16_DiskTurns.f k a0_0 a0_1 a0_2 a0_3 a0_4 a1 a2 = some r) :
    Calls Try.prog 7 #[.agg #[.int .u64 a0_0, .int .u64 a0_1, .int .u64 a0_2, .int .u64 a0_3, .int .i64 a0_4], .int .u16 a1, .int .u32 a2] w fun e w' => e = .returned (.bool r) ∧ Below w.heap.size w w' := by
  have hu26 := Try.underlying26
  have HB := Aside0.mk (Below.refl w.heap.size w)
  have H : ((disk_Lay.f k a0_0 a0_1 a0_2 a0_3 a0_4).bind fun bt224 => (if bt224.2 = 0 then (tattlelaw16_DiskTurns.j0 k a1 a2 bt224.1 bt224.2 ((bt224.1.size : Int) == 0) a0_0 a0_1 a0_2 a0_3 a0_4) else (tattlelaw16_DiskTurns.j0 k a1 a2 bt224.1 bt224.2 true a0_0 a0_1 a0_2 a0_3 a0_4))) = some r := h
  clear h
  replace H := Option.bind_eq_some_iff.mp H
  obtain ⟨⟨t224, t225⟩, A40, H⟩ := H
  replace H : (if t225 = 0 then (tattlelaw16_DiskTurns.j0 k a1 a2 t224 t225 ((t224.size : Int) == 0) a0_0 a0_1 a0_2 a0_3 a0_4) else (tattlelaw16_DiskTurns.j0 k a1 a2 t224 t225 true a0_0 a0_1 a0_2 a0_3 a0_4)) = some r := H
  have A4 := Aside0.mk A40
  clear A40
  have HC5 := Aside0.mk H
  clear H
  go_enter Try.func7, Try.ntmps7
  go_upto_region 2 with (first | ((with_reducible refine gate_dst (N := 3) rfl ?_); (try (refine gate_guard (by rfl) ?_; dsimp only)); refine box_event ?hg (N := 3) ?hd (cs := #[.int .u64 a0_0, .int .u64 a0_1, .int .u64 a0_2, .int .u64 a0_3, .int .i64 a0_4]) (t := 26) ?hr ?_; (case hd => rfl); (case hg => rfl); (case hr => first | (go_simp; done) | (go_simp; rfl)); intro gb223 hg w6 hbox hb; have n0_ := Aside0.mk (below_step (by repeat (first | (with_reducible first | exact HB.out | apply below_alloc | apply pw_below_drewN | apply below_drew1) | exact HB.out)) hb); have n1_ := Aside0.mk (hbox); have n2_ := Aside0.mk ((by rw [hg]; exact (below_size (by repeat (first | (with_reducible first | exact HB.out | apply below_alloc | apply pw_below_drewN | apply below_drew1) | exact HB.out))) : w.heap.size ≤ gb223)); have n3_ := Aside0.mk ((by rw [hg]; exact (below_size (by repeat (first | (with_reducible first | exact HB.out | apply below_alloc | apply pw_below_drewN | apply below_drew1) | exact HB.out))) : w.heap.size ≤ gb223)); clear HB; have HB := n0_; have BK223 := n1_; have GW223 := n2_; have GE223 := n3_; clear n0_ n1_ n2_ n3_; clear hb hbox hg; have hcz7_0 : w6.cell? ⟨gb223, 0, none⟩ = some (.int .u64 a0_0) := (blk_cell BK223.out 0).trans rfl; have hcz7_1 : w6.cell? ⟨gb223, 1, none⟩ = some (.int .u64 a0_1) := (blk_cell BK223.out 1).trans rfl; have hcz7_2 : w6.cell? ⟨gb223, 2, none⟩ = some (.int .u64 a0_2) := (blk_cell BK223.out 2).trans rfl; have hcz7_3 : w6.cell? ⟨gb223, 3, none⟩ = some (.int .u64 a0_3) := (blk_cell BK223.out 3).trans rfl; have hcz7_4 : w6.cell? ⟨gb223, 4, none⟩ = some (.int .i64 a0_4) := (blk_cell BK223.out 4).trans rfl; have hfz7_0 := blk_frozen BK223.out 0; have hfz7_1 := blk_frozen BK223.out 1; have hfz7_2 := blk_frozen BK223.out 2; have hfz7_3 := blk_frozen BK223.out 3; have hfz7_4 := blk_frozen BK223.out 4) | ((with_reducible refine gate_callee (f := 14) rfl ?_); refine goesL_ (some 17) rfl rfl Try.func14 (by kernel_rfl) rfl #[.agg #[.int .u64 a0_0, .int .u64 a0_1, .int .u64 a0_2, .int .u64 a0_3, .int .i64 a0_4]] rfl (by (try simp only [List.map_toArray, List.map_cons, List.map_nil]); first | done | rfl | (simp only [List.length_drop, List.length_take]; rfl)) ?_; (with_reducible refine (disk_Lay.calls k a0_0 a0_1 a0_2 a0_3 a0_4 t224 t225 _ A4.out).mono ?_); rintro e w8 ⟨rfl, hb⟩; refine ⟨_, rfl, ?_⟩; have n0_ := Aside0.mk (blk_below (g := gb223) (o := .cells #[.int .u64 a0_0, .int .u64 a0_1, .int .u64 a0_2, .int .u64 a0_3, .int .i64 a0_4] 26 (0, 0)) (by (with_reducible repeat (first | refine blk_drewN ?_ _ | refine blk_drew ?_ | refine blk_alloc ?_ _)); exact BK223.out) hb); have n1_ := Aside0.mk (below_step (by repeat (first | (with_reducible first | exact HB.out | apply below_alloc | apply pw_below_drewN | apply below_drew1 | refine below_set ?_ GE223.out) | exact HB.out)) hb); clear BK223; clear HB; have BK223 := n0_; have HB := n1_; clear n0_ n1_; (try clear hb); (try clear hb2); (try clear hk); (try clear hi)))
  (try simp only [Act.put, List.setIfInBounds_toArray, List.set_cons_zero, List.set_cons_succ])
  go_cut [26] (fun v26 wc => ∃ (kq : Nat) (x26_4 : Bool), v26 = .bool x26_4 ∧ Aside0 (tattlelaw16_DiskTurns.j0 kq a1 a2 t224 t225 x26_4 a0_0 a0_1 a0_2 a0_3 a0_4 = some r) ∧ Aside0 (kq ≤ k) ∧ Aside0 (wc.heap[gb223]? = some (.cells #[.int .u64 a0_0, .int .u64 a0_1, .int .u64 a0_2, .int .u64 a0_3, .int .i64 a0_4] 26 (0, 0))) ∧ Aside0 (Below w.heap.size w wc))
  case first =>
    have H := HC5.out
    clear HC5
    by_cases c9 : t225 = 0
    · rw [if_pos c9] at H
      have c9b0 : (t225 == 0) = true := beq_iff_eq.mpr c9
      have c9b1 : (t225 != 0) = false := bne_eq_false_iff_eq.mpr c9
      clear c9
      (first | rw [c9b0] | (simp only [i64_w, i32_w]; rw [c9b0]) | skip)
      have H' := Aside0.mk H
      clear H
      go_wp2
      go_meet
      case rel => exact ⟨_, (((t224.size : Int) == 0)), (by first | rfl | (simp; done) | (simp [*]; done)), H', ⟨by first | omega | exact Nat.le_refl _⟩, ⟨by (with_reducible repeat (first | refine blk_drewN ?_ _ | refine blk_drew ?_ | refine blk_alloc ?_ _)); exact BK223.out⟩, ⟨by repeat (first | (with_reducible first | exact HB.out | apply below_alloc | apply pw_below_drewN | apply below_drew1 | refine below_set ?_ GE223.out) | exact HB.out)⟩⟩
    · rw [if_neg c9] at H
      have c9b0 : (t225 == 0) = false := beq_eq_false_iff_ne.mpr c9
      have c9b1 : (t225 != 0) = true := bne_iff_ne.mpr c9
      (first | rw [c9b0] | (simp only [i64_w, i32_w]; rw [c9b0]) | skip)
      have H' := Aside0.mk H
      clear H
      go_wp2
      go_meet
      case rel => exact ⟨_, (true), (by first | rfl | (simp; done) | (simp [*]; done)), H', ⟨by first | omega | exact Nat.le_refl _⟩, ⟨by (with_reducible repeat (first | refine blk_drewN ?_ _ | refine blk_drew ?_ | refine blk_alloc ?_ _)); exact BK223.out⟩, ⟨by repeat (first | (with_reducible first | exact HB.out | apply below_alloc | apply pw_below_drewN | apply below_drew1 | refine below_set ?_ GE223.out) | exact HB.out)⟩⟩
  case rest =>
    clear HC5
    try clear c1
    try clear p2
    try clear c7
    try clear c9
    try clear c9b0
    try clear c9b1
    try clear hcz7_0
    try clear hcz7_1
    try clear hcz7_2
    try clear hcz7_3
    try clear hcz7_4
    try clear hfz7_0
    try clear hfz7_1
    try clear hfz7_2
    try clear hfz7_3
    try clear hfz7_4
    obtain ⟨kq, x26_4, rfl, HA, HJ4, BK223, HB⟩ := hcut
    cases kq with
    | zero => exact absurd HA.out (by simp [tattlelaw16_DiskTurns.j0])
    | succ kj4 =>
      have H := HA.out
      clear HA
      simp only [tattlelaw16_DiskTurns.j0] at H
      by_cases c10 : x26_4 = true
      · subst c10
        have H1 : (if t225 = 1 then ((tattlelaw16_awake.f kj4).bind fun t226 => (some t226)) else (none)) = some r := by rw [if_pos rfl] at H; exact H
        clear H
        have H := H1
        clear H1
        by_cases c11 : t225 = 1
        · rw [if_pos c11] at H
          have c11b0 : (t225 == 1) = true := beq_iff_eq.mpr c11
          have c11b1 : (t225 != 1) = false := bne_eq_false_iff_eq.mpr c11
          clear c11
          replace H := Option.bind_eq_some_iff.mp H
          obtain ⟨t226, A120, H⟩ := H
          replace H : (some t226) = some r := H
          have A12 := Aside0.mk A120
          clear A120
          obtain rfl := Option.some.inj H
          go_wp2_with (first | (go_at_call 16; (with_reducible refine (tattlelaw16_awake.calls kj4  t226 _ A12.out).mono ?_); rintro e w13 ⟨rfl, hb⟩; have n0_ := Aside0.mk (blk_below (g := gb223) (o := .cells #[.int .u64 a0_0, .int .u64 a0_1, .int .u64 a0_2, .int .u64 a0_3, .int .i64 a0_4] 26 (0, 0)) (by (with_reducible repeat (first | refine blk_drewN ?_ _ | refine blk_drew ?_ | refine blk_alloc ?_ _)); exact BK223.out) hb); have n1_ := Aside0.mk (below_step (by repeat (first | (with_reducible first | exact HB.out | apply below_alloc | apply pw_below_drewN | apply below_drew1 | refine below_set ?_ GE223.out) | exact HB.out)) hb); clear BK223; clear HB; have BK223 := n0_; have HB := n1_; clear n0_ n1_; (try clear hb); (try clear hb2); (try clear hk); (try clear hi)))
          go_ret
          exact ⟨by first | rfl | (simp [errW_none, errW_some] <;> rfl) | (simp [*, errW_none, errW_some] <;> rfl), by repeat (first | (with_reducible first | exact HB.out | apply below_alloc | apply pw_below_drewN | apply below_drew1 | refine below_set ?_ GE223.out) | exact HB.out)⟩
        · rw [if_neg c11] at H
          exact absurd H (by simp)
      · replace c10 := Bool.eq_false_iff.mpr c10
        subst c10
        have H1 : (tattlelaw16_DiskTurns.l0 kj4 a1 a2 t224 t224 0 a0_0 a0_1 a0_2 a0_3 a0_4) = some r := by rw [if_neg (show ¬ (false = true) by decide)] at H; exact H
        clear H
        have H := H1
        clear H1
        have H' := Aside0.mk H
        clear H
        go_wp2
        go_loopg [9, 10] kj4 (fun kq v9 v10 w' => ∃ (x9_2 : ByteArray) (x10_2 : Int), v9 = .string x9_2 ∧ v10 = .int .i64 x10_2 ∧ Aside0 (tattlelaw16_DiskTurns.l0 kq a1 a2 t224 x9_2 x10_2 a0_0 a0_1 a0_2 a0_3 a0_4 = some r) ∧ Aside0 (kq ≤ kj4) ∧ Aside0 (w'.heap[gb223]? = some (.cells #[.int .u64 a0_0, .int .u64 a0_1, .int .u64 a0_2, .int .u64 a0_3, .int .i64 a0_4] 26 (0, 0))) ∧ Aside0 (Below w.heap.size w w'))
        case atStart => exact ⟨(t224), (0), (by first | rfl | (simp; done) | (simp [*]; done)), (by first | rfl | (simp; done) | (simp [*]; done)), H', ⟨Nat.le_refl _⟩, ⟨by (with_reducible repeat (first | refine blk_drewN ?_ _ | refine blk_drew ?_ | refine blk_alloc ?_ _)); exact BK223.out⟩, ⟨by repeat (first | (with_reducible first | exact HB.out | apply below_alloc | apply pw_below_drewN | apply below_drew1 | refine below_set ?_ GE223.out) | exact HB.out)⟩⟩
        case round =>
          clear H'
          try clear c1
          try clear p2
          try clear c7
          try clear c9
          try clear c9b0
          try clear c9b1
          try clear c10
          try clear c11
          try clear c11b0
          try clear c11b1
          try clear hcz7_0
          try clear hcz7_1
          try clear hcz7_2
          try clear hcz7_3
          try clear hcz7_4
          try clear hfz7_0
          try clear hfz7_1
          try clear hfz7_2
          try clear hfz7_3
          try clear hfz7_4
          try clear p2
          obtain ⟨x9_2, x10_2, rfl, rfl, HA, HK2, BK223, HB⟩ := hrel
          cases gk with
          | zero => exact absurd HA.out (by simp [tattlelaw16_DiskTurns.l0])
          | succ k2 =>
            have H := HA.out
            clear HA
            simp only [tattlelaw16_DiskTurns.l0] at H
            by_cases c14 : x10_2 < 32
            · rw [if_pos c14] at H
              have c14b0 : decide (x10_2 < 32) = true := decide_eq_true c14
              clear c14
              by_cases c15 : 0 ≤ x10_2
              · rw [if_pos c15] at H
                have c15b0 := eq_true c15
                have c15b1 : decide (0 ≤ x10_2) = true := decide_eq_true c15
                clear c15
                obtain ⟨ji16, hji16⟩ : ∃ j_ : Int, (shr .u32 a2 x10_2) = j_ := ⟨_, rfl⟩
                replace H : (if (Go.bits .and .u32 (ji16) 1) = 1 then (if (wrap64 (8 * (t224.size : Int))) = 0 then (none) else ((tattleref01_Turn.f x9_2 (wrap64 ((Int.tmod (wrap64 (a1)) (wrap64 (8 * (t224.size : Int)))) + x10_2))).bind fun t227 => (tattlelaw16_DiskTurns.l0 k2 a1 a2 t224 t227 (wrap64 (x10_2 + 1)) a0_0 a0_1 a0_2 a0_3 a0_4))) else (tattlelaw16_DiskTurns.l0 k2 a1 a2 t224 x9_2 (wrap64 (x10_2 + 1)) a0_0 a0_1 a0_2 a0_3 a0_4)) = some r := by first | (rw [hji16] at H; exact H) | (simp only [hji16] at H ⊢; exact H)
                have hji16_ : (a2 / 2 ^ min x10_2.toNat 32) = ji16 := hji16
                have hji16z : x10_2 ≤ 32 → (a2 / 2 ^ x10_2.toNat) = ji16 := shr_small hji16
                by_cases c17 : (Go.bits .and .u32 (ji16) 1) = 1
                · rw [if_pos c17] at H
                  have c17b0 : ((Go.bits .and .u32 (ji16) 1) == 1) = true := beq_iff_eq.mpr c17
                  have c17b1 : ((Go.bits .and .u32 (ji16) 1) != 1) = false := bne_eq_false_iff_eq.mpr c17
                  clear c17
                  by_cases c18 : (wrap64 (8 * (t224.size : Int))) = 0
                  · rw [if_pos c18] at H
                    exact absurd H (by simp)
                  · rw [if_neg c18] at H
                    have c18b0 : ((wrap64 (8 * (t224.size : Int))) == 0) = false := beq_eq_false_iff_ne.mpr c18
                    have c18b1 : ((wrap64 (8 * (t224.size : Int))) != 0) = true := bne_iff_ne.mpr c18
                    replace H := Option.bind_eq_some_iff.mp H
                    obtain ⟨t227, A190, H⟩ := H
                    replace H : (tattlelaw16_DiskTurns.l0 k2 a1 a2 t224 t227 (wrap64 (x10_2 + 1)) a0_0 a0_1 a0_2 a0_3 a0_4) = some r := H
                    have A19 := Aside0.mk A190
                    clear A190
                    have H' := Aside0.mk H
                    clear H
                    go_wp2_with (first | ((with_reducible refine gate_callee (f := 21) rfl ?_); refine goesL_ (some 51) rfl rfl Try.func21 (by kernel_rfl) rfl #[.string x9_2, .int .i64 (wrap64 ((Int.tmod (wrap64 (a1)) (wrap64 (8 * (t224.size : Int)))) + x10_2))] rfl (by (try simp only [List.map_toArray, List.map_cons, List.map_nil]); first | done | rfl | (simp only [List.length_drop, List.length_take]; rfl)) ?_; (with_reducible refine (tattleref01_Turn.calls x9_2 (wrap64 ((Int.tmod (wrap64 (a1)) (wrap64 (8 * (t224.size : Int)))) + x10_2)) t227 _ A19.out).mono ?_); rintro e w20 ⟨rfl, hb⟩; refine ⟨_, rfl, ?_⟩; have n0_ := Aside0.mk (blk_below (g := gb223) (o := .cells #[.int .u64 a0_0, .int .u64 a0_1, .int .u64 a0_2, .int .u64 a0_3, .int .i64 a0_4] 26 (0, 0)) (by (with_reducible repeat (first | refine blk_drewN ?_ _ | refine blk_drew ?_ | refine blk_alloc ?_ _)); exact BK223.out) hb); have n1_ := Aside0.mk (below_step (by repeat (first | (with_reducible first | exact HB.out | apply below_alloc | apply pw_below_drewN | apply below_drew1 | refine below_set ?_ GE223.out) | exact HB.out)) hb); clear BK223; clear HB; have BK223 := n0_; have HB := n1_; clear n0_ n1_; (try clear hb); (try clear hb2); (try clear hk); (try clear hi)))
                    go_roundg k2
                    case measure => have := HJ4.out; have := HK2.out; omega
                    case rel => exact ⟨(t227), (wrap64 (x10_2 + 1)), (by first | rfl | (simp; done) | (simp [*]; done)), (by first | rfl | (simp; done) | (simp [*]; done)), H', ⟨by have := HJ4.out; have := HK2.out; omega⟩, ⟨by (with_reducible repeat (first | refine blk_drewN ?_ _ | refine blk_drew ?_ | refine blk_alloc ?_ _)); exact BK223.out⟩, ⟨by repeat (first | (with_reducible first | exact HB.out | apply below_alloc | apply pw_below_drewN | apply below_drew1 | refine below_set ?_ GE223.out) | exact HB.out)⟩⟩
                · rw [if_neg c17] at H
                  have c17b0 : ((Go.bits .and .u32 (ji16) 1) == 1) = false := beq_eq_false_iff_ne.mpr c17
                  have c17b1 : ((Go.bits .and .u32 (ji16) 1) != 1) = true := bne_iff_ne.mpr c17
                  have H' := Aside0.mk H
                  clear H
                  go_wp2
                  go_roundg k2
                  case measure => have := HJ4.out; have := HK2.out; omega
                  case rel => exact ⟨(x9_2), (wrap64 (x10_2 + 1)), (by first | rfl | (simp; done) | (simp [*]; done)), (by first | rfl | (simp; done) | (simp [*]; done)), H', ⟨by have := HJ4.out; have := HK2.out; omega⟩, ⟨by (with_reducible repeat (first | refine blk_drewN ?_ _ | refine blk_drew ?_ | refine blk_alloc ?_ _)); exact BK223.out⟩, ⟨by repeat (first | (with_reducible first | exact HB.out | apply below_alloc | apply pw_below_drewN | apply below_drew1 | refine below_set ?_ GE223.out) | exact HB.out)⟩⟩
              · rw [if_neg c15] at H
                exact absurd H (by simp)
            · rw [if_neg c14] at H
              have c14b0 : decide (x10_2 < 32) = false := decide_eq_false c14
              clear c14
              replace H := Option.bind_eq_some_iff.mp H
              obtain ⟨⟨t228, t229, t230, t231, t232, t233⟩, A210, H⟩ := H
              replace H : (if (t224.size : Int) = 0 then (none) else (if 0 ≤ (Int.tmod (wrap64 (a1)) (t224.size : Int)) then (if (Int.tmod (wrap64 (a1)) (t224.size : Int)) ≤ (t224.size : Int) then ((disk_Parse.f k2 (t224.extract 0 ((Int.tmod (wrap64 (a1)) (t224.size : Int)) : Int).toNat)).bind fun bt235 => (if bt235.2.2.2.2.2 = 0 then (none) else (if x9_2.toList = t224.toList then (if (t228 == a0_0 && (t229 == a0_1 && (t230 == a0_2 && (t231 == a0_3 && (t232 == a0_4))))) = true then (if t233 = 0 then ((tattlelaw16_awake.f k2).bind fun t242 => (some t242)) else (none)) else (none)) else (if (t228 == 0 && (t229 == 0 && (t230 == 0 && (t231 == 0 && (t232 == 0))))) = true then (if t233 = 10 then ((tattlelaw16_awake.f k2).bind fun t243 => (some t243)) else (none)) else (none))))) else (none)) else (none))) = some r := H
              have A21 := Aside0.mk A210
              clear A210
              by_cases c22 : (t224.size : Int) = 0
              · rw [if_pos c22] at H
                exact absurd H (by simp)
              · rw [if_neg c22] at H
                have c22b0 : ((t224.size : Int) == 0) = false := beq_eq_false_iff_ne.mpr c22
                have c22b1 : ((t224.size : Int) != 0) = true := bne_iff_ne.mpr c22
                obtain ⟨ji23, hji23⟩ : ∃ j_ : Int, (Int.tmod (wrap64 (a1)) (t224.size : Int)) = j_ := ⟨_, rfl⟩
                replace H : (if 0 ≤ (ji23) then (if (ji23) ≤ (t224.size : Int) then ((disk_Parse.f k2 (t224.extract 0 ((ji23) : Int).toNat)).bind fun bt235 => (if bt235.2.2.2.2.2 = 0 then (none) else (if x9_2.toList = t224.toList then (if (t228 == a0_0 && (t229 == a0_1 && (t230 == a0_2 && (t231 == a0_3 && (t232 == a0_4))))) = true then (if t233 = 0 then ((tattlelaw16_awake.f k2).bind fun t242 => (some t242)) else (none)) else (none)) else (if (t228 == 0 && (t229 == 0 && (t230 == 0 && (t231 == 0 && (t232 == 0))))) = true then (if t233 = 10 then ((tattlelaw16_awake.f k2).bind fun t243 => (some t243)) else (none)) else (none))))) else (none)) else (none)) = some r := by first | (rw [hji23] at H; exact H) | (simp only [hji23] at H ⊢; exact H)
                (try rw [hji23] at A21)
                by_cases c24 : 0 ≤ (ji23)
                · rw [if_pos c24] at H
                  have c24b0 := eq_true c24
                  have c24b1 : decide (0 ≤ (ji23)) = true := decide_eq_true c24
                  clear c24
                  by_cases c25 : (ji23) ≤ (t224.size : Int)
                  · rw [if_pos c25] at H
                    have c25b0 := eq_true c25
                    have c25b1 : decide ((ji23) ≤ (t224.size : Int)) = true := decide_eq_true c25
                    clear c25
                    replace H := Option.bind_eq_some_iff.mp H
                    obtain ⟨⟨t235, t236, t237, t238, t239, t240⟩, A260, H⟩ := H
                    replace H : (if t240 = 0 then (none) else (if x9_2.toList = t224.toList then (if (t228 == a0_0 && (t229 == a0_1 && (t230 == a0_2 && (t231 == a0_3 && (t232 == a0_4))))) = true then (if t233 = 0 then ((tattlelaw16_awake.f k2).bind fun t242 => (some t242)) else (none)) else (none)) else (if (t228 == 0 && (t229 == 0 && (t230 == 0 && (t231 == 0 && (t232 == 0))))) = true then (if t233 = 10 then ((tattlelaw16_awake.f k2).bind fun t243 => (some t243)) else (none)) else (none)))) = some r := H
                    have A26 := Aside0.mk A260
                    clear A260
                    by_cases c27 : t240 = 0
                    · rw [if_pos c27] at H
                      exact absurd H (by simp)
                    · rw [if_neg c27] at H
                      have c27b0 : (t240 == 0) = false := beq_eq_false_iff_ne.mpr c27
                      have c27b1 : (t240 != 0) = true := bne_iff_ne.mpr c27
                      by_cases c28 : x9_2.toList = t224.toList
                      · rw [if_pos c28] at H
                        have c28b0 : (x9_2.toList == t224.toList) = true := beq_iff_eq.mpr c28
                        have c28b1 : (x9_2.toList != t224.toList) = false := bne_eq_false_iff_eq.mpr c28
                        clear c28
                        by_cases c29 : (t228 == a0_0 && (t229 == a0_1 && (t230 == a0_2 && (t231 == a0_3 && (t232 == a0_4))))) = true
                        · rw [if_pos c29] at H
                          have c29b0 : (t228 == a0_0 && (t229 == a0_1 && (t230 == a0_2 && (t231 == a0_3 && (t232 == a0_4))))) = true := c29
                          (try (have c29b1 : decide (t228 = a0_0 && (t229 == a0_1 && (t230 == a0_2 && (t231 == a0_3 && (t232 == a0_4))))) = true := by simpa using c29))
                          (try (have c29b2 : (t228 == a0_0 && (t229 == a0_1 && (t230 == a0_2 && (t231 == a0_3 && (t232 == a0_4))))) = true := by simpa using c29))
                          clear c29
                          by_cases c30 : t233 = 0
                          · rw [if_pos c30] at H
                            have c30b0 : (t233 == 0) = true := beq_iff_eq.mpr c30
                            have c30b1 : (t233 != 0) = false := bne_eq_false_iff_eq.mpr c30
                            clear c30
                            replace H := Option.bind_eq_some_iff.mp H
                            obtain ⟨t242, A310, H⟩ := H
                            replace H : (some t242) = some r := H
                            have A31 := Aside0.mk A310
                            clear A310
                            obtain rfl := Option.some.inj H
                            go_wp2_with (first | ((with_reducible refine gate_callee (f := 10) rfl ?_); refine goesL_ (some 54) rfl rfl Try.func10 (by kernel_rfl) rfl #[.string x9_2] rfl (by (try simp only [List.map_toArray, List.map_cons, List.map_nil]); first | done | rfl | (simp only [List.length_drop, List.length_take]; rfl)) ?_; (with_reducible refine (disk_Parse.calls k2 x9_2 t228 t229 t230 t231 t232 t233 _ A21.out).mono ?_); rintro e w32 ⟨rfl, hb⟩; refine ⟨_, rfl, ?_⟩; have n0_ := Aside0.mk (blk_below (g := gb223) (o := .cells #[.int .u64 a0_0, .int .u64 a0_1, .int .u64 a0_2, .int .u64 a0_3, .int .i64 a0_4] 26 (0, 0)) (by (with_reducible repeat (first | refine blk_drewN ?_ _ | refine blk_drew ?_ | refine blk_alloc ?_ _)); exact BK223.out) hb); have n1_ := Aside0.mk (below_step (by repeat (first | (with_reducible first | exact HB.out | apply below_alloc | apply pw_below_drewN | apply below_drew1 | refine below_set ?_ GE223.out) | exact HB.out)) hb); clear BK223; clear HB; have BK223 := n0_; have HB := n1_; clear n0_ n1_; (try clear hb); (try clear hb2); (try clear hk); (try clear hi)) | ((with_reducible refine gate_dst (N := 11) rfl ?_); (try (refine gate_guard (by rfl) ?_; dsimp only)); refine box_event ?hg (N := 11) ?hd (cs := #[.int .u64 0, .int .u64 0, .int .u64 0, .int .u64 0, .int .i64 0]) (t := 26) ?hr ?_; (case hd => rfl); (case hg => rfl); (case hr => first | (go_simp; done) | (go_simp; rfl)); intro gb234 hg w33 hbox hb; have n0_ := Aside0.mk (blk_below (g := gb223) (o := .cells #[.int .u64 a0_0, .int .u64 a0_1, .int .u64 a0_2, .int .u64 a0_3, .int .i64 a0_4] 26 (0, 0)) (by (with_reducible repeat (first | refine blk_drewN ?_ _ | refine blk_drew ?_ | refine blk_alloc ?_ _)); exact BK223.out) hb); have n1_ := Aside0.mk (below_step (by repeat (first | (with_reducible first | exact HB.out | apply below_alloc | apply pw_below_drewN | apply below_drew1 | refine below_set ?_ GE223.out) | exact HB.out)) hb); have n2_ := Aside0.mk (hbox); have n3_ := Aside0.mk ((by rw [hg]; exact (below_size (by repeat (first | (with_reducible first | exact HB.out | apply below_alloc | apply pw_below_drewN | apply below_drew1 | refine below_set ?_ GE223.out) | exact HB.out))) : w.heap.size ≤ gb234)); have n4_ := Aside0.mk ((by rw [hg]; exact (below_size (by repeat (first | (with_reducible first | exact HB.out | apply below_alloc | apply pw_below_drewN | apply below_drew1 | refine below_set ?_ GE223.out) | exact HB.out))) : w.heap.size ≤ gb234)); have n5_ := Aside0.mk ((by rw [hg]; exact Nat.ne_of_lt (blk_lt (g := gb223) (o := .cells #[.int .u64 a0_0, .int .u64 a0_1, .int .u64 a0_2, .int .u64 a0_3, .int .i64 a0_4] 26 (0, 0)) (by (with_reducible repeat (first | refine blk_drewN ?_ _ | refine blk_drew ?_ | refine blk_alloc ?_ _)); exact BK223.out)) : gb223 ≠ gb234)); have n6_ := Aside0.mk ((by rw [hg]; exact Nat.ne_of_gt (blk_lt (g := gb223) (o := .cells #[.int .u64 a0_0, .int .u64 a0_1, .int .u64 a0_2, .int .u64 a0_3, .int .i64 a0_4] 26 (0, 0)) (by (with_reducible repeat (first | refine blk_drewN ?_ _ | refine blk_drew ?_ | refine blk_alloc ?_ _)); exact BK223.out)) : gb234 ≠ gb223)); clear BK223; clear HB; have BK223 := n0_; have HB := n1_; have BK234 := n2_; have GW234 := n3_; have GE234 := n4_; have NB223_234 := n5_; have NB234_223 := n6_; clear n0_ n1_ n2_ n3_ n4_ n5_ n6_; clear hb hbox hg; have hnb34 := NB234_223.out; have hnc34 := NB223_234.out; have hcz35_0 : w33.cell? ⟨gb234, 0, none⟩ = some (.int .u64 0) := (blk_cell BK234.out 0).trans rfl; have hcz35_1 : w33.cell? ⟨gb234, 1, none⟩ = some (.int .u64 0) := (blk_cell BK234.out 1).trans rfl; have hcz35_2 : w33.cell? ⟨gb234, 2, none⟩ = some (.int .u64 0) := (blk_cell BK234.out 2).trans rfl; have hcz35_3 : w33.cell? ⟨gb234, 3, none⟩ = some (.int .u64 0) := (blk_cell BK234.out 3).trans rfl; have hcz35_4 : w33.cell? ⟨gb234, 4, none⟩ = some (.int .i64 0) := (blk_cell BK234.out 4).trans rfl; have hfz35_0 := blk_frozen BK234.out 0; have hfz35_1 := blk_frozen BK234.out 1; have hfz35_2 := blk_frozen BK234.out 2; have hfz35_3 := blk_frozen BK234.out 3; have hfz35_4 := blk_frozen BK234.out 4) | ((with_reducible refine gate_callee (f := 10) rfl ?_); refine goesL_ (some 65) rfl rfl Try.func10 (by kernel_rfl) rfl #[.string (t224.extract 0 ((ji23) : Int).toNat)] rfl (by (try simp only [List.map_toArray, List.map_cons, List.map_nil]); first | done | (simp only [hji23]; rfl) | rfl | (simp only [List.length_drop, List.length_take]; rfl)) ?_; (with_reducible refine (disk_Parse.calls k2 (t224.extract 0 ((ji23) : Int).toNat) t235 t236 t237 t238 t239 t240 _ A26.out).mono ?_); rintro e w36 ⟨rfl, hb⟩; refine ⟨_, rfl, ?_⟩; have n0_ := Aside0.mk (blk_below (g := gb223) (o := .cells #[.int .u64 a0_0, .int .u64 a0_1, .int .u64 a0_2, .int .u64 a0_3, .int .i64 a0_4] 26 (0, 0)) (by (with_reducible repeat (first | refine blk_drewN ?_ _ | refine blk_drew ?_ | refine blk_alloc ?_ _)); refine blk_far ?_ NB223_234.out _; (with_reducible repeat (first | refine blk_drewN ?_ _ | refine blk_drew ?_ | refine blk_alloc ?_ _)); refine blk_far ?_ NB223_234.out _; (with_reducible repeat (first | refine blk_drewN ?_ _ | refine blk_drew ?_ | refine blk_alloc ?_ _)); refine blk_far ?_ NB223_234.out _; (with_reducible repeat (first | refine blk_drewN ?_ _ | refine blk_drew ?_ | refine blk_alloc ?_ _)); refine blk_far ?_ NB223_234.out _; (with_reducible repeat (first | refine blk_drewN ?_ _ | refine blk_drew ?_ | refine blk_alloc ?_ _)); refine blk_far ?_ NB223_234.out _; (with_reducible repeat (first | refine blk_drewN ?_ _ | refine blk_drew ?_ | refine blk_alloc ?_ _)); exact BK223.out) hb); have n1_ := Aside0.mk (blk_below (g := gb234) (o := .cells #[.int .u64 t228, .int .u64 t229, .int .u64 t230, .int .u64 t231, .int .i64 t232] 26 (0, 0)) (by (with_reducible repeat (first | refine blk_drewN ?_ _ | refine blk_drew ?_ | refine blk_alloc ?_ _)); refine blk_put (cs := #[.int .u64 t228, .int .u64 t229, .int .u64 t230, .int .u64 t231, .int .i64 0]) ?_ 4 _ rfl; (with_reducible repeat (first | refine blk_drewN ?_ _ | refine blk_drew ?_ | refine blk_alloc ?_ _)); refine blk_put (cs := #[.int .u64 t228, .int .u64 t229, .int .u64 t230, .int .u64 0, .int .i64 0]) ?_ 3 _ rfl; (with_reducible repeat (first | refine blk_drewN ?_ _ | refine blk_drew ?_ | refine blk_alloc ?_ _)); refine blk_put (cs := #[.int .u64 t228, .int .u64 t229, .int .u64 0, .int .u64 0, .int .i64 0]) ?_ 2 _ rfl; (with_reducible repeat (first | refine blk_drewN ?_ _ | refine blk_drew ?_ | refine blk_alloc ?_ _)); refine blk_put (cs := #[.int .u64 t228, .int .u64 0, .int .u64 0, .int .u64 0, .int .i64 0]) ?_ 1 _ rfl; (with_reducible repeat (first | refine blk_drewN ?_ _ | refine blk_drew ?_ | refine blk_alloc ?_ _)); refine blk_put (cs := #[.int .u64 0, .int .u64 0, .int .u64 0, .int .u64 0, .int .i64 0]) ?_ 0 _ rfl; (with_reducible repeat (first | refine blk_drewN ?_ _ | refine blk_drew ?_ | refine blk_alloc ?_ _)); exact BK234.out) hb); have n2_ := Aside0.mk (below_step (by repeat (first | (with_reducible first | exact HB.out | apply below_alloc | apply pw_below_drewN | apply below_drew1 | refine below_set ?_ GE223.out | refine below_set ?_ GE234.out) | exact HB.out)) hb); clear BK223; clear BK234; clear HB; have BK223 := n0_; have BK234 := n1_; have HB := n2_; clear n0_ n1_ n2_; (try clear hb); (try clear hb2); (try clear hk); (try clear hi)) | ((with_reducible refine gate_dst (N := 13) rfl ?_); (try (refine gate_guard (by rfl) ?_; dsimp only)); refine box_event ?hg (N := 13) ?hd (cs := #[.int .u64 0, .int .u64 0, .int .u64 0, .int .u64 0, .int .i64 0]) (t := 26) ?hr ?_; (case hd => rfl); (case hg => rfl); (case hr => first | (go_simp; done) | (go_simp; rfl)); intro gb241 hg w37 hbox hb; have n0_ := Aside0.mk (blk_below (g := gb223) (o := .cells #[.int .u64 a0_0, .int .u64 a0_1, .int .u64 a0_2, .int .u64 a0_3, .int .i64 a0_4] 26 (0, 0)) (by (with_reducible repeat (first | refine blk_drewN ?_ _ | refine blk_drew ?_ | refine blk_alloc ?_ _)); exact BK223.out) hb); have n1_ := Aside0.mk (blk_below (g := gb234) (o := .cells #[.int .u64 t228, .int .u64 t229, .int .u64 t230, .int .u64 t231, .int .i64 t232] 26 (0, 0)) (by (with_reducible repeat (first | refine blk_drewN ?_ _ | refine blk_drew ?_ | refine blk_alloc ?_ _)); exact BK234.out) hb); have n2_ := Aside0.mk (below_step (by repeat (first | (with_reducible first | exact HB.out | apply below_alloc | apply pw_below_drewN | apply below_drew1 | refine below_set ?_ GE223.out | refine below_set ?_ GE234.out) | exact HB.out)) hb); have n3_ := Aside0.mk (hbox); have n4_ := Aside0.mk ((by rw [hg]; exact (below_size (by repeat (first | (with_reducible first | exact HB.out | apply below_alloc | apply pw_below_drewN | apply below_drew1 | refine below_set ?_ GE223.out | refine below_set ?_ GE234.out) | exact HB.out))) : w.heap.size ≤ gb241)); have n5_ := Aside0.mk ((by rw [hg]; exact (below_size (by repeat (first | (with_reducible first | exact HB.out | apply below_alloc | apply pw_below_drewN | apply below_drew1 | refine below_set ?_ GE223.out | refine below_set ?_ GE234.out) | exact HB.out))) : w.heap.size ≤ gb241)); have n6_ := Aside0.mk ((by rw [hg]; exact Nat.ne_of_lt (blk_lt (g := gb223) (o := .cells #[.int .u64 a0_0, .int .u64 a0_1, .int .u64 a0_2, .int .u64 a0_3, .int .i64 a0_4] 26 (0, 0)) (by (with_reducible repeat (first | refine blk_drewN ?_ _ | refine blk_drew ?_ | refine blk_alloc ?_ _)); exact BK223.out)) : gb223 ≠ gb241)); have n7_ := Aside0.mk ((by rw [hg]; exact Nat.ne_of_gt (blk_lt (g := gb223) (o := .cells #[.int .u64 a0_0, .int .u64 a0_1, .int .u64 a0_2, .int .u64 a0_3, .int .i64 a0_4] 26 (0, 0)) (by (with_reducible repeat (first | refine blk_drewN ?_ _ | refine blk_drew ?_ | refine blk_alloc ?_ _)); exact BK223.out)) : gb241 ≠ gb223)); have n8_ := Aside0.mk ((by rw [hg]; exact Nat.ne_of_lt (blk_lt (g := gb234) (o := .cells #[.int .u64 t228, .int .u64 t229, .int .u64 t230, .int .u64 t231, .int .i64 t232] 26 (0, 0)) (by (with_reducible repeat (first | refine blk_drewN ?_ _ | refine blk_drew ?_ | refine blk_alloc ?_ _)); exact BK234.out)) : gb234 ≠ gb241)); have n9_ := Aside0.mk ((by rw [hg]; exact Nat.ne_of_gt (blk_lt (g := gb234) (o := .cells #[.int .u64 t228, .int .u64 t229, .int .u64 t230, .int .u64 t231, .int .i64 t232] 26 (0, 0)) (by (with_reducible repeat (first | refine blk_drewN ?_ _ | refine blk_drew ?_ | refine blk_alloc ?_ _)); exact BK234.out)) : gb241 ≠ gb234)); clear BK223; clear BK234; clear HB; have BK223 := n0_; have BK234 := n1_; have HB := n2_; have BK241 := n3_; have GW241 := n4_; have GE241 := n5_; have NB223_241 := n6_; have NB241_223 := n7_; have NB234_241 := n8_; have NB241_234 := n9_; clear n0_ n1_ n2_ n3_ n4_ n5_ n6_ n7_ n8_ n9_; clear hb hbox hg; have hnb38 := NB241_223.out; have hnc38 := NB223_241.out; have hnb39 := NB241_234.out; have hnc39 := NB234_241.out; have hcz40_0 : w37.cell? ⟨gb241, 0, none⟩ = some (.int .u64 0) := (blk_cell BK241.out 0).trans rfl; have hcz40_1 : w37.cell? ⟨gb241, 1, none⟩ = some (.int .u64 0) := (blk_cell BK241.out 1).trans rfl; have hcz40_2 : w37.cell? ⟨gb241, 2, none⟩ = some (.int .u64 0) := (blk_cell BK241.out 2).trans rfl; have hcz40_3 : w37.cell? ⟨gb241, 3, none⟩ = some (.int .u64 0) := (blk_cell BK241.out 3).trans rfl; have hcz40_4 : w37.cell? ⟨gb241, 4, none⟩ = some (.int .i64 0) := (blk_cell BK241.out 4).trans rfl; have hfz40_0 := blk_frozen BK241.out 0; have hfz40_1 := blk_frozen BK241.out 1; have hfz40_2 := blk_frozen BK241.out 2; have hfz40_3 := blk_frozen BK241.out 3; have hfz40_4 := blk_frozen BK241.out 4; have hcz41_0 : w37.cell? ⟨gb234, 0, none⟩ = some (.int .u64 t228) := (blk_cell BK234.out 0).trans rfl; have hcz41_1 : w37.cell? ⟨gb234, 1, none⟩ = some (.int .u64 t229) := (blk_cell BK234.out 1).trans rfl; have hcz41_2 : w37.cell? ⟨gb234, 2, none⟩ = some (.int .u64 t230) := (blk_cell BK234.out 2).trans rfl; have hcz41_3 : w37.cell? ⟨gb234, 3, none⟩ = some (.int .u64 t231) := (blk_cell BK234.out 3).trans rfl; have hcz41_4 : w37.cell? ⟨gb234, 4, none⟩ = some (.int .i64 t232) := (blk_cell BK234.out 4).trans rfl; have hfz41_0 := blk_frozen BK234.out 0; have hfz41_1 := blk_frozen BK234.out 1; have hfz41_2 := blk_frozen BK234.out 2; have hfz41_3 := blk_frozen BK234.out 3; have hfz41_4 := blk_frozen BK234.out 4; have hcz42_0 : w37.cell? ⟨gb223, 0, none⟩ = some (.int .u64 a0_0) := (blk_cell BK223.out 0).trans rfl; have hcz42_1 : w37.cell? ⟨gb223, 1, none⟩ = some (.int .u64 a0_1) := (blk_cell BK223.out 1).trans rfl; have hcz42_2 : w37.cell? ⟨gb223, 2, none⟩ = some (.int .u64 a0_2) := (blk_cell BK223.out 2).trans rfl; have hcz42_3 : w37.cell? ⟨gb223, 3, none⟩ = some (.int .u64 a0_3) := (blk_cell BK223.out 3).trans rfl; have hcz42_4 : w37.cell? ⟨gb223, 4, none⟩ = some (.int .i64 a0_4) := (blk_cell BK223.out 4).trans rfl; have hfz42_0 := blk_frozen BK223.out 0; have hfz42_1 := blk_frozen BK223.out 1; have hfz42_2 := blk_frozen BK223.out 2; have hfz42_3 := blk_frozen BK223.out 3; have hfz42_4 := blk_frozen BK223.out 4) | (go_at_call 16; (with_reducible refine (tattlelaw16_awake.calls k2  t242 _ A31.out).mono ?_); rintro e w43 ⟨rfl, hb⟩; have n0_ := Aside0.mk (blk_below (g := gb223) (o := .cells #[.int .u64 a0_0, .int .u64 a0_1, .int .u64 a0_2, .int .u64 a0_3, .int .i64 a0_4] 26 (0, 0)) (by (with_reducible repeat (first | refine blk_drewN ?_ _ | refine blk_drew ?_ | refine blk_alloc ?_ _)); refine blk_far ?_ NB223_241.out _; (with_reducible repeat (first | refine blk_drewN ?_ _ | refine blk_drew ?_ | refine blk_alloc ?_ _)); refine blk_far ?_ NB223_241.out _; (with_reducible repeat (first | refine blk_drewN ?_ _ | refine blk_drew ?_ | refine blk_alloc ?_ _)); refine blk_far ?_ NB223_241.out _; (with_reducible repeat (first | refine blk_drewN ?_ _ | refine blk_drew ?_ | refine blk_alloc ?_ _)); refine blk_far ?_ NB223_241.out _; (with_reducible repeat (first | refine blk_drewN ?_ _ | refine blk_drew ?_ | refine blk_alloc ?_ _)); refine blk_far ?_ NB223_241.out _; (with_reducible repeat (first | refine blk_drewN ?_ _ | refine blk_drew ?_ | refine blk_alloc ?_ _)); exact BK223.out) hb); have n1_ := Aside0.mk (blk_below (g := gb234) (o := .cells #[.int .u64 t228, .int .u64 t229, .int .u64 t230, .int .u64 t231, .int .i64 t232] 26 (0, 0)) (by (with_reducible repeat (first | refine blk_drewN ?_ _ | refine blk_drew ?_ | refine blk_alloc ?_ _)); refine blk_far ?_ NB234_241.out _; (with_reducible repeat (first | refine blk_drewN ?_ _ | refine blk_drew ?_ | refine blk_alloc ?_ _)); refine blk_far ?_ NB234_241.out _; (with_reducible repeat (first | refine blk_drewN ?_ _ | refine blk_drew ?_ | refine blk_alloc ?_ _)); refine blk_far ?_ NB234_241.out _; (with_reducible repeat (first | refine blk_drewN ?_ _ | refine blk_drew ?_ | refine blk_alloc ?_ _)); refine blk_far ?_ NB234_241.out _; (with_reducible repeat (first | refine blk_drewN ?_ _ | refine blk_drew ?_ | refine blk_alloc ?_ _)); refine blk_far ?_ NB234_241.out _; (with_reducible repeat (first | refine blk_drewN ?_ _ | refine blk_drew ?_ | refine blk_alloc ?_ _)); exact BK234.out) hb); have n2_ := Aside0.mk (blk_below (g := gb241) (o := .cells #[.int .u64 t235, .int .u64 t236, .int .u64 t237, .int .u64 t238, .int .i64 t239] 26 (0, 0)) (by (with_reducible repeat (first | refine blk_drewN ?_ _ | refine blk_drew ?_ | refine blk_alloc ?_ _)); refine blk_put (cs := #[.int .u64 t235, .int .u64 t236, .int .u64 t237, .int .u64 t238, .int .i64 0]) ?_ 4 _ rfl; (with_reducible repeat (first | refine blk_drewN ?_ _ | refine blk_drew ?_ | refine blk_alloc ?_ _)); refine blk_put (cs := #[.int .u64 t235, .int .u64 t236, .int .u64 t237, .int .u64 0, .int .i64 0]) ?_ 3 _ rfl; (with_reducible repeat (first | refine blk_drewN ?_ _ | refine blk_drew ?_ | refine blk_alloc ?_ _)); refine blk_put (cs := #[.int .u64 t235, .int .u64 t236, .int .u64 0, .int .u64 0, .int .i64 0]) ?_ 2 _ rfl; (with_reducible repeat (first | refine blk_drewN ?_ _ | refine blk_drew ?_ | refine blk_alloc ?_ _)); refine blk_put (cs := #[.int .u64 t235, .int .u64 0, .int .u64 0, .int .u64 0, .int .i64 0]) ?_ 1 _ rfl; (with_reducible repeat (first | refine blk_drewN ?_ _ | refine blk_drew ?_ | refine blk_alloc ?_ _)); refine blk_put (cs := #[.int .u64 0, .int .u64 0, .int .u64 0, .int .u64 0, .int .i64 0]) ?_ 0 _ rfl; (with_reducible repeat (first | refine blk_drewN ?_ _ | refine blk_drew ?_ | refine blk_alloc ?_ _)); exact BK241.out) hb); have n3_ := Aside0.mk (below_step (by repeat (first | (with_reducible first | exact HB.out | apply below_alloc | apply pw_below_drewN | apply below_drew1 | refine below_set ?_ GE223.out | refine below_set ?_ GE234.out | refine below_set ?_ GE241.out) | exact HB.out)) hb); clear BK223; clear BK234; clear BK241; clear HB; have BK223 := n0_; have BK234 := n1_; have BK241 := n2_; have HB := n3_; clear n0_ n1_ n2_ n3_; (try clear hb); (try clear hb2); (try clear hk); (try clear hi)))
                            go_ret
                            exact ⟨by first | rfl | (simp [errW_none, errW_some] <;> rfl) | (simp only [← hji23]; first | rfl | (simp [errW_none, errW_some] <;> rfl)) | (simp [*, errW_none, errW_some] <;> rfl), by repeat (first | (with_reducible first | exact HB.out | apply below_alloc | apply pw_below_drewN | apply below_drew1 | refine below_set ?_ GE223.out | refine below_set ?_ GE234.out | refine below_set ?_ GE241.out) | exact HB.out)⟩
                          · rw [if_neg c30] at H
                            exact absurd H (by simp)
                        · rw [if_neg c29] at H
                          exact absurd H (by simp)
                      · rw [if_neg c28] at H
                        have c28b0 : (x9_2.toList == t224.toList) = false := beq_eq_false_iff_ne.mpr c28
                        have c28b1 : (x9_2.toList != t224.toList) = true := bne_iff_ne.mpr c28
                        by_cases c44 : (t228 == 0 && (t229 == 0 && (t230 == 0 && (t231 == 0 && (t232 == 0))))) = true
                        · rw [if_pos c44] at H
                          have c44b0 : (t228 == 0 && (t229 == 0 && (t230 == 0 && (t231 == 0 && (t232 == 0))))) = true := c44
                          (try (have c44b1 : decide (t228 = 0 && (t229 == 0 && (t230 == 0 && (t231 == 0 && (t232 == 0))))) = true := by simpa using c44))
                          (try (have c44b2 : (t228 == 0 && (t229 == 0 && (t230 == 0 && (t231 == 0 && (t232 == 0))))) = true := by simpa using c44))
                          clear c44
                          by_cases c45 : t233 = 10
                          · rw [if_pos c45] at H
                            have c45b0 : (t233 == 10) = true := beq_iff_eq.mpr c45
                            have c45b1 : (t233 != 10) = false := bne_eq_false_iff_eq.mpr c45
                            clear c45
                            replace H := Option.bind_eq_some_iff.mp H
                            obtain ⟨t243, A460, H⟩ := H
                            replace H : (some t243) = some r := H
                            have A46 := Aside0.mk A460
                            clear A460
                            obtain rfl := Option.some.inj H
                            go_wp2_with (first | ((with_reducible refine gate_callee (f := 10) rfl ?_); refine goesL_ (some 54) rfl rfl Try.func10 (by kernel_rfl) rfl #[.string x9_2] rfl (by (try simp only [List.map_toArray, List.map_cons, List.map_nil]); first | done | rfl | (simp only [List.length_drop, List.length_take]; rfl)) ?_; (with_reducible refine (disk_Parse.calls k2 x9_2 t228 t229 t230 t231 t232 t233 _ A21.out).mono ?_); rintro e w47 ⟨rfl, hb⟩; refine ⟨_, rfl, ?_⟩; have n0_ := Aside0.mk (blk_below (g := gb223) (o := .cells #[.int .u64 a0_0, .int .u64 a0_1, .int .u64 a0_2, .int .u64 a0_3, .int .i64 a0_4] 26 (0, 0)) (by (with_reducible repeat (first | refine blk_drewN ?_ _ | refine blk_drew ?_ | refine blk_alloc ?_ _)); exact BK223.out) hb); have n1_ := Aside0.mk (below_step (by repeat (first | (with_reducible first | exact HB.out | apply below_alloc | apply pw_below_drewN | apply below_drew1 | refine below_set ?_ GE223.out) | exact HB.out)) hb); clear BK223; clear HB; have BK223 := n0_; have HB := n1_; clear n0_ n1_; (try clear hb); (try clear hb2); (try clear hk); (try clear hi)) | ((with_reducible refine gate_dst (N := 11) rfl ?_); (try (refine gate_guard (by rfl) ?_; dsimp only)); refine box_event ?hg (N := 11) ?hd (cs := #[.int .u64 0, .int .u64 0, .int .u64 0, .int .u64 0, .int .i64 0]) (t := 26) ?hr ?_; (case hd => rfl); (case hg => rfl); (case hr => first | (go_simp; done) | (go_simp; rfl)); intro gb234 hg w48 hbox hb; have n0_ := Aside0.mk (blk_below (g := gb223) (o := .cells #[.int .u64 a0_0, .int .u64 a0_1, .int .u64 a0_2, .int .u64 a0_3, .int .i64 a0_4] 26 (0, 0)) (by (with_reducible repeat (first | refine blk_drewN ?_ _ | refine blk_drew ?_ | refine blk_alloc ?_ _)); exact BK223.out) hb); have n1_ := Aside0.mk (below_step (by repeat (first | (with_reducible first | exact HB.out | apply below_alloc | apply pw_below_drewN | apply below_drew1 | refine below_set ?_ GE223.out) | exact HB.out)) hb); have n2_ := Aside0.mk (hbox); have n3_ := Aside0.mk ((by rw [hg]; exact (below_size (by repeat (first | (with_reducible first | exact HB.out | apply below_alloc | apply pw_below_drewN | apply below_drew1 | refine below_set ?_ GE223.out) | exact HB.out))) : w.heap.size ≤ gb234)); have n4_ := Aside0.mk ((by rw [hg]; exact (below_size (by repeat (first | (with_reducible first | exact HB.out | apply below_alloc | apply pw_below_drewN | apply below_drew1 | refine below_set ?_ GE223.out) | exact HB.out))) : w.heap.size ≤ gb234)); have n5_ := Aside0.mk ((by rw [hg]; exact Nat.ne_of_lt (blk_lt (g := gb223) (o := .cells #[.int .u64 a0_0, .int .u64 a0_1, .int .u64 a0_2, .int .u64 a0_3, .int .i64 a0_4] 26 (0, 0)) (by (with_reducible repeat (first | refine blk_drewN ?_ _ | refine blk_drew ?_ | refine blk_alloc ?_ _)); exact BK223.out)) : gb223 ≠ gb234)); have n6_ := Aside0.mk ((by rw [hg]; exact Nat.ne_of_gt (blk_lt (g := gb223) (o := .cells #[.int .u64 a0_0, .int .u64 a0_1, .int .u64 a0_2, .int .u64 a0_3, .int .i64 a0_4] 26 (0, 0)) (by (with_reducible repeat (first | refine blk_drewN ?_ _ | refine blk_drew ?_ | refine blk_alloc ?_ _)); exact BK223.out)) : gb234 ≠ gb223)); clear BK223; clear HB; have BK223 := n0_; have HB := n1_; have BK234 := n2_; have GW234 := n3_; have GE234 := n4_; have NB223_234 := n5_; have NB234_223 := n6_; clear n0_ n1_ n2_ n3_ n4_ n5_ n6_; clear hb hbox hg; have hnb49 := NB234_223.out; have hnc49 := NB223_234.out; have hcz50_0 : w48.cell? ⟨gb234, 0, none⟩ = some (.int .u64 0) := (blk_cell BK234.out 0).trans rfl; have hcz50_1 : w48.cell? ⟨gb234, 1, none⟩ = some (.int .u64 0) := (blk_cell BK234.out 1).trans rfl; have hcz50_2 : w48.cell? ⟨gb234, 2, none⟩ = some (.int .u64 0) := (blk_cell BK234.out 2).trans rfl; have hcz50_3 : w48.cell? ⟨gb234, 3, none⟩ = some (.int .u64 0) := (blk_cell BK234.out 3).trans rfl; have hcz50_4 : w48.cell? ⟨gb234, 4, none⟩ = some (.int .i64 0) := (blk_cell BK234.out 4).trans rfl; have hfz50_0 := blk_frozen BK234.out 0; have hfz50_1 := blk_frozen BK234.out 1; have hfz50_2 := blk_frozen BK234.out 2; have hfz50_3 := blk_frozen BK234.out 3; have hfz50_4 := blk_frozen BK234.out 4) | ((with_reducible refine gate_callee (f := 10) rfl ?_); refine goesL_ (some 65) rfl rfl Try.func10 (by kernel_rfl) rfl #[.string (t224.extract 0 ((ji23) : Int).toNat)] rfl (by (try simp only [List.map_toArray, List.map_cons, List.map_nil]); first | done | (simp only [hji23]; rfl) | rfl | (simp only [List.length_drop, List.length_take]; rfl)) ?_; (with_reducible refine (disk_Parse.calls k2 (t224.extract 0 ((ji23) : Int).toNat) t235 t236 t237 t238 t239 t240 _ A26.out).mono ?_); rintro e w51 ⟨rfl, hb⟩; refine ⟨_, rfl, ?_⟩; have n0_ := Aside0.mk (blk_below (g := gb223) (o := .cells #[.int .u64 a0_0, .int .u64 a0_1, .int .u64 a0_2, .int .u64 a0_3, .int .i64 a0_4] 26 (0, 0)) (by (with_reducible repeat (first | refine blk_drewN ?_ _ | refine blk_drew ?_ | refine blk_alloc ?_ _)); refine blk_far ?_ NB223_234.out _; (with_reducible repeat (first | refine blk_drewN ?_ _ | refine blk_drew ?_ | refine blk_alloc ?_ _)); refine blk_far ?_ NB223_234.out _; (with_reducible repeat (first | refine blk_drewN ?_ _ | refine blk_drew ?_ | refine blk_alloc ?_ _)); refine blk_far ?_ NB223_234.out _; (with_reducible repeat (first | refine blk_drewN ?_ _ | refine blk_drew ?_ | refine blk_alloc ?_ _)); refine blk_far ?_ NB223_234.out _; (with_reducible repeat (first | refine blk_drewN ?_ _ | refine blk_drew ?_ | refine blk_alloc ?_ _)); refine blk_far ?_ NB223_234.out _; (with_reducible repeat (first | refine blk_drewN ?_ _ | refine blk_drew ?_ | refine blk_alloc ?_ _)); exact BK223.out) hb); have n1_ := Aside0.mk (blk_below (g := gb234) (o := .cells #[.int .u64 t228, .int .u64 t229, .int .u64 t230, .int .u64 t231, .int .i64 t232] 26 (0, 0)) (by (with_reducible repeat (first | refine blk_drewN ?_ _ | refine blk_drew ?_ | refine blk_alloc ?_ _)); refine blk_put (cs := #[.int .u64 t228, .int .u64 t229, .int .u64 t230, .int .u64 t231, .int .i64 0]) ?_ 4 _ rfl; (with_reducible repeat (first | refine blk_drewN ?_ _ | refine blk_drew ?_ | refine blk_alloc ?_ _)); refine blk_put (cs := #[.int .u64 t228, .int .u64 t229, .int .u64 t230, .int .u64 0, .int .i64 0]) ?_ 3 _ rfl; (with_reducible repeat (first | refine blk_drewN ?_ _ | refine blk_drew ?_ | refine blk_alloc ?_ _)); refine blk_put (cs := #[.int .u64 t228, .int .u64 t229, .int .u64 0, .int .u64 0, .int .i64 0]) ?_ 2 _ rfl; (with_reducible repeat (first | refine blk_drewN ?_ _ | refine blk_drew ?_ | refine blk_alloc ?_ _)); refine blk_put (cs := #[.int .u64 t228, .int .u64 0, .int .u64 0, .int .u64 0, .int .i64 0]) ?_ 1 _ rfl; (with_reducible repeat (first | refine blk_drewN ?_ _ | refine blk_drew ?_ | refine blk_alloc ?_ _)); refine blk_put (cs := #[.int .u64 0, .int .u64 0, .int .u64 0, .int .u64 0, .int .i64 0]) ?_ 0 _ rfl; (with_reducible repeat (first | refine blk_drewN ?_ _ | refine blk_drew ?_ | refine blk_alloc ?_ _)); exact BK234.out) hb); have n2_ := Aside0.mk (below_step (by repeat (first | (with_reducible first | exact HB.out | apply below_alloc | apply pw_below_drewN | apply below_drew1 | refine below_set ?_ GE223.out | refine below_set ?_ GE234.out) | exact HB.out)) hb); clear BK223; clear BK234; clear HB; have BK223 := n0_; have BK234 := n1_; have HB := n2_; clear n0_ n1_ n2_; (try clear hb); (try clear hb2); (try clear hk); (try clear hi)) | ((with_reducible refine gate_dst (N := 13) rfl ?_); (try (refine gate_guard (by rfl) ?_; dsimp only)); refine box_event ?hg (N := 13) ?hd (cs := #[.int .u64 0, .int .u64 0, .int .u64 0, .int .u64 0, .int .i64 0]) (t := 26) ?hr ?_; (case hd => rfl); (case hg => rfl); (case hr => first | (go_simp; done) | (go_simp; rfl)); intro gb241 hg w52 hbox hb; have n0_ := Aside0.mk (blk_below (g := gb223) (o := .cells #[.int .u64 a0_0, .int .u64 a0_1, .int .u64 a0_2, .int .u64 a0_3, .int .i64 a0_4] 26 (0, 0)) (by (with_reducible repeat (first | refine blk_drewN ?_ _ | refine blk_drew ?_ | refine blk_alloc ?_ _)); exact BK223.out) hb); have n1_ := Aside0.mk (blk_below (g := gb234) (o := .cells #[.int .u64 t228, .int .u64 t229, .int .u64 t230, .int .u64 t231, .int .i64 t232] 26 (0, 0)) (by (with_reducible repeat (first | refine blk_drewN ?_ _ | refine blk_drew ?_ | refine blk_alloc ?_ _)); exact BK234.out) hb); have n2_ := Aside0.mk (below_step (by repeat (first | (with_reducible first | exact HB.out | apply below_alloc | apply pw_below_drewN | apply below_drew1 | refine below_set ?_ GE223.out | refine below_set ?_ GE234.out) | exact HB.out)) hb); have n3_ := Aside0.mk (hbox); have n4_ := Aside0.mk ((by rw [hg]; exact (below_size (by repeat (first | (with_reducible first | exact HB.out | apply below_alloc | apply pw_below_drewN | apply below_drew1 | refine below_set ?_ GE223.out | refine below_set ?_ GE234.out) | exact HB.out))) : w.heap.size ≤ gb241)); have n5_ := Aside0.mk ((by rw [hg]; exact (below_size (by repeat (first | (with_reducible first | exact HB.out | apply below_alloc | apply pw_below_drewN | apply below_drew1 | refine below_set ?_ GE223.out | refine below_set ?_ GE234.out) | exact HB.out))) : w.heap.size ≤ gb241)); have n6_ := Aside0.mk ((by rw [hg]; exact Nat.ne_of_lt (blk_lt (g := gb223) (o := .cells #[.int .u64 a0_0, .int .u64 a0_1, .int .u64 a0_2, .int .u64 a0_3, .int .i64 a0_4] 26 (0, 0)) (by (with_reducible repeat (first | refine blk_drewN ?_ _ | refine blk_drew ?_ | refine blk_alloc ?_ _)); exact BK223.out)) : gb223 ≠ gb241)); have n7_ := Aside0.mk ((by rw [hg]; exact Nat.ne_of_gt (blk_lt (g := gb223) (o := .cells #[.int .u64 a0_0, .int .u64 a0_1, .int .u64 a0_2, .int .u64 a0_3, .int .i64 a0_4] 26 (0, 0)) (by (with_reducible repeat (first | refine blk_drewN ?_ _ | refine blk_drew ?_ | refine blk_alloc ?_ _)); exact BK223.out)) : gb241 ≠ gb223)); have n8_ := Aside0.mk ((by rw [hg]; exact Nat.ne_of_lt (blk_lt (g := gb234) (o := .cells #[.int .u64 t228, .int .u64 t229, .int .u64 t230, .int .u64 t231, .int .i64 t232] 26 (0, 0)) (by (with_reducible repeat (first | refine blk_drewN ?_ _ | refine blk_drew ?_ | refine blk_alloc ?_ _)); exact BK234.out)) : gb234 ≠ gb241)); have n9_ := Aside0.mk ((by rw [hg]; exact Nat.ne_of_gt (blk_lt (g := gb234) (o := .cells #[.int .u64 t228, .int .u64 t229, .int .u64 t230, .int .u64 t231, .int .i64 t232] 26 (0, 0)) (by (with_reducible repeat (first | refine blk_drewN ?_ _ | refine blk_drew ?_ | refine blk_alloc ?_ _)); exact BK234.out)) : gb241 ≠ gb234)); clear BK223; clear BK234; clear HB; have BK223 := n0_; have BK234 := n1_; have HB := n2_; have BK241 := n3_; have GW241 := n4_; have GE241 := n5_; have NB223_241 := n6_; have NB241_223 := n7_; have NB234_241 := n8_; have NB241_234 := n9_; clear n0_ n1_ n2_ n3_ n4_ n5_ n6_ n7_ n8_ n9_; clear hb hbox hg; have hnb53 := NB241_223.out; have hnc53 := NB223_241.out; have hnb54 := NB241_234.out; have hnc54 := NB234_241.out; have hcz55_0 : w52.cell? ⟨gb241, 0, none⟩ = some (.int .u64 0) := (blk_cell BK241.out 0).trans rfl; have hcz55_1 : w52.cell? ⟨gb241, 1, none⟩ = some (.int .u64 0) := (blk_cell BK241.out 1).trans rfl; have hcz55_2 : w52.cell? ⟨gb241, 2, none⟩ = some (.int .u64 0) := (blk_cell BK241.out 2).trans rfl; have hcz55_3 : w52.cell? ⟨gb241, 3, none⟩ = some (.int .u64 0) := (blk_cell BK241.out 3).trans rfl; have hcz55_4 : w52.cell? ⟨gb241, 4, none⟩ = some (.int .i64 0) := (blk_cell BK241.out 4).trans rfl; have hfz55_0 := blk_frozen BK241.out 0; have hfz55_1 := blk_frozen BK241.out 1; have hfz55_2 := blk_frozen BK241.out 2; have hfz55_3 := blk_frozen BK241.out 3; have hfz55_4 := blk_frozen BK241.out 4; have hcz56_0 : w52.cell? ⟨gb234, 0, none⟩ = some (.int .u64 t228) := (blk_cell BK234.out 0).trans rfl; have hcz56_1 : w52.cell? ⟨gb234, 1, none⟩ = some (.int .u64 t229) := (blk_cell BK234.out 1).trans rfl; have hcz56_2 : w52.cell? ⟨gb234, 2, none⟩ = some (.int .u64 t230) := (blk_cell BK234.out 2).trans rfl; have hcz56_3 : w52.cell? ⟨gb234, 3, none⟩ = some (.int .u64 t231) := (blk_cell BK234.out 3).trans rfl; have hcz56_4 : w52.cell? ⟨gb234, 4, none⟩ = some (.int .i64 t232) := (blk_cell BK234.out 4).trans rfl; have hfz56_0 := blk_frozen BK234.out 0; have hfz56_1 := blk_frozen BK234.out 1; have hfz56_2 := blk_frozen BK234.out 2; have hfz56_3 := blk_frozen BK234.out 3; have hfz56_4 := blk_frozen BK234.out 4) | (go_at_call 16; (with_reducible refine (tattlelaw16_awake.calls k2  t243 _ A46.out).mono ?_); rintro e w57 ⟨rfl, hb⟩; have n0_ := Aside0.mk (blk_below (g := gb223) (o := .cells #[.int .u64 a0_0, .int .u64 a0_1, .int .u64 a0_2, .int .u64 a0_3, .int .i64 a0_4] 26 (0, 0)) (by (with_reducible repeat (first | refine blk_drewN ?_ _ | refine blk_drew ?_ | refine blk_alloc ?_ _)); refine blk_far ?_ NB223_241.out _; (with_reducible repeat (first | refine blk_drewN ?_ _ | refine blk_drew ?_ | refine blk_alloc ?_ _)); refine blk_far ?_ NB223_241.out _; (with_reducible repeat (first | refine blk_drewN ?_ _ | refine blk_drew ?_ | refine blk_alloc ?_ _)); refine blk_far ?_ NB223_241.out _; (with_reducible repeat (first | refine blk_drewN ?_ _ | refine blk_drew ?_ | refine blk_alloc ?_ _)); refine blk_far ?_ NB223_241.out _; (with_reducible repeat (first | refine blk_drewN ?_ _ | refine blk_drew ?_ | refine blk_alloc ?_ _)); refine blk_far ?_ NB223_241.out _; (with_reducible repeat (first | refine blk_drewN ?_ _ | refine blk_drew ?_ | refine blk_alloc ?_ _)); exact BK223.out) hb); have n1_ := Aside0.mk (blk_below (g := gb234) (o := .cells #[.int .u64 t228, .int .u64 t229, .int .u64 t230, .int .u64 t231, .int .i64 t232] 26 (0, 0)) (by (with_reducible repeat (first | refine blk_drewN ?_ _ | refine blk_drew ?_ | refine blk_alloc ?_ _)); refine blk_far ?_ NB234_241.out _; (with_reducible repeat (first | refine blk_drewN ?_ _ | refine blk_drew ?_ | refine blk_alloc ?_ _)); refine blk_far ?_ NB234_241.out _; (with_reducible repeat (first | refine blk_drewN ?_ _ | refine blk_drew ?_ | refine blk_alloc ?_ _)); refine blk_far ?_ NB234_241.out _; (with_reducible repeat (first | refine blk_drewN ?_ _ | refine blk_drew ?_ | refine blk_alloc ?_ _)); refine blk_far ?_ NB234_241.out _; (with_reducible repeat (first | refine blk_drewN ?_ _ | refine blk_drew ?_ | refine blk_alloc ?_ _)); refine blk_far ?_ NB234_241.out _; (with_reducible repeat (first | refine blk_drewN ?_ _ | refine blk_drew ?_ | refine blk_alloc ?_ _)); exact BK234.out) hb); have n2_ := Aside0.mk (blk_below (g := gb241) (o := .cells #[.int .u64 t235, .int .u64 t236, .int .u64 t237, .int .u64 t238, .int .i64 t239] 26 (0, 0)) (by (with_reducible repeat (first | refine blk_drewN ?_ _ | refine blk_drew ?_ | refine blk_alloc ?_ _)); refine blk_put (cs := #[.int .u64 t235, .int .u64 t236, .int .u64 t237, .int .u64 t238, .int .i64 0]) ?_ 4 _ rfl; (with_reducible repeat (first | refine blk_drewN ?_ _ | refine blk_drew ?_ | refine blk_alloc ?_ _)); refine blk_put (cs := #[.int .u64 t235, .int .u64 t236, .int .u64 t237, .int .u64 0, .int .i64 0]) ?_ 3 _ rfl; (with_reducible repeat (first | refine blk_drewN ?_ _ | refine blk_drew ?_ | refine blk_alloc ?_ _)); refine blk_put (cs := #[.int .u64 t235, .int .u64 t236, .int .u64 0, .int .u64 0, .int .i64 0]) ?_ 2 _ rfl; (with_reducible repeat (first | refine blk_drewN ?_ _ | refine blk_drew ?_ | refine blk_alloc ?_ _)); refine blk_put (cs := #[.int .u64 t235, .int .u64 0, .int .u64 0, .int .u64 0, .int .i64 0]) ?_ 1 _ rfl; (with_reducible repeat (first | refine blk_drewN ?_ _ | refine blk_drew ?_ | refine blk_alloc ?_ _)); refine blk_put (cs := #[.int .u64 0, .int .u64 0, .int .u64 0, .int .u64 0, .int .i64 0]) ?_ 0 _ rfl; (with_reducible repeat (first | refine blk_drewN ?_ _ | refine blk_drew ?_ | refine blk_alloc ?_ _)); exact BK241.out) hb); have n3_ := Aside0.mk (below_step (by repeat (first | (with_reducible first | exact HB.out | apply below_alloc | apply pw_below_drewN | apply below_drew1 | refine below_set ?_ GE223.out | refine below_set ?_ GE234.out | refine below_set ?_ GE241.out) | exact HB.out)) hb); clear BK223; clear BK234; clear BK241; clear HB; have BK223 := n0_; have BK234 := n1_; have BK241 := n2_; have HB := n3_; clear n0_ n1_ n2_ n3_; (try clear hb); (try clear hb2); (try clear hk); (try clear hi)))
                            go_ret
                            exact ⟨by first | rfl | (simp [errW_none, errW_some] <;> rfl) | (simp only [← hji23]; first | rfl | (simp [errW_none, errW_some] <;> rfl)) | (simp [*, errW_none, errW_some] <;> rfl), by repeat (first | (with_reducible first | exact HB.out | apply below_alloc | apply pw_below_drewN | apply below_drew1 | refine below_set ?_ GE223.out | refine below_set ?_ GE234.out | refine below_set ?_ GE241.out) | exact HB.out)⟩
                          · rw [if_neg c45] at H
                            exact absurd H (by simp)
                        · rw [if_neg c44] at H
                          exact absurd H (by simp)
                  · rw [if_neg c25] at H
                    exact absurd H (by simp)
                · rw [if_neg c24] at H
                  exact absurd H (by simp)

end Go.Proofs.Ytldeanlnfhgjfaa.PDiskTurns
