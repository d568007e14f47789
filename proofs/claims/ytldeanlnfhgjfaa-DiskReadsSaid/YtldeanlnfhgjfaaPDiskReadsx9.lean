-- Written by a program of this session (see NOTES.md) out of the print of Lean's own loaded functions; Lean checks it.
import Derived.Test.YtldeanlnfhgjfaaPDiskReadsx0
import Derived.Test.YtldeanlnfhgjfaaPDiskReadsx1
import Derived.Test.YtldeanlnfhgjfaaPDiskReadsx2
import Derived.Test.YtldeanlnfhgjfaaPDiskReadsx4
import Derived.Test.YtldeanlnfhgjfaaPDiskReadsx5
import Derived.Test.YtldeanlnfhgjfaaPDiskReadsx6
import Derived.Test.YtldeanlnfhgjfaaPDiskReadsx7
import Derived.Test.YtldeanlnfhgjfaaPDiskReadsx8
namespace Go.Proofs.Ytldeanlnfhgjfaa.PDiskReads
open Go.RowKit Go.Proofs.YtldeanlnfhgjfaaW.PrintWords Go.Proofs.YtldeanlnfhgjfaaW.PrintLast Go.Proofs.YtldeanlnfhgjfaaW.PrintMore
attribute [local go_sem] max2_int min2_int max_two min_two max_three min_three max_four min_four   -- for this text's walks alone
set_option linter.unusedVariables false
set_option linter.unusedSimpArgs false

attribute [local go_sem high] eqA26
/-! ### tattlelaw16_DiskReads: function 3 -/
mutual
def tattlelaw16_DiskReads.j0 : Nat → ByteArray → ByteArray → ByteArray → Int → Int → Int → Int → Int → Option (Bool)
  | 0, _, _, _, _, _, _, _, _ => none
  | k + 1, x0, x280000, x280001, x281000, x281001, x281002, x281003, x281004 => (disk_Parse.f k x0).bind fun bt283 => ((tattleref16_Parse.f k x0).bind fun bt290 => ((disk_Read.f k x280000 x280001).bind fun bt297 => ((tattleref16_Read.f k x280000 x280001).bind fun bt304 => (if (!(bt283.1 == bt290.1) || (!(bt283.2.1 == bt290.2.1) || (!(bt283.2.2.1 == bt290.2.2.1) || (!(bt283.2.2.2.1 == bt290.2.2.2.1) || (!(bt283.2.2.2.2.1 == bt290.2.2.2.2.1)))))) = true then (tattlelaw16_DiskReads.j1 k true x281000 x281001 x281002 x281003 x281004) else (if bt283.2.2.2.2.2 = bt290.2.2.2.2.2 then (if (!(bt297.1 == bt304.1) || (!(bt297.2.1 == bt304.2.1) || (!(bt297.2.2.1 == bt304.2.2.1) || (!(bt297.2.2.2.1 == bt304.2.2.2.1) || (!(bt297.2.2.2.2.1 == bt304.2.2.2.2.1)))))) = true then (tattlelaw16_DiskReads.j1 k true x281000 x281001 x281002 x281003 x281004) else (tattlelaw16_DiskReads.j1 k (bt297.2.2.2.2.2 != bt304.2.2.2.2.2) x281000 x281001 x281002 x281003 x281004)) else (tattlelaw16_DiskReads.j1 k true x281000 x281001 x281002 x281003 x281004))))))
def tattlelaw16_DiskReads.j1 : Nat → Bool → Int → Int → Int → Int → Int → Option (Bool)
  | 0, _, _, _, _, _, _ => none
  | k + 1, x63, x281000, x281001, x281002, x281003, x281004 => if x63 = true then (none) else ((disk_Lay.f k x281000 x281001 x281002 x281003 x281004).bind fun bt311 => ((tattleref16_May.f x281000 x281001 x281002 x281003 x281004).bind fun t313 => (if t313 = true then ((disk_Parse.f k bt311.1).bind fun bt314 => ((tattleref16_Lay.f k x281000 x281001 x281002 x281003 x281004).bind fun t321 => (if bt311.1.toList = t321.toList then (if bt311.2 = 0 then (if (bt314.1 == x281000 && (bt314.2.1 == x281001 && (bt314.2.2.1 == x281002 && (bt314.2.2.2.1 == x281003 && (bt314.2.2.2.2.1 == x281004))))) = true then (if bt314.2.2.2.2.2 = 0 then ((tattlelaw16_awake.f k).bind fun t322 => (some t322)) else (none)) else (none)) else (none)) else (none)))) else (if bt311.1.toList = ([] : List UInt8) then (if bt311.2 = 1 then ((tattlelaw16_awake.f k).bind fun t323 => (some t323)) else (none)) else (none)))))
end
def tattlelaw16_DiskReads.f (k : Nat) (a0 : ByteArray) (a1_0 : ByteArray) (a1_1 : ByteArray) (a2_0 : Int) (a2_1 : Int) (a2_2 : Int) (a2_3 : Int) (a2_4 : Int) : Option (Bool) := (tattlelaw16_Few.f a1_0 a1_1).bind fun bt281 => (if (a0.size : Int) > 200 then (if 0 ≤ 200 then (if 200 ≤ (a0.size : Int) then (tattlelaw16_DiskReads.j0 k (a0.extract 0 200) bt281.1 bt281.2 a2_0 a2_1 a2_2 a2_3 a2_4) else (none)) else (none)) else (tattlelaw16_DiskReads.j0 k a0 bt281.1 bt281.2 a2_0 a2_1 a2_2 a2_3 a2_4))
theorem tattlelaw16_DiskReads.mono_l : ∀ k, (∀ y0 y1 y2 y3 y4 y5 y6 y7, LeO (tattlelaw16_DiskReads.j0 k y0 y1 y2 y3 y4 y5 y6 y7) (tattlelaw16_DiskReads.j0 (k + 1) y0 y1 y2 y3 y4 y5 y6 y7)) ∧ (∀ y0 y1 y2 y3 y4 y5, LeO (tattlelaw16_DiskReads.j1 k y0 y1 y2 y3 y4 y5) (tattlelaw16_DiskReads.j1 (k + 1) y0 y1 y2 y3 y4 y5))
  | 0 => ⟨fun _ _ _ _ _ _ _ _ r h => by simp [tattlelaw16_DiskReads.j0] at h, fun _ _ _ _ _ _ r h => by simp [tattlelaw16_DiskReads.j1] at h⟩
  | k + 1 => by
    obtain ⟨ih0, ih1⟩ := tattlelaw16_DiskReads.mono_l k
    refine ⟨?_, ?_⟩
    · intro y0 y1 y2 y3 y4 y5 y6 y7
      unfold tattlelaw16_DiskReads.j0
      repeat' first
      | (with_reducible exact ih0 _ _ _ _ _ _ _ _)
      | (with_reducible exact ih1 _ _ _ _ _ _)
      | (with_reducible exact disk_Lay.mono _ _ _ _ _ _)
      | (with_reducible exact disk_Parse.mono _ _)
      | (with_reducible exact disk_Read.mono _ _ _)
      | (with_reducible exact tattlelaw16_awake.mono _)
      | (with_reducible exact tattleref16_Lay.mono _ _ _ _ _ _)
      | (with_reducible exact tattleref16_Parse.mono _ _)
      | (with_reducible exact tattleref16_Read.mono _ _ _)
      | (with_reducible exact LeO.refl _)
      | (with_reducible exact LeO.none _)
      | (with_reducible refine LeO.ite ?_ ?_)
      | (with_reducible refine LeO.bind ?_ (fun _ => ?_))
      | exact ih0 _ _ _ _ _ _ _ _
      | exact ih1 _ _ _ _ _ _
      | exact disk_Lay.mono _ _ _ _ _ _
      | exact disk_Parse.mono _ _
      | exact disk_Read.mono _ _ _
      | exact tattlelaw16_awake.mono _
      | exact tattleref16_Lay.mono _ _ _ _ _ _
      | exact tattleref16_Parse.mono _ _
      | exact tattleref16_Read.mono _ _ _
      | exact LeO.none _
      | refine LeO.ite ?_ ?_
      | refine LeO.bind ?_ (fun _ => ?_)
    · intro y0 y1 y2 y3 y4 y5
      unfold tattlelaw16_DiskReads.j1
      repeat' first
      | (with_reducible exact ih0 _ _ _ _ _ _ _ _)
      | (with_reducible exact ih1 _ _ _ _ _ _)
      | (with_reducible exact disk_Lay.mono _ _ _ _ _ _)
      | (with_reducible exact disk_Parse.mono _ _)
      | (with_reducible exact disk_Read.mono _ _ _)
      | (with_reducible exact tattlelaw16_awake.mono _)
      | (with_reducible exact tattleref16_Lay.mono _ _ _ _ _ _)
      | (with_reducible exact tattleref16_Parse.mono _ _)
      | (with_reducible exact tattleref16_Read.mono _ _ _)
      | (with_reducible exact LeO.refl _)
      | (with_reducible exact LeO.none _)
      | (with_reducible refine LeO.ite ?_ ?_)
      | (with_reducible refine LeO.bind ?_ (fun _ => ?_))
      | exact ih0 _ _ _ _ _ _ _ _
      | exact ih1 _ _ _ _ _ _
      | exact disk_Lay.mono _ _ _ _ _ _
      | exact disk_Parse.mono _ _
      | exact disk_Read.mono _ _ _
      | exact tattlelaw16_awake.mono _
      | exact tattleref16_Lay.mono _ _ _ _ _ _
      | exact tattleref16_Parse.mono _ _
      | exact tattleref16_Read.mono _ _ _
      | exact LeO.none _
      | refine LeO.ite ?_ ?_
      | refine LeO.bind ?_ (fun _ => ?_)
theorem tattlelaw16_DiskReads.mono : ∀ a0 a1 a2 a3 a4 a5 a6 a7 k, LeO (tattlelaw16_DiskReads.f k a0 a1 a2 a3 a4 a5 a6 a7) (tattlelaw16_DiskReads.f (k + 1) a0 a1 a2 a3 a4 a5 a6 a7) := by
  intro a0 a1 a2 a3 a4 a5 a6 a7 k
  obtain ⟨ih0, ih1⟩ := tattlelaw16_DiskReads.mono_l k
  unfold tattlelaw16_DiskReads.f
  repeat' first
      | (with_reducible exact ih0 _ _ _ _ _ _ _ _)
      | (with_reducible exact ih1 _ _ _ _ _ _)
      | (with_reducible exact disk_Lay.mono _ _ _ _ _ _)
      | (with_reducible exact disk_Parse.mono _ _)
      | (with_reducible exact disk_Read.mono _ _ _)
      | (with_reducible exact tattlelaw16_awake.mono _)
      | (with_reducible exact tattleref16_Lay.mono _ _ _ _ _ _)
      | (with_reducible exact tattleref16_Parse.mono _ _)
      | (with_reducible exact tattleref16_Read.mono _ _ _)
      | (with_reducible exact LeO.refl _)
      | (with_reducible exact LeO.none _)
      | (with_reducible refine LeO.ite ?_ ?_)
      | (with_reducible refine LeO.bind ?_ (fun _ => ?_))
      | exact ih0 _ _ _ _ _ _ _ _
      | exact ih1 _ _ _ _ _ _
      | exact disk_Lay.mono _ _ _ _ _ _
      | exact disk_Parse.mono _ _
      | exact disk_Read.mono _ _ _
      | exact tattlelaw16_awake.mono _
      | exact tattleref16_Lay.mono _ _ _ _ _ _
      | exact tattleref16_Parse.mono _ _
      | exact tattleref16_Read.mono _ _ _
      | exact LeO.none _
      | refine LeO.ite ?_ ?_
      | refine LeO.bind ?_ (fun _ => ?_)
set_option maxHeartbeats 8000000 in
set_option maxRecDepth 100000 in
theorem tattlelaw16_DiskReads.calls (k : Nat) (a0 : ByteArray) (a1_0 : ByteArray) (a1_1 : ByteArray) (a2_0 : Int) (a2_1 : Int) (a2_2 : Int) (a2_3 : Int) (a2_4 : Int) (r : Bool) (w : World) (h : tattlelaw16_DiskReads.f k a0 a1_0 a1_1 a2_0 a2_1 a2_2 a2_3 a2_4 = some r) :
    Calls Try.prog 3 #[.string a0, .agg #[.string a1_0, .string a1_1], .agg #[.int .u64 a2_0, .int .u64 a2_1, .int .u64 a2_2, .int .u64 a2_3, .int .i64 a2_4]] w fun e w' => e = .returned (.bool r) ∧ Below w.heap.size w w' := by
  have hu23 := Try.underlying23
  have hu26 := Try.underlying26
  have HB := Aside0.mk (Below.refl w.heap.size w)
  have H : ((tattlelaw16_Few.f a1_0 a1_1).bind fun bt281 => (if (a0.size : Int) > 200 then (if 0 ≤ 200 then (if 200 ≤ (a0.size : Int) then (tattlelaw16_DiskReads.j0 k (a0.extract 0 200) bt281.1 bt281.2 a2_0 a2_1 a2_2 a2_3 a2_4) else (none)) else (none)) else (tattlelaw16_DiskReads.j0 k a0 bt281.1 bt281.2 a2_0 a2_1 a2_2 a2_3 a2_4))) = some r := h
  clear h
  replace H := Option.bind_eq_some_iff.mp H
  obtain ⟨⟨t281, t282⟩, A40, H⟩ := H
  replace H : (if (a0.size : Int) > 200 then (if 0 ≤ 200 then (if 200 ≤ (a0.size : Int) then (tattlelaw16_DiskReads.j0 k (a0.extract 0 200) t281 t282 a2_0 a2_1 a2_2 a2_3 a2_4) else (none)) else (none)) else (tattlelaw16_DiskReads.j0 k a0 t281 t282 a2_0 a2_1 a2_2 a2_3 a2_4)) = some r := H
  have A4 := Aside0.mk A40
  clear A40
  have HC5 := Aside0.mk H
  clear H
  go_enter Try.func3, Try.ntmps3
  go_upto_if 23 with (first | ((with_reducible refine gate_dst (N := 4) rfl ?_); refine box_event ?hg (N := 4) ?hd (cs := #[.string a1_0, .string a1_1]) (t := 23) ?hr ?_; (case hd => rfl); (case hg => rfl); (case hr => first | (go_simp; done) | (go_simp; rfl)); intro gb279 hg w6 hbox hb; have n0_ := Aside0.mk (below_step (by repeat (first | (with_reducible first | exact HB.out | apply below_alloc | apply pw_below_drewN | apply below_drew1) | exact HB.out)) hb); have n1_ := Aside0.mk (hbox); have n2_ := Aside0.mk ((by rw [hg]; exact (below_size (by repeat (first | (with_reducible first | exact HB.out | apply below_alloc | apply pw_below_drewN | apply below_drew1) | exact HB.out))) : w.heap.size ≤ gb279)); have n3_ := Aside0.mk ((by rw [hg]; exact (below_size (by repeat (first | (with_reducible first | exact HB.out | apply below_alloc | apply pw_below_drewN | apply below_drew1) | exact HB.out))) : w.heap.size ≤ gb279)); clear HB; have HB := n0_; have BK279 := n1_; have GW279 := n2_; have GE279 := n3_; clear n0_ n1_ n2_ n3_; clear hb hbox hg) | ((with_reducible refine gate_dst (N := 5) rfl ?_); refine box_event ?hg (N := 5) ?hd (cs := #[.int .u64 a2_0, .int .u64 a2_1, .int .u64 a2_2, .int .u64 a2_3, .int .i64 a2_4]) (t := 26) ?hr ?_; (case hd => rfl); (case hg => rfl); (case hr => first | (go_simp; done) | (go_simp; rfl)); intro gb280 hg w7 hbox hb; have n0_ := Aside0.mk (blk_below (g := gb279) (o := .cells #[.string a1_0, .string a1_1] 23 (0, 0)) (by (with_reducible repeat (first | refine blk_drewN ?_ _ | refine blk_drew ?_ | refine blk_alloc ?_ _)); exact BK279.out) hb); have n1_ := Aside0.mk (below_step (by repeat (first | (with_reducible first | exact HB.out | apply below_alloc | apply pw_below_drewN | apply below_drew1 | refine below_set ?_ GE279.out) | exact HB.out)) hb); have n2_ := Aside0.mk (hbox); have n3_ := Aside0.mk ((by rw [hg]; exact (below_size (by repeat (first | (with_reducible first | exact HB.out | apply below_alloc | apply pw_below_drewN | apply below_drew1 | refine below_set ?_ GE279.out) | exact HB.out))) : w.heap.size ≤ gb280)); have n4_ := Aside0.mk ((by rw [hg]; exact (below_size (by repeat (first | (with_reducible first | exact HB.out | apply below_alloc | apply pw_below_drewN | apply below_drew1 | refine below_set ?_ GE279.out) | exact HB.out))) : w.heap.size ≤ gb280)); have n5_ := Aside0.mk ((by rw [hg]; exact Nat.ne_of_lt (blk_lt (g := gb279) (o := .cells #[.string a1_0, .string a1_1] 23 (0, 0)) (by (with_reducible repeat (first | refine blk_drewN ?_ _ | refine blk_drew ?_ | refine blk_alloc ?_ _)); exact BK279.out)) : gb279 ≠ gb280)); have n6_ := Aside0.mk ((by rw [hg]; exact Nat.ne_of_gt (blk_lt (g := gb279) (o := .cells #[.string a1_0, .string a1_1] 23 (0, 0)) (by (with_reducible repeat (first | refine blk_drewN ?_ _ | refine blk_drew ?_ | refine blk_alloc ?_ _)); exact BK279.out)) : gb280 ≠ gb279)); clear BK279; clear HB; have BK279 := n0_; have HB := n1_; have BK280 := n2_; have GW280 := n3_; have GE280 := n4_; have NB279_280 := n5_; have NB280_279 := n6_; clear n0_ n1_ n2_ n3_ n4_ n5_ n6_; clear hb hbox hg; have hnb8 := NB279_280.out; have hnc8 := NB280_279.out; have hcz9_0 : w7.cell? ⟨gb279, 0, none⟩ = some (.string a1_0) := (blk_cell BK279.out 0).trans rfl; have hcz9_1 : w7.cell? ⟨gb279, 1, none⟩ = some (.string a1_1) := (blk_cell BK279.out 1).trans rfl; have hfz9_0 := blk_frozen BK279.out 0; have hfz9_1 := blk_frozen BK279.out 1) | ((with_reducible refine gate_callee (f := 9) rfl ?_); refine goesL_ (some 20) rfl rfl Try.func9 (by kernel_rfl) rfl #[.agg #[.string a1_0, .string a1_1]] rfl (by (try simp only [List.map_toArray, List.map_cons, List.map_nil]); first | done | rfl | (simp only [List.length_drop, List.length_take]; rfl)) ?_; (with_reducible refine (tattlelaw16_Few.calls a1_0 a1_1 t281 t282 _ A4.out).mono ?_); rintro e w10 ⟨rfl, hb⟩; refine ⟨_, rfl, ?_⟩; have n0_ := Aside0.mk (blk_below (g := gb279) (o := .cells #[.string a1_0, .string a1_1] 23 (0, 0)) (by (with_reducible repeat (first | refine blk_drewN ?_ _ | refine blk_drew ?_ | refine blk_alloc ?_ _)); exact BK279.out) hb); have n1_ := Aside0.mk (blk_below (g := gb280) (o := .cells #[.int .u64 a2_0, .int .u64 a2_1, .int .u64 a2_2, .int .u64 a2_3, .int .i64 a2_4] 26 (0, 0)) (by (with_reducible repeat (first | refine blk_drewN ?_ _ | refine blk_drew ?_ | refine blk_alloc ?_ _)); exact BK280.out) hb); have n2_ := Aside0.mk (below_step (by repeat (first | (with_reducible first | exact HB.out | apply below_alloc | apply pw_below_drewN | apply below_drew1 | refine below_set ?_ GE279.out | refine below_set ?_ GE280.out) | exact HB.out)) hb); clear BK279; clear BK280; clear HB; have BK279 := n0_; have BK280 := n1_; have HB := n2_; clear n0_ n1_ n2_; (try clear hb); (try clear hb2); (try clear hk); (try clear hi); have hcz11_0 : w10.cell? ⟨gb279, 0, none⟩ = some (.string a1_0) := (blk_cell BK279.out 0).trans rfl; have hcz11_1 : w10.cell? ⟨gb279, 1, none⟩ = some (.string a1_1) := (blk_cell BK279.out 1).trans rfl; have hfz11_0 := blk_frozen BK279.out 0; have hfz11_1 := blk_frozen BK279.out 1))
  (try simp only [Act.put, List.setIfInBounds_toArray, List.set_cons_zero, List.set_cons_succ])
  go_cut [0] (fun v0 wc => ∃ (kq : Nat) (x0_4 : ByteArray), v0 = .string x0_4 ∧ Aside0 (tattlelaw16_DiskReads.j0 kq x0_4 t281 t282 a2_0 a2_1 a2_2 a2_3 a2_4 = some r) ∧ Aside0 (kq ≤ k) ∧ Aside0 (wc.heap[gb279]? = some (.cells #[.string t281, .string t282] 23 (0, 0))) ∧ Aside0 (wc.heap[gb280]? = some (.cells #[.int .u64 a2_0, .int .u64 a2_1, .int .u64 a2_2, .int .u64 a2_3, .int .i64 a2_4] 26 (0, 0))) ∧ Aside0 (Below w.heap.size w wc))
  case first =>
    have H := HC5.out
    clear HC5
    by_cases c12 : (a0.size : Int) > 200
    · rw [if_pos c12] at H
      have c12b0 : decide (200 < (a0.size : Int)) = true := decide_eq_true c12
      have c12b1 : decide (200 < a0.size) = true := decide_eq_true (by omega)
      clear c12
      (first | rw [c12b0] | (simp only [i64_w, i32_w]; rw [c12b0]) | skip)
      by_cases c13 : 0 ≤ 200
      · rw [if_pos c13] at H
        have c13b0 := eq_true c13
        have c13b1 : decide (0 ≤ 200) = true := decide_eq_true c13
        clear c13
        by_cases c14 : 200 ≤ (a0.size : Int)
        · rw [if_pos c14] at H
          have c14b0 := eq_true c14
          have c14b1 : decide (200 ≤ (a0.size : Int)) = true := decide_eq_true c14
          clear c14
          have H' := Aside0.mk H
          clear H
          go_wp2
          go_meet
          case rel => exact ⟨_, (a0.extract 0 200), (by first | rfl | (simp; done) | (simp [*]; done)), H', ⟨by first | omega | exact Nat.le_refl _⟩, ⟨by (with_reducible repeat (first | refine blk_drewN ?_ _ | refine blk_drew ?_ | refine blk_alloc ?_ _)); refine blk_put (cs := #[.string t281, .string a1_1]) ?_ 1 _ rfl; (with_reducible repeat (first | refine blk_drewN ?_ _ | refine blk_drew ?_ | refine blk_alloc ?_ _)); refine blk_put (cs := #[.string a1_0, .string a1_1]) ?_ 0 _ rfl; (with_reducible repeat (first | refine blk_drewN ?_ _ | refine blk_drew ?_ | refine blk_alloc ?_ _)); exact BK279.out⟩, ⟨by (with_reducible repeat (first | refine blk_drewN ?_ _ | refine blk_drew ?_ | refine blk_alloc ?_ _)); refine blk_far ?_ NB280_279.out _; (with_reducible repeat (first | refine blk_drewN ?_ _ | refine blk_drew ?_ | refine blk_alloc ?_ _)); refine blk_far ?_ NB280_279.out _; (with_reducible repeat (first | refine blk_drewN ?_ _ | refine blk_drew ?_ | refine blk_alloc ?_ _)); exact BK280.out⟩, ⟨by repeat (first | (with_reducible first | exact HB.out | apply below_alloc | apply pw_below_drewN | apply below_drew1 | refine below_set ?_ GE279.out | refine below_set ?_ GE280.out) | exact HB.out)⟩⟩
        · rw [if_neg c14] at H
          exact absurd H (by simp)
      · rw [if_neg c13] at H
        exact absurd H (by simp)
    · rw [if_neg c12] at H
      have c12b0 : decide (200 < (a0.size : Int)) = false := decide_eq_false c12
      have c12b1 : decide (200 < a0.size) = false := decide_eq_false (by omega)
      clear c12
      (first | rw [c12b0] | (simp only [i64_w, i32_w]; rw [c12b0]) | skip)
      have H' := Aside0.mk H
      clear H
      go_wp2
      go_meet
      case rel => exact ⟨_, (a0), (by first | rfl | (simp; done) | (simp [*]; done)), H', ⟨by first | omega | exact Nat.le_refl _⟩, ⟨by (with_reducible repeat (first | refine blk_drewN ?_ _ | refine blk_drew ?_ | refine blk_alloc ?_ _)); refine blk_put (cs := #[.string t281, .string a1_1]) ?_ 1 _ rfl; (with_reducible repeat (first | refine blk_drewN ?_ _ | refine blk_drew ?_ | refine blk_alloc ?_ _)); refine blk_put (cs := #[.string a1_0, .string a1_1]) ?_ 0 _ rfl; (with_reducible repeat (first | refine blk_drewN ?_ _ | refine blk_drew ?_ | refine blk_alloc ?_ _)); exact BK279.out⟩, ⟨by (with_reducible repeat (first | refine blk_drewN ?_ _ | refine blk_drew ?_ | refine blk_alloc ?_ _)); refine blk_far ?_ NB280_279.out _; (with_reducible repeat (first | refine blk_drewN ?_ _ | refine blk_drew ?_ | refine blk_alloc ?_ _)); refine blk_far ?_ NB280_279.out _; (with_reducible repeat (first | refine blk_drewN ?_ _ | refine blk_drew ?_ | refine blk_alloc ?_ _)); exact BK280.out⟩, ⟨by repeat (first | (with_reducible first | exact HB.out | apply below_alloc | apply pw_below_drewN | apply below_drew1 | refine below_set ?_ GE279.out | refine below_set ?_ GE280.out) | exact HB.out)⟩⟩
  case rest =>
    clear HC5
    try clear c1
    try clear p2
    try clear c3
    try clear c8
    try clear c9
    try clear c12
    try clear c12b0
    try clear c12b1
    try clear c13
    try clear c13b0
    try clear c13b1
    try clear c14
    try clear c14b0
    try clear c14b1
    try clear hcz11_0
    try clear hcz11_1
    try clear hcz9_0
    try clear hcz9_1
    try clear hfz11_0
    try clear hfz11_1
    try clear hfz9_0
    try clear hfz9_1
    obtain ⟨kq, x0_4, rfl, HA, HJ4, BK279, BK280, HB⟩ := hcut
    cases kq with
    | zero => exact absurd HA.out (by simp [tattlelaw16_DiskReads.j0])
    | succ kj4 =>
      have H := HA.out
      clear HA
      simp only [tattlelaw16_DiskReads.j0] at H
      replace H := Option.bind_eq_some_iff.mp H
      obtain ⟨⟨t283, t284, t285, t286, t287, t288⟩, A150, H⟩ := H
      replace H : ((tattleref16_Parse.f kj4 x0_4).bind fun bt290 => ((disk_Read.f kj4 t281 t282).bind fun bt297 => ((tattleref16_Read.f kj4 t281 t282).bind fun bt304 => (if (!(t283 == bt290.1) || (!(t284 == bt290.2.1) || (!(t285 == bt290.2.2.1) || (!(t286 == bt290.2.2.2.1) || (!(t287 == bt290.2.2.2.2.1)))))) = true then (tattlelaw16_DiskReads.j1 kj4 true a2_0 a2_1 a2_2 a2_3 a2_4) else (if t288 = bt290.2.2.2.2.2 then (if (!(bt297.1 == bt304.1) || (!(bt297.2.1 == bt304.2.1) || (!(bt297.2.2.1 == bt304.2.2.1) || (!(bt297.2.2.2.1 == bt304.2.2.2.1) || (!(bt297.2.2.2.2.1 == bt304.2.2.2.2.1)))))) = true then (tattlelaw16_DiskReads.j1 kj4 true a2_0 a2_1 a2_2 a2_3 a2_4) else (tattlelaw16_DiskReads.j1 kj4 (bt297.2.2.2.2.2 != bt304.2.2.2.2.2) a2_0 a2_1 a2_2 a2_3 a2_4)) else (tattlelaw16_DiskReads.j1 kj4 true a2_0 a2_1 a2_2 a2_3 a2_4)))))) = some r := H
      have A15 := Aside0.mk A150
      clear A150
      replace H := Option.bind_eq_some_iff.mp H
      obtain ⟨⟨t290, t291, t292, t293, t294, t295⟩, A160, H⟩ := H
      replace H : ((disk_Read.f kj4 t281 t282).bind fun bt297 => ((tattleref16_Read.f kj4 t281 t282).bind fun bt304 => (if (!(t283 == t290) || (!(t284 == t291) || (!(t285 == t292) || (!(t286 == t293) || (!(t287 == t294)))))) = true then (tattlelaw16_DiskReads.j1 kj4 true a2_0 a2_1 a2_2 a2_3 a2_4) else (if t288 = t295 then (if (!(bt297.1 == bt304.1) || (!(bt297.2.1 == bt304.2.1) || (!(bt297.2.2.1 == bt304.2.2.1) || (!(bt297.2.2.2.1 == bt304.2.2.2.1) || (!(bt297.2.2.2.2.1 == bt304.2.2.2.2.1)))))) = true then (tattlelaw16_DiskReads.j1 kj4 true a2_0 a2_1 a2_2 a2_3 a2_4) else (tattlelaw16_DiskReads.j1 kj4 (bt297.2.2.2.2.2 != bt304.2.2.2.2.2) a2_0 a2_1 a2_2 a2_3 a2_4)) else (tattlelaw16_DiskReads.j1 kj4 true a2_0 a2_1 a2_2 a2_3 a2_4))))) = some r := H
      have A16 := Aside0.mk A160
      clear A160
      replace H := Option.bind_eq_some_iff.mp H
      obtain ⟨⟨t297, t298, t299, t300, t301, t302⟩, A170, H⟩ := H
      replace H : ((tattleref16_Read.f kj4 t281 t282).bind fun bt304 => (if (!(t283 == t290) || (!(t284 == t291) || (!(t285 == t292) || (!(t286 == t293) || (!(t287 == t294)))))) = true then (tattlelaw16_DiskReads.j1 kj4 true a2_0 a2_1 a2_2 a2_3 a2_4) else (if t288 = t295 then (if (!(t297 == bt304.1) || (!(t298 == bt304.2.1) || (!(t299 == bt304.2.2.1) || (!(t300 == bt304.2.2.2.1) || (!(t301 == bt304.2.2.2.2.1)))))) = true then (tattlelaw16_DiskReads.j1 kj4 true a2_0 a2_1 a2_2 a2_3 a2_4) else (tattlelaw16_DiskReads.j1 kj4 (t302 != bt304.2.2.2.2.2) a2_0 a2_1 a2_2 a2_3 a2_4)) else (tattlelaw16_DiskReads.j1 kj4 true a2_0 a2_1 a2_2 a2_3 a2_4)))) = some r := H
      have A17 := Aside0.mk A170
      clear A170
      replace H := Option.bind_eq_some_iff.mp H
      obtain ⟨⟨t304, t305, t306, t307, t308, t309⟩, A180, H⟩ := H
      replace H : (if (!(t283 == t290) || (!(t284 == t291) || (!(t285 == t292) || (!(t286 == t293) || (!(t287 == t294)))))) = true then (tattlelaw16_DiskReads.j1 kj4 true a2_0 a2_1 a2_2 a2_3 a2_4) else (if t288 = t295 then (if (!(t297 == t304) || (!(t298 == t305) || (!(t299 == t306) || (!(t300 == t307) || (!(t301 == t308)))))) = true then (tattlelaw16_DiskReads.j1 kj4 true a2_0 a2_1 a2_2 a2_3 a2_4) else (tattlelaw16_DiskReads.j1 kj4 (t302 != t309) a2_0 a2_1 a2_2 a2_3 a2_4)) else (tattlelaw16_DiskReads.j1 kj4 true a2_0 a2_1 a2_2 a2_3 a2_4))) = some r := H
      have A18 := Aside0.mk A180
      clear A180
      have HC19 := Aside0.mk H
      clear H
      go_upto_region 8 with (first | ((with_reducible refine gate_callee (f := 10) rfl ?_); refine goesL_ (some 28) rfl rfl Try.func10 (by kernel_rfl) rfl #[.string x0_4] rfl (by (try simp only [List.map_toArray, List.map_cons, List.map_nil]); first | done | rfl | (simp only [List.length_drop, List.length_take]; rfl)) ?_; (with_reducible refine (disk_Parse.calls kj4 x0_4 t283 t284 t285 t286 t287 t288 _ A15.out).mono ?_); rintro e w20 ⟨rfl, hb⟩; refine ⟨_, rfl, ?_⟩; have n0_ := Aside0.mk (blk_below (g := gb279) (o := .cells #[.string t281, .string t282] 23 (0, 0)) (by (with_reducible repeat (first | refine blk_drewN ?_ _ | refine blk_drew ?_ | refine blk_alloc ?_ _)); exact BK279.out) hb); have n1_ := Aside0.mk (blk_below (g := gb280) (o := .cells #[.int .u64 a2_0, .int .u64 a2_1, .int .u64 a2_2, .int .u64 a2_3, .int .i64 a2_4] 26 (0, 0)) (by (with_reducible repeat (first | refine blk_drewN ?_ _ | refine blk_drew ?_ | refine blk_alloc ?_ _)); exact BK280.out) hb); have n2_ := Aside0.mk (below_step (by repeat (first | (with_reducible first | exact HB.out | apply below_alloc | apply pw_below_drewN | apply below_drew1 | refine below_set ?_ GE279.out | refine below_set ?_ GE280.out) | exact HB.out)) hb); clear BK279; clear BK280; clear HB; have BK279 := n0_; have BK280 := n1_; have HB := n2_; clear n0_ n1_ n2_; (try clear hb); (try clear hb2); (try clear hk); (try clear hi)) | ((with_reducible refine gate_dst (N := 7) rfl ?_); refine box_event ?hg (N := 7) ?hd (cs := #[.int .u64 0, .int .u64 0, .int .u64 0, .int .u64 0, .int .i64 0]) (t := 26) ?hr ?_; (case hd => rfl); (case hg => rfl); (case hr => first | (go_simp; done) | (go_simp; rfl)); intro gb289 hg w21 hbox hb; have n0_ := Aside0.mk (blk_below (g := gb279) (o := .cells #[.string t281, .string t282] 23 (0, 0)) (by (with_reducible repeat (first | refine blk_drewN ?_ _ | refine blk_drew ?_ | refine blk_alloc ?_ _)); exact BK279.out) hb); have n1_ := Aside0.mk (blk_below (g := gb280) (o := .cells #[.int .u64 a2_0, .int .u64 a2_1, .int .u64 a2_2, .int .u64 a2_3, .int .i64 a2_4] 26 (0, 0)) (by (with_reducible repeat (first | refine blk_drewN ?_ _ | refine blk_drew ?_ | refine blk_alloc ?_ _)); exact BK280.out) hb); have n2_ := Aside0.mk (below_step (by repeat (first | (with_reducible first | exact HB.out | apply below_alloc | apply pw_below_drewN | apply below_drew1 | refine below_set ?_ GE279.out | refine below_set ?_ GE280.out) | exact HB.out)) hb); have n3_ := Aside0.mk (hbox); have n4_ := Aside0.mk ((by rw [hg]; exact (below_size (by repeat (first | (with_reducible first | exact HB.out | apply below_alloc | apply pw_below_drewN | apply below_drew1 | refine below_set ?_ GE279.out | refine below_set ?_ GE280.out) | exact HB.out))) : w.heap.size ≤ gb289)); have n5_ := Aside0.mk ((by rw [hg]; exact (below_size (by repeat (first | (with_reducible first | exact HB.out | apply below_alloc | apply pw_below_drewN | apply below_drew1 | refine below_set ?_ GE279.out | refine below_set ?_ GE280.out) | exact HB.out))) : w.heap.size ≤ gb289)); have n6_ := Aside0.mk ((by rw [hg]; exact Nat.ne_of_lt (blk_lt (g := gb279) (o := .cells #[.string t281, .string t282] 23 (0, 0)) (by (with_reducible repeat (first | refine blk_drewN ?_ _ | refine blk_drew ?_ | refine blk_alloc ?_ _)); exact BK279.out)) : gb279 ≠ gb289)); have n7_ := Aside0.mk ((by rw [hg]; exact Nat.ne_of_gt (blk_lt (g := gb279) (o := .cells #[.string t281, .string t282] 23 (0, 0)) (by (with_reducible repeat (first | refine blk_drewN ?_ _ | refine blk_drew ?_ | refine blk_alloc ?_ _)); exact BK279.out)) : gb289 ≠ gb279)); have n8_ := Aside0.mk ((by rw [hg]; exact Nat.ne_of_lt (blk_lt (g := gb280) (o := .cells #[.int .u64 a2_0, .int .u64 a2_1, .int .u64 a2_2, .int .u64 a2_3, .int .i64 a2_4] 26 (0, 0)) (by (with_reducible repeat (first | refine blk_drewN ?_ _ | refine blk_drew ?_ | refine blk_alloc ?_ _)); exact BK280.out)) : gb280 ≠ gb289)); have n9_ := Aside0.mk ((by rw [hg]; exact Nat.ne_of_gt (blk_lt (g := gb280) (o := .cells #[.int .u64 a2_0, .int .u64 a2_1, .int .u64 a2_2, .int .u64 a2_3, .int .i64 a2_4] 26 (0, 0)) (by (with_reducible repeat (first | refine blk_drewN ?_ _ | refine blk_drew ?_ | refine blk_alloc ?_ _)); exact BK280.out)) : gb289 ≠ gb280)); clear BK279; clear BK280; clear HB; have BK279 := n0_; have BK280 := n1_; have HB := n2_; have BK289 := n3_; have GW289 := n4_; have GE289 := n5_; have NB279_289 := n6_; have NB289_279 := n7_; have NB280_289 := n8_; have NB289_280 := n9_; clear n0_ n1_ n2_ n3_ n4_ n5_ n6_ n7_ n8_ n9_; clear hb hbox hg; have hnb22 := NB289_279.out; have hnc22 := NB279_289.out; have hnb23 := NB289_280.out; have hnc23 := NB280_289.out; have hcz24_0 : w21.cell? ⟨gb289, 0, none⟩ = some (.int .u64 0) := (blk_cell BK289.out 0).trans rfl; have hcz24_1 : w21.cell? ⟨gb289, 1, none⟩ = some (.int .u64 0) := (blk_cell BK289.out 1).trans rfl; have hcz24_2 : w21.cell? ⟨gb289, 2, none⟩ = some (.int .u64 0) := (blk_cell BK289.out 2).trans rfl; have hcz24_3 : w21.cell? ⟨gb289, 3, none⟩ = some (.int .u64 0) := (blk_cell BK289.out 3).trans rfl; have hcz24_4 : w21.cell? ⟨gb289, 4, none⟩ = some (.int .i64 0) := (blk_cell BK289.out 4).trans rfl; have hfz24_0 := blk_frozen BK289.out 0; have hfz24_1 := blk_frozen BK289.out 1; have hfz24_2 := blk_frozen BK289.out 2; have hfz24_3 := blk_frozen BK289.out 3; have hfz24_4 := blk_frozen BK289.out 4) | ((with_reducible refine gate_callee (f := 11) rfl ?_); refine goesL_ (some 33) rfl rfl Try.func11 (by kernel_rfl) rfl #[.string x0_4] rfl (by (try simp only [List.map_toArray, List.map_cons, List.map_nil]); first | done | rfl | (simp only [List.length_drop, List.length_take]; rfl)) ?_; (with_reducible refine (tattleref16_Parse.calls kj4 x0_4 t290 t291 t292 t293 t294 t295 _ A16.out).mono ?_); rintro e w25 ⟨rfl, hb⟩; refine ⟨_, rfl, ?_⟩; have n0_ := Aside0.mk (blk_below (g := gb279) (o := .cells #[.string t281, .string t282] 23 (0, 0)) (by (with_reducible repeat (first | refine blk_drewN ?_ _ | refine blk_drew ?_ | refine blk_alloc ?_ _)); refine blk_far ?_ NB279_289.out _; (with_reducible repeat (first | refine blk_drewN ?_ _ | refine blk_drew ?_ | refine blk_alloc ?_ _)); refine blk_far ?_ NB279_289.out _; (with_reducible repeat (first | refine blk_drewN ?_ _ | refine blk_drew ?_ | refine blk_alloc ?_ _)); refine blk_far ?_ NB279_289.out _; (with_reducible repeat (first | refine blk_drewN ?_ _ | refine blk_drew ?_ | refine blk_alloc ?_ _)); refine blk_far ?_ NB279_289.out _; (with_reducible repeat (first | refine blk_drewN ?_ _ | refine blk_drew ?_ | refine blk_alloc ?_ _)); refine blk_far ?_ NB279_289.out _; (with_reducible repeat (first | refine blk_drewN ?_ _ | refine blk_drew ?_ | refine blk_alloc ?_ _)); exact BK279.out) hb); have n1_ := Aside0.mk (blk_below (g := gb280) (o := .cells #[.int .u64 a2_0, .int .u64 a2_1, .int .u64 a2_2, .int .u64 a2_3, .int .i64 a2_4] 26 (0, 0)) (by (with_reducible repeat (first | refine blk_drewN ?_ _ | refine blk_drew ?_ | refine blk_alloc ?_ _)); refine blk_far ?_ NB280_289.out _; (with_reducible repeat (first | refine blk_drewN ?_ _ | refine blk_drew ?_ | refine blk_alloc ?_ _)); refine blk_far ?_ NB280_289.out _; (with_reducible repeat (first | refine blk_drewN ?_ _ | refine blk_drew ?_ | refine blk_alloc ?_ _)); refine blk_far ?_ NB280_289.out _; (with_reducible repeat (first | refine blk_drewN ?_ _ | refine blk_drew ?_ | refine blk_alloc ?_ _)); refine blk_far ?_ NB280_289.out _; (with_reducible repeat (first | refine blk_drewN ?_ _ | refine blk_drew ?_ | refine blk_alloc ?_ _)); refine blk_far ?_ NB280_289.out _; (with_reducible repeat (first | refine blk_drewN ?_ _ | refine blk_drew ?_ | refine blk_alloc ?_ _)); exact BK280.out) hb); have n2_ := Aside0.mk (blk_below (g := gb289) (o := .cells #[.int .u64 t283, .int .u64 t284, .int .u64 t285, .int .u64 t286, .int .i64 t287] 26 (0, 0)) (by (with_reducible repeat (first | refine blk_drewN ?_ _ | refine blk_drew ?_ | refine blk_alloc ?_ _)); refine blk_put (cs := #[.int .u64 t283, .int .u64 t284, .int .u64 t285, .int .u64 t286, .int .i64 0]) ?_ 4 _ rfl; (with_reducible repeat (first | refine blk_drewN ?_ _ | refine blk_drew ?_ | refine blk_alloc ?_ _)); refine blk_put (cs := #[.int .u64 t283, .int .u64 t284, .int .u64 t285, .int .u64 0, .int .i64 0]) ?_ 3 _ rfl; (with_reducible repeat (first | refine blk_drewN ?_ _ | refine blk_drew ?_ | refine blk_alloc ?_ _)); refine blk_put (cs := #[.int .u64 t283, .int .u64 t284, .int .u64 0, .int .u64 0, .int .i64 0]) ?_ 2 _ rfl; (with_reducible repeat (first | refine blk_drewN ?_ _ | refine blk_drew ?_ | refine blk_alloc ?_ _)); refine blk_put (cs := #[.int .u64 t283, .int .u64 0, .int .u64 0, .int .u64 0, .int .i64 0]) ?_ 1 _ rfl; (with_reducible repeat (first | refine blk_drewN ?_ _ | refine blk_drew ?_ | refine blk_alloc ?_ _)); refine blk_put (cs := #[.int .u64 0, .int .u64 0, .int .u64 0, .int .u64 0, .int .i64 0]) ?_ 0 _ rfl; (with_reducible repeat (first | refine blk_drewN ?_ _ | refine blk_drew ?_ | refine blk_alloc ?_ _)); exact BK289.out) hb); have n3_ := Aside0.mk (below_step (by repeat (first | (with_reducible first | exact HB.out | apply below_alloc | apply pw_below_drewN | apply below_drew1 | refine below_set ?_ GE279.out | refine below_set ?_ GE280.out | refine below_set ?_ GE289.out) | exact HB.out)) hb); clear BK279; clear BK280; clear BK289; clear HB; have BK279 := n0_; have BK280 := n1_; have BK289 := n2_; have HB := n3_; clear n0_ n1_ n2_ n3_; (try clear hb); (try clear hb2); (try clear hk); (try clear hi)) | ((with_reducible refine gate_dst (N := 9) rfl ?_); refine box_event ?hg (N := 9) ?hd (cs := #[.int .u64 0, .int .u64 0, .int .u64 0, .int .u64 0, .int .i64 0]) (t := 26) ?hr ?_; (case hd => rfl); (case hg => rfl); (case hr => first | (go_simp; done) | (go_simp; rfl)); intro gb296 hg w26 hbox hb; have n0_ := Aside0.mk (blk_below (g := gb279) (o := .cells #[.string t281, .string t282] 23 (0, 0)) (by (with_reducible repeat (first | refine blk_drewN ?_ _ | refine blk_drew ?_ | refine blk_alloc ?_ _)); exact BK279.out) hb); have n1_ := Aside0.mk (blk_below (g := gb280) (o := .cells #[.int .u64 a2_0, .int .u64 a2_1, .int .u64 a2_2, .int .u64 a2_3, .int .i64 a2_4] 26 (0, 0)) (by (with_reducible repeat (first | refine blk_drewN ?_ _ | refine blk_drew ?_ | refine blk_alloc ?_ _)); exact BK280.out) hb); have n2_ := Aside0.mk (blk_below (g := gb289) (o := .cells #[.int .u64 t283, .int .u64 t284, .int .u64 t285, .int .u64 t286, .int .i64 t287] 26 (0, 0)) (by (with_reducible repeat (first | refine blk_drewN ?_ _ | refine blk_drew ?_ | refine blk_alloc ?_ _)); exact BK289.out) hb); have n3_ := Aside0.mk (below_step (by repeat (first | (with_reducible first | exact HB.out | apply below_alloc | apply pw_below_drewN | apply below_drew1 | refine below_set ?_ GE279.out | refine below_set ?_ GE280.out | refine below_set ?_ GE289.out) | exact HB.out)) hb); have n4_ := Aside0.mk (hbox); have n5_ := Aside0.mk ((by rw [hg]; exact (below_size (by repeat (first | (with_reducible first | exact HB.out | apply below_alloc | apply pw_below_drewN | apply below_drew1 | refine below_set ?_ GE279.out | refine below_set ?_ GE280.out | refine below_set ?_ GE289.out) | exact HB.out))) : w.heap.size ≤ gb296)); have n6_ := Aside0.mk ((by rw [hg]; exact (below_size (by repeat (first | (with_reducible first | exact HB.out | apply below_alloc | apply pw_below_drewN | apply below_drew1 | refine below_set ?_ GE279.out | refine below_set ?_ GE280.out | refine below_set ?_ GE289.out) | exact HB.out))) : w.heap.size ≤ gb296)); have n7_ := Aside0.mk ((by rw [hg]; exact Nat.ne_of_lt (blk_lt (g := gb279) (o := .cells #[.string t281, .string t282] 23 (0, 0)) (by (with_reducible repeat (first | refine blk_drewN ?_ _ | refine blk_drew ?_ | refine blk_alloc ?_ _)); exact BK279.out)) : gb279 ≠ gb296)); have n8_ := Aside0.mk ((by rw [hg]; exact Nat.ne_of_gt (blk_lt (g := gb279) (o := .cells #[.string t281, .string t282] 23 (0, 0)) (by (with_reducible repeat (first | refine blk_drewN ?_ _ | refine blk_drew ?_ | refine blk_alloc ?_ _)); exact BK279.out)) : gb296 ≠ gb279)); have n9_ := Aside0.mk ((by rw [hg]; exact Nat.ne_of_lt (blk_lt (g := gb280) (o := .cells #[.int .u64 a2_0, .int .u64 a2_1, .int .u64 a2_2, .int .u64 a2_3, .int .i64 a2_4] 26 (0, 0)) (by (with_reducible repeat (first | refine blk_drewN ?_ _ | refine blk_drew ?_ | refine blk_alloc ?_ _)); exact BK280.out)) : gb280 ≠ gb296)); have n10_ := Aside0.mk ((by rw [hg]; exact Nat.ne_of_gt (blk_lt (g := gb280) (o := .cells #[.int .u64 a2_0, .int .u64 a2_1, .int .u64 a2_2, .int .u64 a2_3, .int .i64 a2_4] 26 (0, 0)) (by (with_reducible repeat (first | refine blk_drewN ?_ _ | refine blk_drew ?_ | refine blk_alloc ?_ _)); exact BK280.out)) : gb296 ≠ gb280)); have n11_ := Aside0.mk ((by rw [hg]; exact Nat.ne_of_lt (blk_lt (g := gb289) (o := .cells #[.int .u64 t283, .int .u64 t284, .int .u64 t285, .int .u64 t286, .int .i64 t287] 26 (0, 0)) (by (with_reducible repeat (first | refine blk_drewN ?_ _ | refine blk_drew ?_ | refine blk_alloc ?_ _)); exact BK289.out)) : gb289 ≠ gb296)); have n12_ := Aside0.mk ((by rw [hg]; exact Nat.ne_of_gt (blk_lt (g := gb289) (o := .cells #[.int .u64 t283, .int .u64 t284, .int .u64 t285, .int .u64 t286, .int .i64 t287] 26 (0, 0)) (by (with_reducible repeat (first | refine blk_drewN ?_ _ | refine blk_drew ?_ | refine blk_alloc ?_ _)); exact BK289.out)) : gb296 ≠ gb289)); clear BK279; clear BK280; clear BK289; clear HB; have BK279 := n0_; have BK280 := n1_; have BK289 := n2_; have HB := n3_; have BK296 := n4_; have GW296 := n5_; have GE296 := n6_; have NB279_296 := n7_; have NB296_279 := n8_; have NB280_296 := n9_; have NB296_280 := n10_; have NB289_296 := n11_; have NB296_289 := n12_; clear n0_ n1_ n2_ n3_ n4_ n5_ n6_ n7_ n8_ n9_ n10_ n11_ n12_; clear hb hbox hg; have hnb27 := NB296_279.out; have hnc27 := NB279_296.out; have hnb28 := NB296_280.out; have hnc28 := NB280_296.out; have hnb29 := NB296_289.out; have hnc29 := NB289_296.out; have hcz30_0 : w26.cell? ⟨gb296, 0, none⟩ = some (.int .u64 0) := (blk_cell BK296.out 0).trans rfl; have hcz30_1 : w26.cell? ⟨gb296, 1, none⟩ = some (.int .u64 0) := (blk_cell BK296.out 1).trans rfl; have hcz30_2 : w26.cell? ⟨gb296, 2, none⟩ = some (.int .u64 0) := (blk_cell BK296.out 2).trans rfl; have hcz30_3 : w26.cell? ⟨gb296, 3, none⟩ = some (.int .u64 0) := (blk_cell BK296.out 3).trans rfl; have hcz30_4 : w26.cell? ⟨gb296, 4, none⟩ = some (.int .i64 0) := (blk_cell BK296.out 4).trans rfl; have hfz30_0 := blk_frozen BK296.out 0; have hfz30_1 := blk_frozen BK296.out 1; have hfz30_2 := blk_frozen BK296.out 2; have hfz30_3 := blk_frozen BK296.out 3; have hfz30_4 := blk_frozen BK296.out 4; have hnb31 := NB279_280.out; have hnc31 := NB280_279.out; have hcz32_0 : w26.cell? ⟨gb279, 0, none⟩ = some (.string t281) := (blk_cell BK279.out 0).trans rfl; have hcz32_1 : w26.cell? ⟨gb279, 1, none⟩ = some (.string t282) := (blk_cell BK279.out 1).trans rfl; have hfz32_0 := blk_frozen BK279.out 0; have hfz32_1 := blk_frozen BK279.out 1) | ((with_reducible refine gate_callee (f := 12) rfl ?_); refine goesL_ (some 38) rfl rfl Try.func12 (by kernel_rfl) rfl #[.agg #[.string t281, .string t282]] rfl (by (try simp only [List.map_toArray, List.map_cons, List.map_nil]); first | done | rfl | (simp only [List.length_drop, List.length_take]; rfl)) ?_; (with_reducible refine (disk_Read.calls kj4 t281 t282 t297 t298 t299 t300 t301 t302 _ A17.out).mono ?_); rintro e w33 ⟨rfl, hb⟩; refine ⟨_, rfl, ?_⟩; have n0_ := Aside0.mk (blk_below (g := gb279) (o := .cells #[.string t281, .string t282] 23 (0, 0)) (by (with_reducible repeat (first | refine blk_drewN ?_ _ | refine blk_drew ?_ | refine blk_alloc ?_ _)); refine blk_far ?_ NB279_296.out _; (with_reducible repeat (first | refine blk_drewN ?_ _ | refine blk_drew ?_ | refine blk_alloc ?_ _)); refine blk_far ?_ NB279_296.out _; (with_reducible repeat (first | refine blk_drewN ?_ _ | refine blk_drew ?_ | refine blk_alloc ?_ _)); refine blk_far ?_ NB279_296.out _; (with_reducible repeat (first | refine blk_drewN ?_ _ | refine blk_drew ?_ | refine blk_alloc ?_ _)); refine blk_far ?_ NB279_296.out _; (with_reducible repeat (first | refine blk_drewN ?_ _ | refine blk_drew ?_ | refine blk_alloc ?_ _)); refine blk_far ?_ NB279_296.out _; (with_reducible repeat (first | refine blk_drewN ?_ _ | refine blk_drew ?_ | refine blk_alloc ?_ _)); exact BK279.out) hb); have n1_ := Aside0.mk (blk_below (g := gb280) (o := .cells #[.int .u64 a2_0, .int .u64 a2_1, .int .u64 a2_2, .int .u64 a2_3, .int .i64 a2_4] 26 (0, 0)) (by (with_reducible repeat (first | refine blk_drewN ?_ _ | refine blk_drew ?_ | refine blk_alloc ?_ _)); refine blk_far ?_ NB280_296.out _; (with_reducible repeat (first | refine blk_drewN ?_ _ | refine blk_drew ?_ | refine blk_alloc ?_ _)); refine blk_far ?_ NB280_296.out _; (with_reducible repeat (first | refine blk_drewN ?_ _ | refine blk_drew ?_ | refine blk_alloc ?_ _)); refine blk_far ?_ NB280_296.out _; (with_reducible repeat (first | refine blk_drewN ?_ _ | refine blk_drew ?_ | refine blk_alloc ?_ _)); refine blk_far ?_ NB280_296.out _; (with_reducible repeat (first | refine blk_drewN ?_ _ | refine blk_drew ?_ | refine blk_alloc ?_ _)); refine blk_far ?_ NB280_296.out _; (with_reducible repeat (first | refine blk_drewN ?_ _ | refine blk_drew ?_ | refine blk_alloc ?_ _)); exact BK280.out) hb); have n2_ := Aside0.mk (blk_below (g := gb289) (o := .cells #[.int .u64 t283, .int .u64 t284, .int .u64 t285, .int .u64 t286, .int .i64 t287] 26 (0, 0)) (by (with_reducible repeat (first | refine blk_drewN ?_ _ | refine blk_drew ?_ | refine blk_alloc ?_ _)); refine blk_far ?_ NB289_296.out _; (with_reducible repeat (first | refine blk_drewN ?_ _ | refine blk_drew ?_ | refine blk_alloc ?_ _)); refine blk_far ?_ NB289_296.out _; (with_reducible repeat (first | refine blk_drewN ?_ _ | refine blk_drew ?_ | refine blk_alloc ?_ _)); refine blk_far ?_ NB289_296.out _; (with_reducible repeat (first | refine blk_drewN ?_ _ | refine blk_drew ?_ | refine blk_alloc ?_ _)); refine blk_far ?_ NB289_296.out _; (with_reducible repeat (first | refine blk_drewN ?_ _ | refine blk_drew ?_ | refine blk_alloc ?_ _)); refine blk_far ?_ NB289_296.out _; (with_reducible repeat (first | refine blk_drewN ?_ _ | refine blk_drew ?_ | refine blk_alloc ?_ _)); exact BK289.out) hb); have n3_ := Aside0.mk (blk_below (g := gb296) (o := .cells #[.int .u64 t290, .int .u64 t291, .int .u64 t292, .int .u64 t293, .int .i64 t294] 26 (0, 0)) (by (with_reducible repeat (first | refine blk_drewN ?_ _ | refine blk_drew ?_ | refine blk_alloc ?_ _)); refine blk_put (cs := #[.int .u64 t290, .int .u64 t291, .int .u64 t292, .int .u64 t293, .int .i64 0]) ?_ 4 _ rfl; (with_reducible repeat (first | refine blk_drewN ?_ _ | refine blk_drew ?_ | refine blk_alloc ?_ _)); refine blk_put (cs := #[.int .u64 t290, .int .u64 t291, .int .u64 t292, .int .u64 0, .int .i64 0]) ?_ 3 _ rfl; (with_reducible repeat (first | refine blk_drewN ?_ _ | refine blk_drew ?_ | refine blk_alloc ?_ _)); refine blk_put (cs := #[.int .u64 t290, .int .u64 t291, .int .u64 0, .int .u64 0, .int .i64 0]) ?_ 2 _ rfl; (with_reducible repeat (first | refine blk_drewN ?_ _ | refine blk_drew ?_ | refine blk_alloc ?_ _)); refine blk_put (cs := #[.int .u64 t290, .int .u64 0, .int .u64 0, .int .u64 0, .int .i64 0]) ?_ 1 _ rfl; (with_reducible repeat (first | refine blk_drewN ?_ _ | refine blk_drew ?_ | refine blk_alloc ?_ _)); refine blk_put (cs := #[.int .u64 0, .int .u64 0, .int .u64 0, .int .u64 0, .int .i64 0]) ?_ 0 _ rfl; (with_reducible repeat (first | refine blk_drewN ?_ _ | refine blk_drew ?_ | refine blk_alloc ?_ _)); exact BK296.out) hb); have n4_ := Aside0.mk (below_step (by repeat (first | (with_reducible first | exact HB.out | apply below_alloc | apply pw_below_drewN | apply below_drew1 | refine below_set ?_ GE279.out | refine below_set ?_ GE280.out | refine below_set ?_ GE289.out | refine below_set ?_ GE296.out) | exact HB.out)) hb); clear BK279; clear BK280; clear BK289; clear BK296; clear HB; have BK279 := n0_; have BK280 := n1_; have BK289 := n2_; have BK296 := n3_; have HB := n4_; clear n0_ n1_ n2_ n3_ n4_; (try clear hb); (try clear hb2); (try clear hk); (try clear hi)) | ((with_reducible refine gate_dst (N := 11) rfl ?_); refine box_event ?hg (N := 11) ?hd (cs := #[.int .u64 0, .int .u64 0, .int .u64 0, .int .u64 0, .int .i64 0]) (t := 26) ?hr ?_; (case hd => rfl); (case hg => rfl); (case hr => first | (go_simp; done) | (go_simp; rfl)); intro gb303 hg w34 hbox hb; have n0_ := Aside0.mk (blk_below (g := gb279) (o := .cells #[.string t281, .string t282] 23 (0, 0)) (by (with_reducible repeat (first | refine blk_drewN ?_ _ | refine blk_drew ?_ | refine blk_alloc ?_ _)); exact BK279.out) hb); have n1_ := Aside0.mk (blk_below (g := gb280) (o := .cells #[.int .u64 a2_0, .int .u64 a2_1, .int .u64 a2_2, .int .u64 a2_3, .int .i64 a2_4] 26 (0, 0)) (by (with_reducible repeat (first | refine blk_drewN ?_ _ | refine blk_drew ?_ | refine blk_alloc ?_ _)); exact BK280.out) hb); have n2_ := Aside0.mk (blk_below (g := gb289) (o := .cells #[.int .u64 t283, .int .u64 t284, .int .u64 t285, .int .u64 t286, .int .i64 t287] 26 (0, 0)) (by (with_reducible repeat (first | refine blk_drewN ?_ _ | refine blk_drew ?_ | refine blk_alloc ?_ _)); exact BK289.out) hb); have n3_ := Aside0.mk (blk_below (g := gb296) (o := .cells #[.int .u64 t290, .int .u64 t291, .int .u64 t292, .int .u64 t293, .int .i64 t294] 26 (0, 0)) (by (with_reducible repeat (first | refine blk_drewN ?_ _ | refine blk_drew ?_ | refine blk_alloc ?_ _)); exact BK296.out) hb); have n4_ := Aside0.mk (below_step (by repeat (first | (with_reducible first | exact HB.out | apply below_alloc | apply pw_below_drewN | apply below_drew1 | refine below_set ?_ GE279.out | refine below_set ?_ GE280.out | refine below_set ?_ GE289.out | refine below_set ?_ GE296.out) | exact HB.out)) hb); have n5_ := Aside0.mk (hbox); have n6_ := Aside0.mk ((by rw [hg]; exact (below_size (by repeat (first | (with_reducible first | exact HB.out | apply below_alloc | apply pw_below_drewN | apply below_drew1 | refine below_set ?_ GE279.out | refine below_set ?_ GE280.out | refine below_set ?_ GE289.out | refine below_set ?_ GE296.out) | exact HB.out))) : w.heap.size ≤ gb303)); have n7_ := Aside0.mk ((by rw [hg]; exact (below_size (by repeat (first | (with_reducible first | exact HB.out | apply below_alloc | apply pw_below_drewN | apply below_drew1 | refine below_set ?_ GE279.out | refine below_set ?_ GE280.out | refine below_set ?_ GE289.out | refine below_set ?_ GE296.out) | exact HB.out))) : w.heap.size ≤ gb303)); have n8_ := Aside0.mk ((by rw [hg]; exact Nat.ne_of_lt (blk_lt (g := gb279) (o := .cells #[.string t281, .string t282] 23 (0, 0)) (by (with_reducible repeat (first | refine blk_drewN ?_ _ | refine blk_drew ?_ | refine blk_alloc ?_ _)); exact BK279.out)) : gb279 ≠ gb303)); have n9_ := Aside0.mk ((by rw [hg]; exact Nat.ne_of_gt (blk_lt (g := gb279) (o := .cells #[.string t281, .string t282] 23 (0, 0)) (by (with_reducible repeat (first | refine blk_drewN ?_ _ | refine blk_drew ?_ | refine blk_alloc ?_ _)); exact BK279.out)) : gb303 ≠ gb279)); have n10_ := Aside0.mk ((by rw [hg]; exact Nat.ne_of_lt (blk_lt (g := gb280) (o := .cells #[.int .u64 a2_0, .int .u64 a2_1, .int .u64 a2_2, .int .u64 a2_3, .int .i64 a2_4] 26 (0, 0)) (by (with_reducible repeat (first | refine blk_drewN ?_ _ | refine blk_drew ?_ | refine blk_alloc ?_ _)); exact BK280.out)) : gb280 ≠ gb303)); have n11_ := Aside0.mk ((by rw [hg]; exact Nat.ne_of_gt (blk_lt (g := gb280) (o := .cells #[.int .u64 a2_0, .int .u64 a2_1, .int .u64 a2_2, .int .u64 a2_3, .int .i64 a2_4] 26 (0, 0)) (by (with_reducible repeat (first | refine blk_drewN ?_ _ | refine blk_drew ?_ | refine blk_alloc ?_ _)); exact BK280.out)) : gb303 ≠ gb280)); have n12_ := Aside0.mk ((by rw [hg]; exact Nat.ne_of_lt (blk_lt (g := gb289) (o := .cells #[.int .u64 t283, .int .u64 t284, .int .u64 t285, .int .u64 t286, .int .i64 t287] 26 (0, 0)) (by (with_reducible repeat (first | refine blk_drewN ?_ _ | refine blk_drew ?_ | refine blk_alloc ?_ _)); exact BK289.out)) : gb289 ≠ gb303)); have n13_ := Aside0.mk ((by rw [hg]; exact Nat.ne_of_gt (blk_lt (g := gb289) (o := .cells #[.int .u64 t283, .int .u64 t284, .int .u64 t285, .int .u64 t286, .int .i64 t287] 26 (0, 0)) (by (with_reducible repeat (first | refine blk_drewN ?_ _ | refine blk_drew ?_ | refine blk_alloc ?_ _)); exact BK289.out)) : gb303 ≠ gb289)); have n14_ := Aside0.mk ((by rw [hg]; exact Nat.ne_of_lt (blk_lt (g := gb296) (o := .cells #[.int .u64 t290, .int .u64 t291, .int .u64 t292, .int .u64 t293, .int .i64 t294] 26 (0, 0)) (by (with_reducible repeat (first | refine blk_drewN ?_ _ | refine blk_drew ?_ | refine blk_alloc ?_ _)); exact BK296.out)) : gb296 ≠ gb303)); have n15_ := Aside0.mk ((by rw [hg]; exact Nat.ne_of_gt (blk_lt (g := gb296) (o := .cells #[.int .u64 t290, .int .u64 t291, .int .u64 t292, .int .u64 t293, .int .i64 t294] 26 (0, 0)) (by (with_reducible repeat (first | refine blk_drewN ?_ _ | refine blk_drew ?_ | refine blk_alloc ?_ _)); exact BK296.out)) : gb303 ≠ gb296)); clear BK279; clear BK280; clear BK289; clear BK296; clear HB; have BK279 := n0_; have BK280 := n1_; have BK289 := n2_; have BK296 := n3_; have HB := n4_; have BK303 := n5_; have GW303 := n6_; have GE303 := n7_; have NB279_303 := n8_; have NB303_279 := n9_; have NB280_303 := n10_; have NB303_280 := n11_; have NB289_303 := n12_; have NB303_289 := n13_; have NB296_303 := n14_; have NB303_296 := n15_; clear n0_ n1_ n2_ n3_ n4_ n5_ n6_ n7_ n8_ n9_ n10_ n11_ n12_ n13_ n14_ n15_; clear hb hbox hg; have hnb35 := NB303_279.out; have hnc35 := NB279_303.out; have hnb36 := NB303_280.out; have hnc36 := NB280_303.out; have hnb37 := NB303_289.out; have hnc37 := NB289_303.out; have hnb38 := NB303_296.out; have hnc38 := NB296_303.out; have hcz39_0 : w34.cell? ⟨gb303, 0, none⟩ = some (.int .u64 0) := (blk_cell BK303.out 0).trans rfl; have hcz39_1 : w34.cell? ⟨gb303, 1, none⟩ = some (.int .u64 0) := (blk_cell BK303.out 1).trans rfl; have hcz39_2 : w34.cell? ⟨gb303, 2, none⟩ = some (.int .u64 0) := (blk_cell BK303.out 2).trans rfl; have hcz39_3 : w34.cell? ⟨gb303, 3, none⟩ = some (.int .u64 0) := (blk_cell BK303.out 3).trans rfl; have hcz39_4 : w34.cell? ⟨gb303, 4, none⟩ = some (.int .i64 0) := (blk_cell BK303.out 4).trans rfl; have hfz39_0 := blk_frozen BK303.out 0; have hfz39_1 := blk_frozen BK303.out 1; have hfz39_2 := blk_frozen BK303.out 2; have hfz39_3 := blk_frozen BK303.out 3; have hfz39_4 := blk_frozen BK303.out 4; have hcz40_0 : w34.cell? ⟨gb279, 0, none⟩ = some (.string t281) := (blk_cell BK279.out 0).trans rfl; have hcz40_1 : w34.cell? ⟨gb279, 1, none⟩ = some (.string t282) := (blk_cell BK279.out 1).trans rfl; have hfz40_0 := blk_frozen BK279.out 0; have hfz40_1 := blk_frozen BK279.out 1) | ((with_reducible refine gate_callee (f := 13) rfl ?_); refine goesL_ (some 43) rfl rfl Try.func13 (by kernel_rfl) rfl #[.agg #[.string t281, .string t282]] rfl (by (try simp only [List.map_toArray, List.map_cons, List.map_nil]); first | done | rfl | (simp only [List.length_drop, List.length_take]; rfl)) ?_; (with_reducible refine (tattleref16_Read.calls kj4 t281 t282 t304 t305 t306 t307 t308 t309 _ A18.out).mono ?_); rintro e w41 ⟨rfl, hb⟩; refine ⟨_, rfl, ?_⟩; have n0_ := Aside0.mk (blk_below (g := gb279) (o := .cells #[.string t281, .string t282] 23 (0, 0)) (by (with_reducible repeat (first | refine blk_drewN ?_ _ | refine blk_drew ?_ | refine blk_alloc ?_ _)); refine blk_far ?_ NB279_303.out _; (with_reducible repeat (first | refine blk_drewN ?_ _ | refine blk_drew ?_ | refine blk_alloc ?_ _)); refine blk_far ?_ NB279_303.out _; (with_reducible repeat (first | refine blk_drewN ?_ _ | refine blk_drew ?_ | refine blk_alloc ?_ _)); refine blk_far ?_ NB279_303.out _; (with_reducible repeat (first | refine blk_drewN ?_ _ | refine blk_drew ?_ | refine blk_alloc ?_ _)); refine blk_far ?_ NB279_303.out _; (with_reducible repeat (first | refine blk_drewN ?_ _ | refine blk_drew ?_ | refine blk_alloc ?_ _)); refine blk_far ?_ NB279_303.out _; (with_reducible repeat (first | refine blk_drewN ?_ _ | refine blk_drew ?_ | refine blk_alloc ?_ _)); exact BK279.out) hb); have n1_ := Aside0.mk (blk_below (g := gb280) (o := .cells #[.int .u64 a2_0, .int .u64 a2_1, .int .u64 a2_2, .int .u64 a2_3, .int .i64 a2_4] 26 (0, 0)) (by (with_reducible repeat (first | refine blk_drewN ?_ _ | refine blk_drew ?_ | refine blk_alloc ?_ _)); refine blk_far ?_ NB280_303.out _; (with_reducible repeat (first | refine blk_drewN ?_ _ | refine blk_drew ?_ | refine blk_alloc ?_ _)); refine blk_far ?_ NB280_303.out _; (with_reducible repeat (first | refine blk_drewN ?_ _ | refine blk_drew ?_ | refine blk_alloc ?_ _)); refine blk_far ?_ NB280_303.out _; (with_reducible repeat (first | refine blk_drewN ?_ _ | refine blk_drew ?_ | refine blk_alloc ?_ _)); refine blk_far ?_ NB280_303.out _; (with_reducible repeat (first | refine blk_drewN ?_ _ | refine blk_drew ?_ | refine blk_alloc ?_ _)); refine blk_far ?_ NB280_303.out _; (with_reducible repeat (first | refine blk_drewN ?_ _ | refine blk_drew ?_ | refine blk_alloc ?_ _)); exact BK280.out) hb); have n2_ := Aside0.mk (blk_below (g := gb289) (o := .cells #[.int .u64 t283, .int .u64 t284, .int .u64 t285, .int .u64 t286, .int .i64 t287] 26 (0, 0)) (by (with_reducible repeat (first | refine blk_drewN ?_ _ | refine blk_drew ?_ | refine blk_alloc ?_ _)); refine blk_far ?_ NB289_303.out _; (with_reducible repeat (first | refine blk_drewN ?_ _ | refine blk_drew ?_ | refine blk_alloc ?_ _)); refine blk_far ?_ NB289_303.out _; (with_reducible repeat (first | refine blk_drewN ?_ _ | refine blk_drew ?_ | refine blk_alloc ?_ _)); refine blk_far ?_ NB289_303.out _; (with_reducible repeat (first | refine blk_drewN ?_ _ | refine blk_drew ?_ | refine blk_alloc ?_ _)); refine blk_far ?_ NB289_303.out _; (with_reducible repeat (first | refine blk_drewN ?_ _ | refine blk_drew ?_ | refine blk_alloc ?_ _)); refine blk_far ?_ NB289_303.out _; (with_reducible repeat (first | refine blk_drewN ?_ _ | refine blk_drew ?_ | refine blk_alloc ?_ _)); exact BK289.out) hb); have n3_ := Aside0.mk (blk_below (g := gb296) (o := .cells #[.int .u64 t290, .int .u64 t291, .int .u64 t292, .int .u64 t293, .int .i64 t294] 26 (0, 0)) (by (with_reducible repeat (first | refine blk_drewN ?_ _ | refine blk_drew ?_ | refine blk_alloc ?_ _)); refine blk_far ?_ NB296_303.out _; (with_reducible repeat (first | refine blk_drewN ?_ _ | refine blk_drew ?_ | refine blk_alloc ?_ _)); refine blk_far ?_ NB296_303.out _; (with_reducible repeat (first | refine blk_drewN ?_ _ | refine blk_drew ?_ | refine blk_alloc ?_ _)); refine blk_far ?_ NB296_303.out _; (with_reducible repeat (first | refine blk_drewN ?_ _ | refine blk_drew ?_ | refine blk_alloc ?_ _)); refine blk_far ?_ NB296_303.out _; (with_reducible repeat (first | refine blk_drewN ?_ _ | refine blk_drew ?_ | refine blk_alloc ?_ _)); refine blk_far ?_ NB296_303.out _; (with_reducible repeat (first | refine blk_drewN ?_ _ | refine blk_drew ?_ | refine blk_alloc ?_ _)); exact BK296.out) hb); have n4_ := Aside0.mk (blk_below (g := gb303) (o := .cells #[.int .u64 t297, .int .u64 t298, .int .u64 t299, .int .u64 t300, .int .i64 t301] 26 (0, 0)) (by (with_reducible repeat (first | refine blk_drewN ?_ _ | refine blk_drew ?_ | refine blk_alloc ?_ _)); refine blk_put (cs := #[.int .u64 t297, .int .u64 t298, .int .u64 t299, .int .u64 t300, .int .i64 0]) ?_ 4 _ rfl; (with_reducible repeat (first | refine blk_drewN ?_ _ | refine blk_drew ?_ | refine blk_alloc ?_ _)); refine blk_put (cs := #[.int .u64 t297, .int .u64 t298, .int .u64 t299, .int .u64 0, .int .i64 0]) ?_ 3 _ rfl; (with_reducible repeat (first | refine blk_drewN ?_ _ | refine blk_drew ?_ | refine blk_alloc ?_ _)); refine blk_put (cs := #[.int .u64 t297, .int .u64 t298, .int .u64 0, .int .u64 0, .int .i64 0]) ?_ 2 _ rfl; (with_reducible repeat (first | refine blk_drewN ?_ _ | refine blk_drew ?_ | refine blk_alloc ?_ _)); refine blk_put (cs := #[.int .u64 t297, .int .u64 0, .int .u64 0, .int .u64 0, .int .i64 0]) ?_ 1 _ rfl; (with_reducible repeat (first | refine blk_drewN ?_ _ | refine blk_drew ?_ | refine blk_alloc ?_ _)); refine blk_put (cs := #[.int .u64 0, .int .u64 0, .int .u64 0, .int .u64 0, .int .i64 0]) ?_ 0 _ rfl; (with_reducible repeat (first | refine blk_drewN ?_ _ | refine blk_drew ?_ | refine blk_alloc ?_ _)); exact BK303.out) hb); have n5_ := Aside0.mk (below_step (by repeat (first | (with_reducible first | exact HB.out | apply below_alloc | apply pw_below_drewN | apply below_drew1 | refine below_set ?_ GE279.out | refine below_set ?_ GE280.out | refine below_set ?_ GE289.out | refine below_set ?_ GE296.out | refine below_set ?_ GE303.out) | exact HB.out)) hb); clear BK279; clear BK280; clear BK289; clear BK296; clear BK303; clear HB; have BK279 := n0_; have BK280 := n1_; have BK289 := n2_; have BK296 := n3_; have BK303 := n4_; have HB := n5_; clear n0_ n1_ n2_ n3_ n4_ n5_; (try clear hb); (try clear hb2); (try clear hk); (try clear hi)) | ((with_reducible refine gate_dst (N := 13) rfl ?_); refine box_event ?hg (N := 13) ?hd (cs := #[.int .u64 0, .int .u64 0, .int .u64 0, .int .u64 0, .int .i64 0]) (t := 26) ?hr ?_; (case hd => rfl); (case hg => rfl); (case hr => first | (go_simp; done) | (go_simp; rfl)); intro gb310 hg w42 hbox hb; have n0_ := Aside0.mk (blk_below (g := gb279) (o := .cells #[.string t281, .string t282] 23 (0, 0)) (by (with_reducible repeat (first | refine blk_drewN ?_ _ | refine blk_drew ?_ | refine blk_alloc ?_ _)); exact BK279.out) hb); have n1_ := Aside0.mk (blk_below (g := gb280) (o := .cells #[.int .u64 a2_0, .int .u64 a2_1, .int .u64 a2_2, .int .u64 a2_3, .int .i64 a2_4] 26 (0, 0)) (by (with_reducible repeat (first | refine blk_drewN ?_ _ | refine blk_drew ?_ | refine blk_alloc ?_ _)); exact BK280.out) hb); have n2_ := Aside0.mk (blk_below (g := gb289) (o := .cells #[.int .u64 t283, .int .u64 t284, .int .u64 t285, .int .u64 t286, .int .i64 t287] 26 (0, 0)) (by (with_reducible repeat (first | refine blk_drewN ?_ _ | refine blk_drew ?_ | refine blk_alloc ?_ _)); exact BK289.out) hb); have n3_ := Aside0.mk (blk_below (g := gb296) (o := .cells #[.int .u64 t290, .int .u64 t291, .int .u64 t292, .int .u64 t293, .int .i64 t294] 26 (0, 0)) (by (with_reducible repeat (first | refine blk_drewN ?_ _ | refine blk_drew ?_ | refine blk_alloc ?_ _)); exact BK296.out) hb); have n4_ := Aside0.mk (blk_below (g := gb303) (o := .cells #[.int .u64 t297, .int .u64 t298, .int .u64 t299, .int .u64 t300, .int .i64 t301] 26 (0, 0)) (by (with_reducible repeat (first | refine blk_drewN ?_ _ | refine blk_drew ?_ | refine blk_alloc ?_ _)); exact BK303.out) hb); have n5_ := Aside0.mk (below_step (by repeat (first | (with_reducible first | exact HB.out | apply below_alloc | apply pw_below_drewN | apply below_drew1 | refine below_set ?_ GE279.out | refine below_set ?_ GE280.out | refine below_set ?_ GE289.out | refine below_set ?_ GE296.out | refine below_set ?_ GE303.out) | exact HB.out)) hb); have n6_ := Aside0.mk (hbox); have n7_ := Aside0.mk ((by rw [hg]; exact (below_size (by repeat (first | (with_reducible first | exact HB.out | apply below_alloc | apply pw_below_drewN | apply below_drew1 | refine below_set ?_ GE279.out | refine below_set ?_ GE280.out | refine below_set ?_ GE289.out | refine below_set ?_ GE296.out | refine below_set ?_ GE303.out) | exact HB.out))) : w.heap.size ≤ gb310)); have n8_ := Aside0.mk ((by rw [hg]; exact (below_size (by repeat (first | (with_reducible first | exact HB.out | apply below_alloc | apply pw_below_drewN | apply below_drew1 | refine below_set ?_ GE279.out | refine below_set ?_ GE280.out | refine below_set ?_ GE289.out | refine below_set ?_ GE296.out | refine below_set ?_ GE303.out) | exact HB.out))) : w.heap.size ≤ gb310)); have n9_ := Aside0.mk ((by rw [hg]; exact Nat.ne_of_lt (blk_lt (g := gb279) (o := .cells #[.string t281, .string t282] 23 (0, 0)) (by (with_reducible repeat (first | refine blk_drewN ?_ _ | refine blk_drew ?_ | refine blk_alloc ?_ _)); exact BK279.out)) : gb279 ≠ gb310)); have n10_ := Aside0.mk ((by rw [hg]; exact Nat.ne_of_gt (blk_lt (g := gb279) (o := .cells #[.string t281, .string t282] 23 (0, 0)) (by (with_reducible repeat (first | refine blk_drewN ?_ _ | refine blk_drew ?_ | refine blk_alloc ?_ _)); exact BK279.out)) : gb310 ≠ gb279)); have n11_ := Aside0.mk ((by rw [hg]; exact Nat.ne_of_lt (blk_lt (g := gb280) (o := .cells #[.int .u64 a2_0, .int .u64 a2_1, .int .u64 a2_2, .int .u64 a2_3, .int .i64 a2_4] 26 (0, 0)) (by (with_reducible repeat (first | refine blk_drewN ?_ _ | refine blk_drew ?_ | refine blk_alloc ?_ _)); exact BK280.out)) : gb280 ≠ gb310)); have n12_ := Aside0.mk ((by rw [hg]; exact Nat.ne_of_gt (blk_lt (g := gb280) (o := .cells #[.int .u64 a2_0, .int .u64 a2_1, .int .u64 a2_2, .int .u64 a2_3, .int .i64 a2_4] 26 (0, 0)) (by (with_reducible repeat (first | refine blk_drewN ?_ _ | refine blk_drew ?_ | refine blk_alloc ?_ _)); exact BK280.out)) : gb310 ≠ gb280)); have n13_ := Aside0.mk ((by rw [hg]; exact Nat.ne_of_lt (blk_lt (g := gb289) (o := .cells #[.int .u64 t283, .int .u64 t284, .int .u64 t285, .int .u64 t286, .int .i64 t287] 26 (0, 0)) (by (with_reducible repeat (first | refine blk_drewN ?_ _ | refine blk_drew ?_ | refine blk_alloc ?_ _)); exact BK289.out)) : gb289 ≠ gb310)); have n14_ := Aside0.mk ((by rw [hg]; exact Nat.ne_of_gt (blk_lt (g := gb289) (o := .cells #[.int .u64 t283, .int .u64 t284, .int .u64 t285, .int .u64 t286, .int .i64 t287] 26 (0, 0)) (by (with_reducible repeat (first | refine blk_drewN ?_ _ | refine blk_drew ?_ | refine blk_alloc ?_ _)); exact BK289.out)) : gb310 ≠ gb289)); have n15_ := Aside0.mk ((by rw [hg]; exact Nat.ne_of_lt (blk_lt (g := gb296) (o := .cells #[.int .u64 t290, .int .u64 t291, .int .u64 t292, .int .u64 t293, .int .i64 t294] 26 (0, 0)) (by (with_reducible repeat (first | refine blk_drewN ?_ _ | refine blk_drew ?_ | refine blk_alloc ?_ _)); exact BK296.out)) : gb296 ≠ gb310)); have n16_ := Aside0.mk ((by rw [hg]; exact Nat.ne_of_gt (blk_lt (g := gb296) (o := .cells #[.int .u64 t290, .int .u64 t291, .int .u64 t292, .int .u64 t293, .int .i64 t294] 26 (0, 0)) (by (with_reducible repeat (first | refine blk_drewN ?_ _ | refine blk_drew ?_ | refine blk_alloc ?_ _)); exact BK296.out)) : gb310 ≠ gb296)); have n17_ := Aside0.mk ((by rw [hg]; exact Nat.ne_of_lt (blk_lt (g := gb303) (o := .cells #[.int .u64 t297, .int .u64 t298, .int .u64 t299, .int .u64 t300, .int .i64 t301] 26 (0, 0)) (by (with_reducible repeat (first | refine blk_drewN ?_ _ | refine blk_drew ?_ | refine blk_alloc ?_ _)); exact BK303.out)) : gb303 ≠ gb310)); have n18_ := Aside0.mk ((by rw [hg]; exact Nat.ne_of_gt (blk_lt (g := gb303) (o := .cells #[.int .u64 t297, .int .u64 t298, .int .u64 t299, .int .u64 t300, .int .i64 t301] 26 (0, 0)) (by (with_reducible repeat (first | refine blk_drewN ?_ _ | refine blk_drew ?_ | refine blk_alloc ?_ _)); exact BK303.out)) : gb310 ≠ gb303)); clear BK279; clear BK280; clear BK289; clear BK296; clear BK303; clear HB; have BK279 := n0_; have BK280 := n1_; have BK289 := n2_; have BK296 := n3_; have BK303 := n4_; have HB := n5_; have BK310 := n6_; have GW310 := n7_; have GE310 := n8_; have NB279_310 := n9_; have NB310_279 := n10_; have NB280_310 := n11_; have NB310_280 := n12_; have NB289_310 := n13_; have NB310_289 := n14_; have NB296_310 := n15_; have NB310_296 := n16_; have NB303_310 := n17_; have NB310_303 := n18_; clear n0_ n1_ n2_ n3_ n4_ n5_ n6_ n7_ n8_ n9_ n10_ n11_ n12_ n13_ n14_ n15_ n16_ n17_ n18_; clear hb hbox hg; have hnb43 := NB310_279.out; have hnc43 := NB279_310.out; have hnb44 := NB310_280.out; have hnc44 := NB280_310.out; have hnb45 := NB310_289.out; have hnc45 := NB289_310.out; have hnb46 := NB310_296.out; have hnc46 := NB296_310.out; have hnb47 := NB310_303.out; have hnc47 := NB303_310.out; have hcz48_0 : w42.cell? ⟨gb310, 0, none⟩ = some (.int .u64 0) := (blk_cell BK310.out 0).trans rfl; have hcz48_1 : w42.cell? ⟨gb310, 1, none⟩ = some (.int .u64 0) := (blk_cell BK310.out 1).trans rfl; have hcz48_2 : w42.cell? ⟨gb310, 2, none⟩ = some (.int .u64 0) := (blk_cell BK310.out 2).trans rfl; have hcz48_3 : w42.cell? ⟨gb310, 3, none⟩ = some (.int .u64 0) := (blk_cell BK310.out 3).trans rfl; have hcz48_4 : w42.cell? ⟨gb310, 4, none⟩ = some (.int .i64 0) := (blk_cell BK310.out 4).trans rfl; have hfz48_0 := blk_frozen BK310.out 0; have hfz48_1 := blk_frozen BK310.out 1; have hfz48_2 := blk_frozen BK310.out 2; have hfz48_3 := blk_frozen BK310.out 3; have hfz48_4 := blk_frozen BK310.out 4))
      (try simp only [Act.put, List.setIfInBounds_toArray, List.set_cons_zero, List.set_cons_succ])
      go_cut [63] (fun v63 wc => ∃ (kq : Nat) (x63_18 : Bool), v63 = .bool x63_18 ∧ Aside0 (tattlelaw16_DiskReads.j1 kq x63_18 a2_0 a2_1 a2_2 a2_3 a2_4 = some r) ∧ Aside0 (kq ≤ kj4) ∧ Aside0 (wc.heap[gb279]? = some (.cells #[.string t281, .string t282] 23 (0, 0))) ∧ Aside0 (wc.heap[gb280]? = some (.cells #[.int .u64 a2_0, .int .u64 a2_1, .int .u64 a2_2, .int .u64 a2_3, .int .i64 a2_4] 26 (0, 0))) ∧ Aside0 (wc.heap[gb289]? = some (.cells #[.int .u64 t283, .int .u64 t284, .int .u64 t285, .int .u64 t286, .int .i64 t287] 26 (0, 0))) ∧ Aside0 (wc.heap[gb296]? = some (.cells #[.int .u64 t290, .int .u64 t291, .int .u64 t292, .int .u64 t293, .int .i64 t294] 26 (0, 0))) ∧ Aside0 (wc.heap[gb303]? = some (.cells #[.int .u64 t297, .int .u64 t298, .int .u64 t299, .int .u64 t300, .int .i64 t301] 26 (0, 0))) ∧ Aside0 (wc.heap[gb310]? = some (.cells #[.int .u64 t304, .int .u64 t305, .int .u64 t306, .int .u64 t307, .int .i64 t308] 26 (0, 0))) ∧ Aside0 (Below w.heap.size w wc))
      case first =>
        have H := HC19.out
        clear HC19
        by_cases c49 : (!(t283 == t290) || (!(t284 == t291) || (!(t285 == t292) || (!(t286 == t293) || (!(t287 == t294)))))) = true
        · rw [if_pos c49] at H
          have c49b0 : (!(t283 == t290) || (!(t284 == t291) || (!(t285 == t292) || (!(t286 == t293) || (!(t287 == t294)))))) = true := c49
          clear c49
          (first | rw [c49b0] | (simp only [i64_w, i32_w]; rw [c49b0]) | skip)
          have H' := Aside0.mk H
          clear H
          have hnb50 := NB289_279.out
          have hnc50 := NB279_289.out
          have hnb51 := NB289_280.out
          have hnc51 := NB280_289.out
          have hnb52 := NB289_296.out
          have hnc52 := NB296_289.out
          have hnb53 := NB289_303.out
          have hnc53 := NB303_289.out
          have hnb54 := NB289_310.out
          have hnc54 := NB310_289.out
          have hcz55_0 : w42.cell? ⟨gb289, 0, none⟩ = some (.int .u64 t283) := (blk_cell BK289.out 0).trans rfl
          have hcz55_1 : w42.cell? ⟨gb289, 1, none⟩ = some (.int .u64 t284) := (blk_cell BK289.out 1).trans rfl
          have hcz55_2 : w42.cell? ⟨gb289, 2, none⟩ = some (.int .u64 t285) := (blk_cell BK289.out 2).trans rfl
          have hcz55_3 : w42.cell? ⟨gb289, 3, none⟩ = some (.int .u64 t286) := (blk_cell BK289.out 3).trans rfl
          have hcz55_4 : w42.cell? ⟨gb289, 4, none⟩ = some (.int .i64 t287) := (blk_cell BK289.out 4).trans rfl
          have hfz55_0 := blk_frozen BK289.out 0
          have hfz55_1 := blk_frozen BK289.out 1
          have hfz55_2 := blk_frozen BK289.out 2
          have hfz55_3 := blk_frozen BK289.out 3
          have hfz55_4 := blk_frozen BK289.out 4
          have hnb56 := NB296_279.out
          have hnc56 := NB279_296.out
          have hnb57 := NB296_280.out
          have hnc57 := NB280_296.out
          have hnb58 := NB296_303.out
          have hnc58 := NB303_296.out
          have hnb59 := NB296_310.out
          have hnc59 := NB310_296.out
          have hcz60_0 : w42.cell? ⟨gb296, 0, none⟩ = some (.int .u64 t290) := (blk_cell BK296.out 0).trans rfl
          have hcz60_1 : w42.cell? ⟨gb296, 1, none⟩ = some (.int .u64 t291) := (blk_cell BK296.out 1).trans rfl
          have hcz60_2 : w42.cell? ⟨gb296, 2, none⟩ = some (.int .u64 t292) := (blk_cell BK296.out 2).trans rfl
          have hcz60_3 : w42.cell? ⟨gb296, 3, none⟩ = some (.int .u64 t293) := (blk_cell BK296.out 3).trans rfl
          have hcz60_4 : w42.cell? ⟨gb296, 4, none⟩ = some (.int .i64 t294) := (blk_cell BK296.out 4).trans rfl
          have hfz60_0 := blk_frozen BK296.out 0
          have hfz60_1 := blk_frozen BK296.out 1
          have hfz60_2 := blk_frozen BK296.out 2
          have hfz60_3 := blk_frozen BK296.out 3
          have hfz60_4 := blk_frozen BK296.out 4
          go_wp2
          go_meet
          case rel => exact ⟨_, (true), (by first | rfl | (simp; done) | (simp [*]; done)), H', ⟨by have := HJ4.out; first | omega | exact Nat.le_refl _⟩, ⟨by (with_reducible repeat (first | refine blk_drewN ?_ _ | refine blk_drew ?_ | refine blk_alloc ?_ _)); refine blk_far ?_ NB279_310.out _; (with_reducible repeat (first | refine blk_drewN ?_ _ | refine blk_drew ?_ | refine blk_alloc ?_ _)); refine blk_far ?_ NB279_310.out _; (with_reducible repeat (first | refine blk_drewN ?_ _ | refine blk_drew ?_ | refine blk_alloc ?_ _)); refine blk_far ?_ NB279_310.out _; (with_reducible repeat (first | refine blk_drewN ?_ _ | refine blk_drew ?_ | refine blk_alloc ?_ _)); refine blk_far ?_ NB279_310.out _; (with_reducible repeat (first | refine blk_drewN ?_ _ | refine blk_drew ?_ | refine blk_alloc ?_ _)); refine blk_far ?_ NB279_310.out _; (with_reducible repeat (first | refine blk_drewN ?_ _ | refine blk_drew ?_ | refine blk_alloc ?_ _)); exact BK279.out⟩, ⟨by (with_reducible repeat (first | refine blk_drewN ?_ _ | refine blk_drew ?_ | refine blk_alloc ?_ _)); refine blk_far ?_ NB280_310.out _; (with_reducible repeat (first | refine blk_drewN ?_ _ | refine blk_drew ?_ | refine blk_alloc ?_ _)); refine blk_far ?_ NB280_310.out _; (with_reducible repeat (first | refine blk_drewN ?_ _ | refine blk_drew ?_ | refine blk_alloc ?_ _)); refine blk_far ?_ NB280_310.out _; (with_reducible repeat (first | refine blk_drewN ?_ _ | refine blk_drew ?_ | refine blk_alloc ?_ _)); refine blk_far ?_ NB280_310.out _; (with_reducible repeat (first | refine blk_drewN ?_ _ | refine blk_drew ?_ | refine blk_alloc ?_ _)); refine blk_far ?_ NB280_310.out _; (with_reducible repeat (first | refine blk_drewN ?_ _ | refine blk_drew ?_ | refine blk_alloc ?_ _)); exact BK280.out⟩, ⟨by (with_reducible repeat (first | refine blk_drewN ?_ _ | refine blk_drew ?_ | refine blk_alloc ?_ _)); refine blk_far ?_ NB289_310.out _; (with_reducible repeat (first | refine blk_drewN ?_ _ | refine blk_drew ?_ | refine blk_alloc ?_ _)); refine blk_far ?_ NB289_310.out _; (with_reducible repeat (first | refine blk_drewN ?_ _ | refine blk_drew ?_ | refine blk_alloc ?_ _)); refine blk_far ?_ NB289_310.out _; (with_reducible repeat (first | refine blk_drewN ?_ _ | refine blk_drew ?_ | refine blk_alloc ?_ _)); refine blk_far ?_ NB289_310.out _; (with_reducible repeat (first | refine blk_drewN ?_ _ | refine blk_drew ?_ | refine blk_alloc ?_ _)); refine blk_far ?_ NB289_310.out _; (with_reducible repeat (first | refine blk_drewN ?_ _ | refine blk_drew ?_ | refine blk_alloc ?_ _)); exact BK289.out⟩, ⟨by (with_reducible repeat (first | refine blk_drewN ?_ _ | refine blk_drew ?_ | refine blk_alloc ?_ _)); refine blk_far ?_ NB296_310.out _; (with_reducible repeat (first | refine blk_drewN ?_ _ | refine blk_drew ?_ | refine blk_alloc ?_ _)); refine blk_far ?_ NB296_310.out _; (with_reducible repeat (first | refine blk_drewN ?_ _ | refine blk_drew ?_ | refine blk_alloc ?_ _)); refine blk_far ?_ NB296_310.out _; (with_reducible repeat (first | refine blk_drewN ?_ _ | refine blk_drew ?_ | refine blk_alloc ?_ _)); refine blk_far ?_ NB296_310.out _; (with_reducible repeat (first | refine blk_drewN ?_ _ | refine blk_drew ?_ | refine blk_alloc ?_ _)); refine blk_far ?_ NB296_310.out _; (with_reducible repeat (first | refine blk_drewN ?_ _ | refine blk_drew ?_ | refine blk_alloc ?_ _)); exact BK296.out⟩, ⟨by (with_reducible repeat (first | refine blk_drewN ?_ _ | refine blk_drew ?_ | refine blk_alloc ?_ _)); refine blk_far ?_ NB303_310.out _; (with_reducible repeat (first | refine blk_drewN ?_ _ | refine blk_drew ?_ | refine blk_alloc ?_ _)); refine blk_far ?_ NB303_310.out _; (with_reducible repeat (first | refine blk_drewN ?_ _ | refine blk_drew ?_ | refine blk_alloc ?_ _)); refine blk_far ?_ NB303_310.out _; (with_reducible repeat (first | refine blk_drewN ?_ _ | refine blk_drew ?_ | refine blk_alloc ?_ _)); refine blk_far ?_ NB303_310.out _; (with_reducible repeat (first | refine blk_drewN ?_ _ | refine blk_drew ?_ | refine blk_alloc ?_ _)); refine blk_far ?_ NB303_310.out _; (with_reducible repeat (first | refine blk_drewN ?_ _ | refine blk_drew ?_ | refine blk_alloc ?_ _)); exact BK303.out⟩, ⟨by (with_reducible repeat (first | refine blk_drewN ?_ _ | refine blk_drew ?_ | refine blk_alloc ?_ _)); refine blk_put (cs := #[.int .u64 t304, .int .u64 t305, .int .u64 t306, .int .u64 t307, .int .i64 0]) ?_ 4 _ rfl; (with_reducible repeat (first | refine blk_drewN ?_ _ | refine blk_drew ?_ | refine blk_alloc ?_ _)); refine blk_put (cs := #[.int .u64 t304, .int .u64 t305, .int .u64 t306, .int .u64 0, .int .i64 0]) ?_ 3 _ rfl; (with_reducible repeat (first | refine blk_drewN ?_ _ | refine blk_drew ?_ | refine blk_alloc ?_ _)); refine blk_put (cs := #[.int .u64 t304, .int .u64 t305, .int .u64 0, .int .u64 0, .int .i64 0]) ?_ 2 _ rfl; (with_reducible repeat (first | refine blk_drewN ?_ _ | refine blk_drew ?_ | refine blk_alloc ?_ _)); refine blk_put (cs := #[.int .u64 t304, .int .u64 0, .int .u64 0, .int .u64 0, .int .i64 0]) ?_ 1 _ rfl; (with_reducible repeat (first | refine blk_drewN ?_ _ | refine blk_drew ?_ | refine blk_alloc ?_ _)); refine blk_put (cs := #[.int .u64 0, .int .u64 0, .int .u64 0, .int .u64 0, .int .i64 0]) ?_ 0 _ rfl; (with_reducible repeat (first | refine blk_drewN ?_ _ | refine blk_drew ?_ | refine blk_alloc ?_ _)); exact BK310.out⟩, ⟨by repeat (first | (with_reducible first | exact HB.out | apply below_alloc | apply pw_below_drewN | apply below_drew1 | refine below_set ?_ GE279.out | refine below_set ?_ GE280.out | refine below_set ?_ GE289.out | refine below_set ?_ GE296.out | refine below_set ?_ GE303.out | refine below_set ?_ GE310.out) | exact HB.out)⟩⟩
        · rw [if_neg c49] at H
          have c49b0 : (!(t283 == t290) || (!(t284 == t291) || (!(t285 == t292) || (!(t286 == t293) || (!(t287 == t294)))))) = false := by simpa using c49
          clear c49
          (first | rw [c49b0] | (simp only [i64_w, i32_w]; rw [c49b0]) | skip)
          by_cases c61 : t288 = t295
          · rw [if_pos c61] at H
            have c61b0 : (t288 == t295) = true := beq_iff_eq.mpr c61
            have c61b1 : (t288 != t295) = false := bne_eq_false_iff_eq.mpr c61
            clear c61
            by_cases c62 : (!(t297 == t304) || (!(t298 == t305) || (!(t299 == t306) || (!(t300 == t307) || (!(t301 == t308)))))) = true
            · rw [if_pos c62] at H
              have c62b0 : (!(t297 == t304) || (!(t298 == t305) || (!(t299 == t306) || (!(t300 == t307) || (!(t301 == t308)))))) = true := c62
              clear c62
              have H' := Aside0.mk H
              clear H
              have hnb63 := NB289_279.out
              have hnc63 := NB279_289.out
              have hnb64 := NB289_280.out
              have hnc64 := NB280_289.out
              have hnb65 := NB289_296.out
              have hnc65 := NB296_289.out
              have hnb66 := NB289_303.out
              have hnc66 := NB303_289.out
              have hnb67 := NB289_310.out
              have hnc67 := NB310_289.out
              have hcz68_0 : w42.cell? ⟨gb289, 0, none⟩ = some (.int .u64 t283) := (blk_cell BK289.out 0).trans rfl
              have hcz68_1 : w42.cell? ⟨gb289, 1, none⟩ = some (.int .u64 t284) := (blk_cell BK289.out 1).trans rfl
              have hcz68_2 : w42.cell? ⟨gb289, 2, none⟩ = some (.int .u64 t285) := (blk_cell BK289.out 2).trans rfl
              have hcz68_3 : w42.cell? ⟨gb289, 3, none⟩ = some (.int .u64 t286) := (blk_cell BK289.out 3).trans rfl
              have hcz68_4 : w42.cell? ⟨gb289, 4, none⟩ = some (.int .i64 t287) := (blk_cell BK289.out 4).trans rfl
              have hfz68_0 := blk_frozen BK289.out 0
              have hfz68_1 := blk_frozen BK289.out 1
              have hfz68_2 := blk_frozen BK289.out 2
              have hfz68_3 := blk_frozen BK289.out 3
              have hfz68_4 := blk_frozen BK289.out 4
              have hnb69 := NB296_279.out
              have hnc69 := NB279_296.out
              have hnb70 := NB296_280.out
              have hnc70 := NB280_296.out
              have hnb71 := NB296_303.out
              have hnc71 := NB303_296.out
              have hnb72 := NB296_310.out
              have hnc72 := NB310_296.out
              have hcz73_0 : w42.cell? ⟨gb296, 0, none⟩ = some (.int .u64 t290) := (blk_cell BK296.out 0).trans rfl
              have hcz73_1 : w42.cell? ⟨gb296, 1, none⟩ = some (.int .u64 t291) := (blk_cell BK296.out 1).trans rfl
              have hcz73_2 : w42.cell? ⟨gb296, 2, none⟩ = some (.int .u64 t292) := (blk_cell BK296.out 2).trans rfl
              have hcz73_3 : w42.cell? ⟨gb296, 3, none⟩ = some (.int .u64 t293) := (blk_cell BK296.out 3).trans rfl
              have hcz73_4 : w42.cell? ⟨gb296, 4, none⟩ = some (.int .i64 t294) := (blk_cell BK296.out 4).trans rfl
              have hfz73_0 := blk_frozen BK296.out 0
              have hfz73_1 := blk_frozen BK296.out 1
              have hfz73_2 := blk_frozen BK296.out 2
              have hfz73_3 := blk_frozen BK296.out 3
              have hfz73_4 := blk_frozen BK296.out 4
              have hnb74 := NB303_279.out
              have hnc74 := NB279_303.out
              have hnb75 := NB303_280.out
              have hnc75 := NB280_303.out
              have hnb76 := NB303_310.out
              have hnc76 := NB310_303.out
              have hcz77_0 : w42.cell? ⟨gb303, 0, none⟩ = some (.int .u64 t297) := (blk_cell BK303.out 0).trans rfl
              have hcz77_1 : w42.cell? ⟨gb303, 1, none⟩ = some (.int .u64 t298) := (blk_cell BK303.out 1).trans rfl
              have hcz77_2 : w42.cell? ⟨gb303, 2, none⟩ = some (.int .u64 t299) := (blk_cell BK303.out 2).trans rfl
              have hcz77_3 : w42.cell? ⟨gb303, 3, none⟩ = some (.int .u64 t300) := (blk_cell BK303.out 3).trans rfl
              have hcz77_4 : w42.cell? ⟨gb303, 4, none⟩ = some (.int .i64 t301) := (blk_cell BK303.out 4).trans rfl
              have hfz77_0 := blk_frozen BK303.out 0
              have hfz77_1 := blk_frozen BK303.out 1
              have hfz77_2 := blk_frozen BK303.out 2
              have hfz77_3 := blk_frozen BK303.out 3
              have hfz77_4 := blk_frozen BK303.out 4
              have hnb78 := NB310_279.out
              have hnc78 := NB279_310.out
              have hnb79 := NB310_280.out
              have hnc79 := NB280_310.out
              have hcz80_0 : w42.cell? ⟨gb310, 0, none⟩ = some (.int .u64 0) := (blk_cell BK310.out 0).trans rfl
              have hcz80_1 : w42.cell? ⟨gb310, 1, none⟩ = some (.int .u64 0) := (blk_cell BK310.out 1).trans rfl
              have hcz80_2 : w42.cell? ⟨gb310, 2, none⟩ = some (.int .u64 0) := (blk_cell BK310.out 2).trans rfl
              have hcz80_3 : w42.cell? ⟨gb310, 3, none⟩ = some (.int .u64 0) := (blk_cell BK310.out 3).trans rfl
              have hcz80_4 : w42.cell? ⟨gb310, 4, none⟩ = some (.int .i64 0) := (blk_cell BK310.out 4).trans rfl
              have hfz80_0 := blk_frozen BK310.out 0
              have hfz80_1 := blk_frozen BK310.out 1
              have hfz80_2 := blk_frozen BK310.out 2
              have hfz80_3 := blk_frozen BK310.out 3
              have hfz80_4 := blk_frozen BK310.out 4
              go_wp2
              go_meet
              case rel => exact ⟨_, (true), (by first | rfl | (simp; done) | (simp [*]; done)), H', ⟨by have := HJ4.out; first | omega | exact Nat.le_refl _⟩, ⟨by (with_reducible repeat (first | refine blk_drewN ?_ _ | refine blk_drew ?_ | refine blk_alloc ?_ _)); refine blk_far ?_ NB279_310.out _; (with_reducible repeat (first | refine blk_drewN ?_ _ | refine blk_drew ?_ | refine blk_alloc ?_ _)); refine blk_far ?_ NB279_310.out _; (with_reducible repeat (first | refine blk_drewN ?_ _ | refine blk_drew ?_ | refine blk_alloc ?_ _)); refine blk_far ?_ NB279_310.out _; (with_reducible repeat (first | refine blk_drewN ?_ _ | refine blk_drew ?_ | refine blk_alloc ?_ _)); refine blk_far ?_ NB279_310.out _; (with_reducible repeat (first | refine blk_drewN ?_ _ | refine blk_drew ?_ | refine blk_alloc ?_ _)); refine blk_far ?_ NB279_310.out _; (with_reducible repeat (first | refine blk_drewN ?_ _ | refine blk_drew ?_ | refine blk_alloc ?_ _)); exact BK279.out⟩, ⟨by (with_reducible repeat (first | refine blk_drewN ?_ _ | refine blk_drew ?_ | refine blk_alloc ?_ _)); refine blk_far ?_ NB280_310.out _; (with_reducible repeat (first | refine blk_drewN ?_ _ | refine blk_drew ?_ | refine blk_alloc ?_ _)); refine blk_far ?_ NB280_310.out _; (with_reducible repeat (first | refine blk_drewN ?_ _ | refine blk_drew ?_ | refine blk_alloc ?_ _)); refine blk_far ?_ NB280_310.out _; (with_reducible repeat (first | refine blk_drewN ?_ _ | refine blk_drew ?_ | refine blk_alloc ?_ _)); refine blk_far ?_ NB280_310.out _; (with_reducible repeat (first | refine blk_drewN ?_ _ | refine blk_drew ?_ | refine blk_alloc ?_ _)); refine blk_far ?_ NB280_310.out _; (with_reducible repeat (first | refine blk_drewN ?_ _ | refine blk_drew ?_ | refine blk_alloc ?_ _)); exact BK280.out⟩, ⟨by (with_reducible repeat (first | refine blk_drewN ?_ _ | refine blk_drew ?_ | refine blk_alloc ?_ _)); refine blk_far ?_ NB289_310.out _; (with_reducible repeat (first | refine blk_drewN ?_ _ | refine blk_drew ?_ | refine blk_alloc ?_ _)); refine blk_far ?_ NB289_310.out _; (with_reducible repeat (first | refine blk_drewN ?_ _ | refine blk_drew ?_ | refine blk_alloc ?_ _)); refine blk_far ?_ NB289_310.out _; (with_reducible repeat (first | refine blk_drewN ?_ _ | refine blk_drew ?_ | refine blk_alloc ?_ _)); refine blk_far ?_ NB289_310.out _; (with_reducible repeat (first | refine blk_drewN ?_ _ | refine blk_drew ?_ | refine blk_alloc ?_ _)); refine blk_far ?_ NB289_310.out _; (with_reducible repeat (first | refine blk_drewN ?_ _ | refine blk_drew ?_ | refine blk_alloc ?_ _)); exact BK289.out⟩, ⟨by (with_reducible repeat (first | refine blk_drewN ?_ _ | refine blk_drew ?_ | refine blk_alloc ?_ _)); refine blk_far ?_ NB296_310.out _; (with_reducible repeat (first | refine blk_drewN ?_ _ | refine blk_drew ?_ | refine blk_alloc ?_ _)); refine blk_far ?_ NB296_310.out _; (with_reducible repeat (first | refine blk_drewN ?_ _ | refine blk_drew ?_ | refine blk_alloc ?_ _)); refine blk_far ?_ NB296_310.out _; (with_reducible repeat (first | refine blk_drewN ?_ _ | refine blk_drew ?_ | refine blk_alloc ?_ _)); refine blk_far ?_ NB296_310.out _; (with_reducible repeat (first | refine blk_drewN ?_ _ | refine blk_drew ?_ | refine blk_alloc ?_ _)); refine blk_far ?_ NB296_310.out _; (with_reducible repeat (first | refine blk_drewN ?_ _ | refine blk_drew ?_ | refine blk_alloc ?_ _)); exact BK296.out⟩, ⟨by (with_reducible repeat (first | refine blk_drewN ?_ _ | refine blk_drew ?_ | refine blk_alloc ?_ _)); refine blk_far ?_ NB303_310.out _; (with_reducible repeat (first | refine blk_drewN ?_ _ | refine blk_drew ?_ | refine blk_alloc ?_ _)); refine blk_far ?_ NB303_310.out _; (with_reducible repeat (first | refine blk_drewN ?_ _ | refine blk_drew ?_ | refine blk_alloc ?_ _)); refine blk_far ?_ NB303_310.out _; (with_reducible repeat (first | refine blk_drewN ?_ _ | refine blk_drew ?_ | refine blk_alloc ?_ _)); refine blk_far ?_ NB303_310.out _; (with_reducible repeat (first | refine blk_drewN ?_ _ | refine blk_drew ?_ | refine blk_alloc ?_ _)); refine blk_far ?_ NB303_310.out _; (with_reducible repeat (first | refine blk_drewN ?_ _ | refine blk_drew ?_ | refine blk_alloc ?_ _)); exact BK303.out⟩, ⟨by (with_reducible repeat (first | refine blk_drewN ?_ _ | refine blk_drew ?_ | refine blk_alloc ?_ _)); refine blk_put (cs := #[.int .u64 t304, .int .u64 t305, .int .u64 t306, .int .u64 t307, .int .i64 0]) ?_ 4 _ rfl; (with_reducible repeat (first | refine blk_drewN ?_ _ | refine blk_drew ?_ | refine blk_alloc ?_ _)); refine blk_put (cs := #[.int .u64 t304, .int .u64 t305, .int .u64 t306, .int .u64 0, .int .i64 0]) ?_ 3 _ rfl; (with_reducible repeat (first | refine blk_drewN ?_ _ | refine blk_drew ?_ | refine blk_alloc ?_ _)); refine blk_put (cs := #[.int .u64 t304, .int .u64 t305, .int .u64 0, .int .u64 0, .int .i64 0]) ?_ 2 _ rfl; (with_reducible repeat (first | refine blk_drewN ?_ _ | refine blk_drew ?_ | refine blk_alloc ?_ _)); refine blk_put (cs := #[.int .u64 t304, .int .u64 0, .int .u64 0, .int .u64 0, .int .i64 0]) ?_ 1 _ rfl; (with_reducible repeat (first | refine blk_drewN ?_ _ | refine blk_drew ?_ | refine blk_alloc ?_ _)); refine blk_put (cs := #[.int .u64 0, .int .u64 0, .int .u64 0, .int .u64 0, .int .i64 0]) ?_ 0 _ rfl; (with_reducible repeat (first | refine blk_drewN ?_ _ | refine blk_drew ?_ | refine blk_alloc ?_ _)); exact BK310.out⟩, ⟨by repeat (first | (with_reducible first | exact HB.out | apply below_alloc | apply pw_below_drewN | apply below_drew1 | refine below_set ?_ GE279.out | refine below_set ?_ GE280.out | refine below_set ?_ GE289.out | refine below_set ?_ GE296.out | refine below_set ?_ GE303.out | refine below_set ?_ GE310.out) | exact HB.out)⟩⟩
            · rw [if_neg c62] at H
              have c62b0 : (!(t297 == t304) || (!(t298 == t305) || (!(t299 == t306) || (!(t300 == t307) || (!(t301 == t308)))))) = false := by simpa using c62
              clear c62
              have H' := Aside0.mk H
              clear H
              have hnb81 := NB289_279.out
              have hnc81 := NB279_289.out
              have hnb82 := NB289_280.out
              have hnc82 := NB280_289.out
              have hnb83 := NB289_296.out
              have hnc83 := NB296_289.out
              have hnb84 := NB289_303.out
              have hnc84 := NB303_289.out
              have hnb85 := NB289_310.out
              have hnc85 := NB310_289.out
              have hcz86_0 : w42.cell? ⟨gb289, 0, none⟩ = some (.int .u64 t283) := (blk_cell BK289.out 0).trans rfl
              have hcz86_1 : w42.cell? ⟨gb289, 1, none⟩ = some (.int .u64 t284) := (blk_cell BK289.out 1).trans rfl
              have hcz86_2 : w42.cell? ⟨gb289, 2, none⟩ = some (.int .u64 t285) := (blk_cell BK289.out 2).trans rfl
              have hcz86_3 : w42.cell? ⟨gb289, 3, none⟩ = some (.int .u64 t286) := (blk_cell BK289.out 3).trans rfl
              have hcz86_4 : w42.cell? ⟨gb289, 4, none⟩ = some (.int .i64 t287) := (blk_cell BK289.out 4).trans rfl
              have hfz86_0 := blk_frozen BK289.out 0
              have hfz86_1 := blk_frozen BK289.out 1
              have hfz86_2 := blk_frozen BK289.out 2
              have hfz86_3 := blk_frozen BK289.out 3
              have hfz86_4 := blk_frozen BK289.out 4
              have hnb87 := NB296_279.out
              have hnc87 := NB279_296.out
              have hnb88 := NB296_280.out
              have hnc88 := NB280_296.out
              have hnb89 := NB296_303.out
              have hnc89 := NB303_296.out
              have hnb90 := NB296_310.out
              have hnc90 := NB310_296.out
              have hcz91_0 : w42.cell? ⟨gb296, 0, none⟩ = some (.int .u64 t290) := (blk_cell BK296.out 0).trans rfl
              have hcz91_1 : w42.cell? ⟨gb296, 1, none⟩ = some (.int .u64 t291) := (blk_cell BK296.out 1).trans rfl
              have hcz91_2 : w42.cell? ⟨gb296, 2, none⟩ = some (.int .u64 t292) := (blk_cell BK296.out 2).trans rfl
              have hcz91_3 : w42.cell? ⟨gb296, 3, none⟩ = some (.int .u64 t293) := (blk_cell BK296.out 3).trans rfl
              have hcz91_4 : w42.cell? ⟨gb296, 4, none⟩ = some (.int .i64 t294) := (blk_cell BK296.out 4).trans rfl
              have hfz91_0 := blk_frozen BK296.out 0
              have hfz91_1 := blk_frozen BK296.out 1
              have hfz91_2 := blk_frozen BK296.out 2
              have hfz91_3 := blk_frozen BK296.out 3
              have hfz91_4 := blk_frozen BK296.out 4
              have hnb92 := NB303_279.out
              have hnc92 := NB279_303.out
              have hnb93 := NB303_280.out
              have hnc93 := NB280_303.out
              have hnb94 := NB303_310.out
              have hnc94 := NB310_303.out
              have hcz95_0 : w42.cell? ⟨gb303, 0, none⟩ = some (.int .u64 t297) := (blk_cell BK303.out 0).trans rfl
              have hcz95_1 : w42.cell? ⟨gb303, 1, none⟩ = some (.int .u64 t298) := (blk_cell BK303.out 1).trans rfl
              have hcz95_2 : w42.cell? ⟨gb303, 2, none⟩ = some (.int .u64 t299) := (blk_cell BK303.out 2).trans rfl
              have hcz95_3 : w42.cell? ⟨gb303, 3, none⟩ = some (.int .u64 t300) := (blk_cell BK303.out 3).trans rfl
              have hcz95_4 : w42.cell? ⟨gb303, 4, none⟩ = some (.int .i64 t301) := (blk_cell BK303.out 4).trans rfl
              have hfz95_0 := blk_frozen BK303.out 0
              have hfz95_1 := blk_frozen BK303.out 1
              have hfz95_2 := blk_frozen BK303.out 2
              have hfz95_3 := blk_frozen BK303.out 3
              have hfz95_4 := blk_frozen BK303.out 4
              have hnb96 := NB310_279.out
              have hnc96 := NB279_310.out
              have hnb97 := NB310_280.out
              have hnc97 := NB280_310.out
              have hcz98_0 : w42.cell? ⟨gb310, 0, none⟩ = some (.int .u64 0) := (blk_cell BK310.out 0).trans rfl
              have hcz98_1 : w42.cell? ⟨gb310, 1, none⟩ = some (.int .u64 0) := (blk_cell BK310.out 1).trans rfl
              have hcz98_2 : w42.cell? ⟨gb310, 2, none⟩ = some (.int .u64 0) := (blk_cell BK310.out 2).trans rfl
              have hcz98_3 : w42.cell? ⟨gb310, 3, none⟩ = some (.int .u64 0) := (blk_cell BK310.out 3).trans rfl
              have hcz98_4 : w42.cell? ⟨gb310, 4, none⟩ = some (.int .i64 0) := (blk_cell BK310.out 4).trans rfl
              have hfz98_0 := blk_frozen BK310.out 0
              have hfz98_1 := blk_frozen BK310.out 1
              have hfz98_2 := blk_frozen BK310.out 2
              have hfz98_3 := blk_frozen BK310.out 3
              have hfz98_4 := blk_frozen BK310.out 4
              go_wp2
              go_meet
              case rel => exact ⟨_, ((t302 != t309)), (by first | rfl | (simp; done) | (simp [*]; done)), H', ⟨by have := HJ4.out; first | omega | exact Nat.le_refl _⟩, ⟨by (with_reducible repeat (first | refine blk_drewN ?_ _ | refine blk_drew ?_ | refine blk_alloc ?_ _)); refine blk_far ?_ NB279_310.out _; (with_reducible repeat (first | refine blk_drewN ?_ _ | refine blk_drew ?_ | refine blk_alloc ?_ _)); refine blk_far ?_ NB279_310.out _; (with_reducible repeat (first | refine blk_drewN ?_ _ | refine blk_drew ?_ | refine blk_alloc ?_ _)); refine blk_far ?_ NB279_310.out _; (with_reducible repeat (first | refine blk_drewN ?_ _ | refine blk_drew ?_ | refine blk_alloc ?_ _)); refine blk_far ?_ NB279_310.out _; (with_reducible repeat (first | refine blk_drewN ?_ _ | refine blk_drew ?_ | refine blk_alloc ?_ _)); refine blk_far ?_ NB279_310.out _; (with_reducible repeat (first | refine blk_drewN ?_ _ | refine blk_drew ?_ | refine blk_alloc ?_ _)); exact BK279.out⟩, ⟨by (with_reducible repeat (first | refine blk_drewN ?_ _ | refine blk_drew ?_ | refine blk_alloc ?_ _)); refine blk_far ?_ NB280_310.out _; (with_reducible repeat (first | refine blk_drewN ?_ _ | refine blk_drew ?_ | refine blk_alloc ?_ _)); refine blk_far ?_ NB280_310.out _; (with_reducible repeat (first | refine blk_drewN ?_ _ | refine blk_drew ?_ | refine blk_alloc ?_ _)); refine blk_far ?_ NB280_310.out _; (with_reducible repeat (first | refine blk_drewN ?_ _ | refine blk_drew ?_ | refine blk_alloc ?_ _)); refine blk_far ?_ NB280_310.out _; (with_reducible repeat (first | refine blk_drewN ?_ _ | refine blk_drew ?_ | refine blk_alloc ?_ _)); refine blk_far ?_ NB280_310.out _; (with_reducible repeat (first | refine blk_drewN ?_ _ | refine blk_drew ?_ | refine blk_alloc ?_ _)); exact BK280.out⟩, ⟨by (with_reducible repeat (first | refine blk_drewN ?_ _ | refine blk_drew ?_ | refine blk_alloc ?_ _)); refine blk_far ?_ NB289_310.out _; (with_reducible repeat (first | refine blk_drewN ?_ _ | refine blk_drew ?_ | refine blk_alloc ?_ _)); refine blk_far ?_ NB289_310.out _; (with_reducible repeat (first | refine blk_drewN ?_ _ | refine blk_drew ?_ | refine blk_alloc ?_ _)); refine blk_far ?_ NB289_310.out _; (with_reducible repeat (first | refine blk_drewN ?_ _ | refine blk_drew ?_ | refine blk_alloc ?_ _)); refine blk_far ?_ NB289_310.out _; (with_reducible repeat (first | refine blk_drewN ?_ _ | refine blk_drew ?_ | refine blk_alloc ?_ _)); refine blk_far ?_ NB289_310.out _; (with_reducible repeat (first | refine blk_drewN ?_ _ | refine blk_drew ?_ | refine blk_alloc ?_ _)); exact BK289.out⟩, ⟨by (with_reducible repeat (first | refine blk_drewN ?_ _ | refine blk_drew ?_ | refine blk_alloc ?_ _)); refine blk_far ?_ NB296_310.out _; (with_reducible repeat (first | refine blk_drewN ?_ _ | refine blk_drew ?_ | refine blk_alloc ?_ _)); refine blk_far ?_ NB296_310.out _; (with_reducible repeat (first | refine blk_drewN ?_ _ | refine blk_drew ?_ | refine blk_alloc ?_ _)); refine blk_far ?_ NB296_310.out _; (with_reducible repeat (first | refine blk_drewN ?_ _ | refine blk_drew ?_ | refine blk_alloc ?_ _)); refine blk_far ?_ NB296_310.out _; (with_reducible repeat (first | refine blk_drewN ?_ _ | refine blk_drew ?_ | refine blk_alloc ?_ _)); refine blk_far ?_ NB296_310.out _; (with_reducible repeat (first | refine blk_drewN ?_ _ | refine blk_drew ?_ | refine blk_alloc ?_ _)); exact BK296.out⟩, ⟨by (with_reducible repeat (first | refine blk_drewN ?_ _ | refine blk_drew ?_ | refine blk_alloc ?_ _)); refine blk_far ?_ NB303_310.out _; (with_reducible repeat (first | refine blk_drewN ?_ _ | refine blk_drew ?_ | refine blk_alloc ?_ _)); refine blk_far ?_ NB303_310.out _; (with_reducible repeat (first | refine blk_drewN ?_ _ | refine blk_drew ?_ | refine blk_alloc ?_ _)); refine blk_far ?_ NB303_310.out _; (with_reducible repeat (first | refine blk_drewN ?_ _ | refine blk_drew ?_ | refine blk_alloc ?_ _)); refine blk_far ?_ NB303_310.out _; (with_reducible repeat (first | refine blk_drewN ?_ _ | refine blk_drew ?_ | refine blk_alloc ?_ _)); refine blk_far ?_ NB303_310.out _; (with_reducible repeat (first | refine blk_drewN ?_ _ | refine blk_drew ?_ | refine blk_alloc ?_ _)); exact BK303.out⟩, ⟨by (with_reducible repeat (first | refine blk_drewN ?_ _ | refine blk_drew ?_ | refine blk_alloc ?_ _)); refine blk_put (cs := #[.int .u64 t304, .int .u64 t305, .int .u64 t306, .int .u64 t307, .int .i64 0]) ?_ 4 _ rfl; (with_reducible repeat (first | refine blk_drewN ?_ _ | refine blk_drew ?_ | refine blk_alloc ?_ _)); refine blk_put (cs := #[.int .u64 t304, .int .u64 t305, .int .u64 t306, .int .u64 0, .int .i64 0]) ?_ 3 _ rfl; (with_reducible repeat (first | refine blk_drewN ?_ _ | refine blk_drew ?_ | refine blk_alloc ?_ _)); refine blk_put (cs := #[.int .u64 t304, .int .u64 t305, .int .u64 0, .int .u64 0, .int .i64 0]) ?_ 2 _ rfl; (with_reducible repeat (first | refine blk_drewN ?_ _ | refine blk_drew ?_ | refine blk_alloc ?_ _)); refine blk_put (cs := #[.int .u64 t304, .int .u64 0, .int .u64 0, .int .u64 0, .int .i64 0]) ?_ 1 _ rfl; (with_reducible repeat (first | refine blk_drewN ?_ _ | refine blk_drew ?_ | refine blk_alloc ?_ _)); refine blk_put (cs := #[.int .u64 0, .int .u64 0, .int .u64 0, .int .u64 0, .int .i64 0]) ?_ 0 _ rfl; (with_reducible repeat (first | refine blk_drewN ?_ _ | refine blk_drew ?_ | refine blk_alloc ?_ _)); exact BK310.out⟩, ⟨by repeat (first | (with_reducible first | exact HB.out | apply below_alloc | apply pw_below_drewN | apply below_drew1 | refine below_set ?_ GE279.out | refine below_set ?_ GE280.out | refine below_set ?_ GE289.out | refine below_set ?_ GE296.out | refine below_set ?_ GE303.out | refine below_set ?_ GE310.out) | exact HB.out)⟩⟩
          · rw [if_neg c61] at H
            have c61b0 : (t288 == t295) = false := beq_eq_false_iff_ne.mpr c61
            have c61b1 : (t288 != t295) = true := bne_iff_ne.mpr c61
            have H' := Aside0.mk H
            clear H
            have hnb99 := NB289_279.out
            have hnc99 := NB279_289.out
            have hnb100 := NB289_280.out
            have hnc100 := NB280_289.out
            have hnb101 := NB289_296.out
            have hnc101 := NB296_289.out
            have hnb102 := NB289_303.out
            have hnc102 := NB303_289.out
            have hnb103 := NB289_310.out
            have hnc103 := NB310_289.out
            have hcz104_0 : w42.cell? ⟨gb289, 0, none⟩ = some (.int .u64 t283) := (blk_cell BK289.out 0).trans rfl
            have hcz104_1 : w42.cell? ⟨gb289, 1, none⟩ = some (.int .u64 t284) := (blk_cell BK289.out 1).trans rfl
            have hcz104_2 : w42.cell? ⟨gb289, 2, none⟩ = some (.int .u64 t285) := (blk_cell BK289.out 2).trans rfl
            have hcz104_3 : w42.cell? ⟨gb289, 3, none⟩ = some (.int .u64 t286) := (blk_cell BK289.out 3).trans rfl
            have hcz104_4 : w42.cell? ⟨gb289, 4, none⟩ = some (.int .i64 t287) := (blk_cell BK289.out 4).trans rfl
            have hfz104_0 := blk_frozen BK289.out 0
            have hfz104_1 := blk_frozen BK289.out 1
            have hfz104_2 := blk_frozen BK289.out 2
            have hfz104_3 := blk_frozen BK289.out 3
            have hfz104_4 := blk_frozen BK289.out 4
            have hnb105 := NB296_279.out
            have hnc105 := NB279_296.out
            have hnb106 := NB296_280.out
            have hnc106 := NB280_296.out
            have hnb107 := NB296_303.out
            have hnc107 := NB303_296.out
            have hnb108 := NB296_310.out
            have hnc108 := NB310_296.out
            have hcz109_0 : w42.cell? ⟨gb296, 0, none⟩ = some (.int .u64 t290) := (blk_cell BK296.out 0).trans rfl
            have hcz109_1 : w42.cell? ⟨gb296, 1, none⟩ = some (.int .u64 t291) := (blk_cell BK296.out 1).trans rfl
            have hcz109_2 : w42.cell? ⟨gb296, 2, none⟩ = some (.int .u64 t292) := (blk_cell BK296.out 2).trans rfl
            have hcz109_3 : w42.cell? ⟨gb296, 3, none⟩ = some (.int .u64 t293) := (blk_cell BK296.out 3).trans rfl
            have hcz109_4 : w42.cell? ⟨gb296, 4, none⟩ = some (.int .i64 t294) := (blk_cell BK296.out 4).trans rfl
            have hfz109_0 := blk_frozen BK296.out 0
            have hfz109_1 := blk_frozen BK296.out 1
            have hfz109_2 := blk_frozen BK296.out 2
            have hfz109_3 := blk_frozen BK296.out 3
            have hfz109_4 := blk_frozen BK296.out 4
            go_wp2
            go_meet
            case rel => exact ⟨_, (true), (by first | rfl | (simp; done) | (simp [*]; done)), H', ⟨by have := HJ4.out; first | omega | exact Nat.le_refl _⟩, ⟨by (with_reducible repeat (first | refine blk_drewN ?_ _ | refine blk_drew ?_ | refine blk_alloc ?_ _)); refine blk_far ?_ NB279_310.out _; (with_reducible repeat (first | refine blk_drewN ?_ _ | refine blk_drew ?_ | refine blk_alloc ?_ _)); refine blk_far ?_ NB279_310.out _; (with_reducible repeat (first | refine blk_drewN ?_ _ | refine blk_drew ?_ | refine blk_alloc ?_ _)); refine blk_far ?_ NB279_310.out _; (with_reducible repeat (first | refine blk_drewN ?_ _ | refine blk_drew ?_ | refine blk_alloc ?_ _)); refine blk_far ?_ NB279_310.out _; (with_reducible repeat (first | refine blk_drewN ?_ _ | refine blk_drew ?_ | refine blk_alloc ?_ _)); refine blk_far ?_ NB279_310.out _; (with_reducible repeat (first | refine blk_drewN ?_ _ | refine blk_drew ?_ | refine blk_alloc ?_ _)); exact BK279.out⟩, ⟨by (with_reducible repeat (first | refine blk_drewN ?_ _ | refine blk_drew ?_ | refine blk_alloc ?_ _)); refine blk_far ?_ NB280_310.out _; (with_reducible repeat (first | refine blk_drewN ?_ _ | refine blk_drew ?_ | refine blk_alloc ?_ _)); refine blk_far ?_ NB280_310.out _; (with_reducible repeat (first | refine blk_drewN ?_ _ | refine blk_drew ?_ | refine blk_alloc ?_ _)); refine blk_far ?_ NB280_310.out _; (with_reducible repeat (first | refine blk_drewN ?_ _ | refine blk_drew ?_ | refine blk_alloc ?_ _)); refine blk_far ?_ NB280_310.out _; (with_reducible repeat (first | refine blk_drewN ?_ _ | refine blk_drew ?_ | refine blk_alloc ?_ _)); refine blk_far ?_ NB280_310.out _; (with_reducible repeat (first | refine blk_drewN ?_ _ | refine blk_drew ?_ | refine blk_alloc ?_ _)); exact BK280.out⟩, ⟨by (with_reducible repeat (first | refine blk_drewN ?_ _ | refine blk_drew ?_ | refine blk_alloc ?_ _)); refine blk_far ?_ NB289_310.out _; (with_reducible repeat (first | refine blk_drewN ?_ _ | refine blk_drew ?_ | refine blk_alloc ?_ _)); refine blk_far ?_ NB289_310.out _; (with_reducible repeat (first | refine blk_drewN ?_ _ | refine blk_drew ?_ | refine blk_alloc ?_ _)); refine blk_far ?_ NB289_310.out _; (with_reducible repeat (first | refine blk_drewN ?_ _ | refine blk_drew ?_ | refine blk_alloc ?_ _)); refine blk_far ?_ NB289_310.out _; (with_reducible repeat (first | refine blk_drewN ?_ _ | refine blk_drew ?_ | refine blk_alloc ?_ _)); refine blk_far ?_ NB289_310.out _; (with_reducible repeat (first | refine blk_drewN ?_ _ | refine blk_drew ?_ | refine blk_alloc ?_ _)); exact BK289.out⟩, ⟨by (with_reducible repeat (first | refine blk_drewN ?_ _ | refine blk_drew ?_ | refine blk_alloc ?_ _)); refine blk_far ?_ NB296_310.out _; (with_reducible repeat (first | refine blk_drewN ?_ _ | refine blk_drew ?_ | refine blk_alloc ?_ _)); refine blk_far ?_ NB296_310.out _; (with_reducible repeat (first | refine blk_drewN ?_ _ | refine blk_drew ?_ | refine blk_alloc ?_ _)); refine blk_far ?_ NB296_310.out _; (with_reducible repeat (first | refine blk_drewN ?_ _ | refine blk_drew ?_ | refine blk_alloc ?_ _)); refine blk_far ?_ NB296_310.out _; (with_reducible repeat (first | refine blk_drewN ?_ _ | refine blk_drew ?_ | refine blk_alloc ?_ _)); refine blk_far ?_ NB296_310.out _; (with_reducible repeat (first | refine blk_drewN ?_ _ | refine blk_drew ?_ | refine blk_alloc ?_ _)); exact BK296.out⟩, ⟨by (with_reducible repeat (first | refine blk_drewN ?_ _ | refine blk_drew ?_ | refine blk_alloc ?_ _)); refine blk_far ?_ NB303_310.out _; (with_reducible repeat (first | refine blk_drewN ?_ _ | refine blk_drew ?_ | refine blk_alloc ?_ _)); refine blk_far ?_ NB303_310.out _; (with_reducible repeat (first | refine blk_drewN ?_ _ | refine blk_drew ?_ | refine blk_alloc ?_ _)); refine blk_far ?_ NB303_310.out _; (with_reducible repeat (first | refine blk_drewN ?_ _ | refine blk_drew ?_ | refine blk_alloc ?_ _)); refine blk_far ?_ NB303_310.out _; (with_reducible repeat (first | refine blk_drewN ?_ _ | refine blk_drew ?_ | refine blk_alloc ?_ _)); refine blk_far ?_ NB303_310.out _; (with_reducible repeat (first | refine blk_drewN ?_ _ | refine blk_drew ?_ | refine blk_alloc ?_ _)); exact BK303.out⟩, ⟨by (with_reducible repeat (first | refine blk_drewN ?_ _ | refine blk_drew ?_ | refine blk_alloc ?_ _)); refine blk_put (cs := #[.int .u64 t304, .int .u64 t305, .int .u64 t306, .int .u64 t307, .int .i64 0]) ?_ 4 _ rfl; (with_reducible repeat (first | refine blk_drewN ?_ _ | refine blk_drew ?_ | refine blk_alloc ?_ _)); refine blk_put (cs := #[.int .u64 t304, .int .u64 t305, .int .u64 t306, .int .u64 0, .int .i64 0]) ?_ 3 _ rfl; (with_reducible repeat (first | refine blk_drewN ?_ _ | refine blk_drew ?_ | refine blk_alloc ?_ _)); refine blk_put (cs := #[.int .u64 t304, .int .u64 t305, .int .u64 0, .int .u64 0, .int .i64 0]) ?_ 2 _ rfl; (with_reducible repeat (first | refine blk_drewN ?_ _ | refine blk_drew ?_ | refine blk_alloc ?_ _)); refine blk_put (cs := #[.int .u64 t304, .int .u64 0, .int .u64 0, .int .u64 0, .int .i64 0]) ?_ 1 _ rfl; (with_reducible repeat (first | refine blk_drewN ?_ _ | refine blk_drew ?_ | refine blk_alloc ?_ _)); refine blk_put (cs := #[.int .u64 0, .int .u64 0, .int .u64 0, .int .u64 0, .int .i64 0]) ?_ 0 _ rfl; (with_reducible repeat (first | refine blk_drewN ?_ _ | refine blk_drew ?_ | refine blk_alloc ?_ _)); exact BK310.out⟩, ⟨by repeat (first | (with_reducible first | exact HB.out | apply below_alloc | apply pw_below_drewN | apply below_drew1 | refine below_set ?_ GE279.out | refine below_set ?_ GE280.out | refine below_set ?_ GE289.out | refine below_set ?_ GE296.out | refine below_set ?_ GE303.out | refine below_set ?_ GE310.out) | exact HB.out)⟩⟩
      case rest =>
        clear HC19
        try clear c1
        try clear c2
        try clear p2
        try clear c3
        try clear c4
        try clear c5
        try clear c6
        try clear c7
        try clear c8
        try clear c9
        try clear c10
        try clear c11
        try clear c12
        try clear c12b0
        try clear c12b1
        try clear c13
        try clear c13b0
        try clear c13b1
        try clear c14
        try clear c14b0
        try clear c14b1
        try clear c22
        try clear c23
        try clear c27
        try clear c28
        try clear c29
        try clear c31
        try clear c35
        try clear c36
        try clear c37
        try clear c38
        try clear c43
        try clear c44
        try clear c45
        try clear c46
        try clear c47
        try clear c49
        try clear c49b0
        try clear c50
        try clear c51
        try clear c52
        try clear c53
        try clear c54
        try clear c56
        try clear c57
        try clear c58
        try clear c59
        try clear c61
        try clear c61b0
        try clear c61b1
        try clear c62
        try clear c62b0
        try clear c63
        try clear c64
        try clear c65
        try clear c66
        try clear c67
        try clear c69
        try clear c70
        try clear c71
        try clear c72
        try clear c74
        try clear c75
        try clear c76
        try clear c78
        try clear c79
        try clear c81
        try clear c82
        try clear c83
        try clear c84
        try clear c85
        try clear c87
        try clear c88
        try clear c89
        try clear c90
        try clear c92
        try clear c93
        try clear c94
        try clear c96
        try clear c97
        try clear c99
        try clear c100
        try clear c101
        try clear c102
        try clear c103
        try clear c105
        try clear c106
        try clear c107
        try clear c108
        try clear hcz104_0
        try clear hcz104_1
        try clear hcz104_2
        try clear hcz104_3
        try clear hcz104_4
        try clear hcz109_0
        try clear hcz109_1
        try clear hcz109_2
        try clear hcz109_3
        try clear hcz109_4
        try clear hcz11_0
        try clear hcz11_1
        try clear hcz24_0
        try clear hcz24_1
        try clear hcz24_2
        try clear hcz24_3
        try clear hcz24_4
        try clear hcz30_0
        try clear hcz30_1
        try clear hcz30_2
        try clear hcz30_3
        try clear hcz30_4
        try clear hcz32_0
        try clear hcz32_1
        try clear hcz39_0
        try clear hcz39_1
        try clear hcz39_2
        try clear hcz39_3
        try clear hcz39_4
        try clear hcz40_0
        try clear hcz40_1
        try clear hcz48_0
        try clear hcz48_1
        try clear hcz48_2
        try clear hcz48_3
        try clear hcz48_4
        try clear hcz55_0
        try clear hcz55_1
        try clear hcz55_2
        try clear hcz55_3
        try clear hcz55_4
        try clear hcz60_0
        try clear hcz60_1
        try clear hcz60_2
        try clear hcz60_3
        try clear hcz60_4
        try clear hcz68_0
        try clear hcz68_1
        try clear hcz68_2
        try clear hcz68_3
        try clear hcz68_4
        try clear hcz73_0
        try clear hcz73_1
        try clear hcz73_2
        try clear hcz73_3
        try clear hcz73_4
        try clear hcz77_0
        try clear hcz77_1
        try clear hcz77_2
        try clear hcz77_3
        try clear hcz77_4
        try clear hcz80_0
        try clear hcz80_1
        try clear hcz80_2
        try clear hcz80_3
        try clear hcz80_4
        try clear hcz86_0
        try clear hcz86_1
        try clear hcz86_2
        try clear hcz86_3
        try clear hcz86_4
        try clear hcz91_0
        try clear hcz91_1
        try clear hcz91_2
        try clear hcz91_3
        try clear hcz91_4
        try clear hcz95_0
        try clear hcz95_1
        try clear hcz95_2
        try clear hcz95_3
        try clear hcz95_4
        try clear hcz98_0
        try clear hcz98_1
        try clear hcz98_2
        try clear hcz98_3
        try clear hcz98_4
        try clear hcz9_0
        try clear hcz9_1
        try clear hfz104_0
        try clear hfz104_1
        try clear hfz104_2
        try clear hfz104_3
        try clear hfz104_4
        try clear hfz109_0
        try clear hfz109_1
        try clear hfz109_2
        try clear hfz109_3
        try clear hfz109_4
        try clear hfz11_0
        try clear hfz11_1
        try clear hfz24_0
        try clear hfz24_1
        try clear hfz24_2
        try clear hfz24_3
        try clear hfz24_4
        try clear hfz30_0
        try clear hfz30_1
        try clear hfz30_2
        try clear hfz30_3
        try clear hfz30_4
        try clear hfz32_0
        try clear hfz32_1
        try clear hfz39_0
        try clear hfz39_1
        try clear hfz39_2
        try clear hfz39_3
        try clear hfz39_4
        try clear hfz40_0
        try clear hfz40_1
        try clear hfz48_0
        try clear hfz48_1
        try clear hfz48_2
        try clear hfz48_3
        try clear hfz48_4
        try clear hfz55_0
        try clear hfz55_1
        try clear hfz55_2
        try clear hfz55_3
        try clear hfz55_4
        try clear hfz60_0
        try clear hfz60_1
        try clear hfz60_2
        try clear hfz60_3
        try clear hfz60_4
        try clear hfz68_0
        try clear hfz68_1
        try clear hfz68_2
        try clear hfz68_3
        try clear hfz68_4
        try clear hfz73_0
        try clear hfz73_1
        try clear hfz73_2
        try clear hfz73_3
        try clear hfz73_4
        try clear hfz77_0
        try clear hfz77_1
        try clear hfz77_2
        try clear hfz77_3
        try clear hfz77_4
        try clear hfz80_0
        try clear hfz80_1
        try clear hfz80_2
        try clear hfz80_3
        try clear hfz80_4
        try clear hfz86_0
        try clear hfz86_1
        try clear hfz86_2
        try clear hfz86_3
        try clear hfz86_4
        try clear hfz91_0
        try clear hfz91_1
        try clear hfz91_2
        try clear hfz91_3
        try clear hfz91_4
        try clear hfz95_0
        try clear hfz95_1
        try clear hfz95_2
        try clear hfz95_3
        try clear hfz95_4
        try clear hfz98_0
        try clear hfz98_1
        try clear hfz98_2
        try clear hfz98_3
        try clear hfz98_4
        try clear hfz9_0
        try clear hfz9_1
        try clear p2
        obtain ⟨kq, x63_18, rfl, HA, HJ18, BK279, BK280, BK289, BK296, BK303, BK310, HB⟩ := hcut
        cases kq with
        | zero => exact absurd HA.out (by simp [tattlelaw16_DiskReads.j1])
        | succ kj18 =>
          have H := HA.out
          clear HA
          simp only [tattlelaw16_DiskReads.j1] at H
          by_cases c110 : x63_18 = true
          · subst c110
            have H1 : (none) = some r := by rw [if_pos rfl] at H; exact H
            clear H
            have H := H1
            clear H1
            exact absurd H (by simp)
          · replace c110 := Bool.eq_false_iff.mpr c110
            subst c110
            have H1 : ((disk_Lay.f kj18 a2_0 a2_1 a2_2 a2_3 a2_4).bind fun bt311 => ((tattleref16_May.f a2_0 a2_1 a2_2 a2_3 a2_4).bind fun t313 => (if t313 = true then ((disk_Parse.f kj18 bt311.1).bind fun bt314 => ((tattleref16_Lay.f kj18 a2_0 a2_1 a2_2 a2_3 a2_4).bind fun t321 => (if bt311.1.toList = t321.toList then (if bt311.2 = 0 then (if (bt314.1 == a2_0 && (bt314.2.1 == a2_1 && (bt314.2.2.1 == a2_2 && (bt314.2.2.2.1 == a2_3 && (bt314.2.2.2.2.1 == a2_4))))) = true then (if bt314.2.2.2.2.2 = 0 then ((tattlelaw16_awake.f kj18).bind fun t322 => (some t322)) else (none)) else (none)) else (none)) else (none)))) else (if bt311.1.toList = ([] : List UInt8) then (if bt311.2 = 1 then ((tattlelaw16_awake.f kj18).bind fun t323 => (some t323)) else (none)) else (none))))) = some r := by rw [if_neg (show ¬ (false = true) by decide)] at H; exact H
            clear H
            have H := H1
            clear H1
            replace H := Option.bind_eq_some_iff.mp H
            obtain ⟨⟨t311, t312⟩, A1110, H⟩ := H
            replace H : ((tattleref16_May.f a2_0 a2_1 a2_2 a2_3 a2_4).bind fun t313 => (if t313 = true then ((disk_Parse.f kj18 t311).bind fun bt314 => ((tattleref16_Lay.f kj18 a2_0 a2_1 a2_2 a2_3 a2_4).bind fun t321 => (if t311.toList = t321.toList then (if t312 = 0 then (if (bt314.1 == a2_0 && (bt314.2.1 == a2_1 && (bt314.2.2.1 == a2_2 && (bt314.2.2.2.1 == a2_3 && (bt314.2.2.2.2.1 == a2_4))))) = true then (if bt314.2.2.2.2.2 = 0 then ((tattlelaw16_awake.f kj18).bind fun t322 => (some t322)) else (none)) else (none)) else (none)) else (none)))) else (if t311.toList = ([] : List UInt8) then (if t312 = 1 then ((tattlelaw16_awake.f kj18).bind fun t323 => (some t323)) else (none)) else (none)))) = some r := H
            have A111 := Aside0.mk A1110
            clear A1110
            replace H := Option.bind_eq_some_iff.mp H
            obtain ⟨t313, A1120, H⟩ := H
            replace H : (if t313 = true then ((disk_Parse.f kj18 t311).bind fun bt314 => ((tattleref16_Lay.f kj18 a2_0 a2_1 a2_2 a2_3 a2_4).bind fun t321 => (if t311.toList = t321.toList then (if t312 = 0 then (if (bt314.1 == a2_0 && (bt314.2.1 == a2_1 && (bt314.2.2.1 == a2_2 && (bt314.2.2.2.1 == a2_3 && (bt314.2.2.2.2.1 == a2_4))))) = true then (if bt314.2.2.2.2.2 = 0 then ((tattlelaw16_awake.f kj18).bind fun t322 => (some t322)) else (none)) else (none)) else (none)) else (none)))) else (if t311.toList = ([] : List UInt8) then (if t312 = 1 then ((tattlelaw16_awake.f kj18).bind fun t323 => (some t323)) else (none)) else (none))) = some r := H
            have A112 := Aside0.mk A1120
            clear A1120
            by_cases c113 : t313 = true
            · subst c113
              have H1 : ((disk_Parse.f kj18 t311).bind fun bt314 => ((tattleref16_Lay.f kj18 a2_0 a2_1 a2_2 a2_3 a2_4).bind fun t321 => (if t311.toList = t321.toList then (if t312 = 0 then (if (bt314.1 == a2_0 && (bt314.2.1 == a2_1 && (bt314.2.2.1 == a2_2 && (bt314.2.2.2.1 == a2_3 && (bt314.2.2.2.2.1 == a2_4))))) = true then (if bt314.2.2.2.2.2 = 0 then ((tattlelaw16_awake.f kj18).bind fun t322 => (some t322)) else (none)) else (none)) else (none)) else (none)))) = some r := by rw [if_pos rfl] at H; exact H
              clear H
              have H := H1
              clear H1
              replace H := Option.bind_eq_some_iff.mp H
              obtain ⟨⟨t314, t315, t316, t317, t318, t319⟩, A1140, H⟩ := H
              replace H : ((tattleref16_Lay.f kj18 a2_0 a2_1 a2_2 a2_3 a2_4).bind fun t321 => (if t311.toList = t321.toList then (if t312 = 0 then (if (t314 == a2_0 && (t315 == a2_1 && (t316 == a2_2 && (t317 == a2_3 && (t318 == a2_4))))) = true then (if t319 = 0 then ((tattlelaw16_awake.f kj18).bind fun t322 => (some t322)) else (none)) else (none)) else (none)) else (none))) = some r := H
              have A114 := Aside0.mk A1140
              clear A1140
              replace H := Option.bind_eq_some_iff.mp H
              obtain ⟨t321, A1150, H⟩ := H
              replace H : (if t311.toList = t321.toList then (if t312 = 0 then (if (t314 == a2_0 && (t315 == a2_1 && (t316 == a2_2 && (t317 == a2_3 && (t318 == a2_4))))) = true then (if t319 = 0 then ((tattlelaw16_awake.f kj18).bind fun t322 => (some t322)) else (none)) else (none)) else (none)) else (none)) = some r := H
              have A115 := Aside0.mk A1150
              clear A1150
              by_cases c116 : t311.toList = t321.toList
              · rw [if_pos c116] at H
                have c116b0 : (t311.toList == t321.toList) = true := beq_iff_eq.mpr c116
                have c116b1 : (t311.toList != t321.toList) = false := bne_eq_false_iff_eq.mpr c116
                clear c116
                by_cases c117 : t312 = 0
                · rw [if_pos c117] at H
                  have c117b0 : (t312 == 0) = true := beq_iff_eq.mpr c117
                  have c117b1 : (t312 != 0) = false := bne_eq_false_iff_eq.mpr c117
                  clear c117
                  by_cases c118 : (t314 == a2_0 && (t315 == a2_1 && (t316 == a2_2 && (t317 == a2_3 && (t318 == a2_4))))) = true
                  · rw [if_pos c118] at H
                    have c118b0 : (t314 == a2_0 && (t315 == a2_1 && (t316 == a2_2 && (t317 == a2_3 && (t318 == a2_4))))) = true := c118
                    (try (have c118b1 : decide (t314 = a2_0 && (t315 == a2_1 && (t316 == a2_2 && (t317 == a2_3 && (t318 == a2_4))))) = true := by simpa using c118))
                    (try (have c118b2 : (t314 == a2_0 && (t315 == a2_1 && (t316 == a2_2 && (t317 == a2_3 && (t318 == a2_4))))) = true := by simpa using c118))
                    clear c118
                    by_cases c119 : t319 = 0
                    · rw [if_pos c119] at H
                      have c119b0 : (t319 == 0) = true := beq_iff_eq.mpr c119
                      have c119b1 : (t319 != 0) = false := bne_eq_false_iff_eq.mpr c119
                      clear c119
                      replace H := Option.bind_eq_some_iff.mp H
                      obtain ⟨t322, A1200, H⟩ := H
                      replace H : (some t322) = some r := H
                      have A120 := Aside0.mk A1200
                      clear A1200
                      obtain rfl := Option.some.inj H
                      have hnb121 := NB280_279.out
                      have hnc121 := NB279_280.out
                      have hnb122 := NB280_289.out
                      have hnc122 := NB289_280.out
                      have hnb123 := NB280_296.out
                      have hnc123 := NB296_280.out
                      have hnb124 := NB280_303.out
                      have hnc124 := NB303_280.out
                      have hnb125 := NB280_310.out
                      have hnc125 := NB310_280.out
                      have hcz126_0 : wc.cell? ⟨gb280, 0, none⟩ = some (.int .u64 a2_0) := (blk_cell BK280.out 0).trans rfl
                      have hcz126_1 : wc.cell? ⟨gb280, 1, none⟩ = some (.int .u64 a2_1) := (blk_cell BK280.out 1).trans rfl
                      have hcz126_2 : wc.cell? ⟨gb280, 2, none⟩ = some (.int .u64 a2_2) := (blk_cell BK280.out 2).trans rfl
                      have hcz126_3 : wc.cell? ⟨gb280, 3, none⟩ = some (.int .u64 a2_3) := (blk_cell BK280.out 3).trans rfl
                      have hcz126_4 : wc.cell? ⟨gb280, 4, none⟩ = some (.int .i64 a2_4) := (blk_cell BK280.out 4).trans rfl
                      have hfz126_0 := blk_frozen BK280.out 0
                      have hfz126_1 := blk_frozen BK280.out 1
                      have hfz126_2 := blk_frozen BK280.out 2
                      have hfz126_3 := blk_frozen BK280.out 3
                      have hfz126_4 := blk_frozen BK280.out 4
                      go_wp2_with (first | ((with_reducible refine gate_callee (f := 14) rfl ?_); refine goesL_ (some 66) rfl rfl Try.func14 (by kernel_rfl) rfl #[.agg #[.int .u64 a2_0, .int .u64 a2_1, .int .u64 a2_2, .int .u64 a2_3, .int .i64 a2_4]] rfl (by (try simp only [List.map_toArray, List.map_cons, List.map_nil]); first | done | rfl | (simp only [List.length_drop, List.length_take]; rfl)) ?_; (with_reducible refine (disk_Lay.calls kj18 a2_0 a2_1 a2_2 a2_3 a2_4 t311 t312 _ A111.out).mono ?_); rintro e w127 ⟨rfl, hb⟩; refine ⟨_, rfl, ?_⟩; have n0_ := Aside0.mk (blk_below (g := gb279) (o := .cells #[.string t281, .string t282] 23 (0, 0)) (by (with_reducible repeat (first | refine blk_drewN ?_ _ | refine blk_drew ?_ | refine blk_alloc ?_ _)); exact BK279.out) hb); have n1_ := Aside0.mk (blk_below (g := gb280) (o := .cells #[.int .u64 a2_0, .int .u64 a2_1, .int .u64 a2_2, .int .u64 a2_3, .int .i64 a2_4] 26 (0, 0)) (by (with_reducible repeat (first | refine blk_drewN ?_ _ | refine blk_drew ?_ | refine blk_alloc ?_ _)); exact BK280.out) hb); have n2_ := Aside0.mk (blk_below (g := gb289) (o := .cells #[.int .u64 t283, .int .u64 t284, .int .u64 t285, .int .u64 t286, .int .i64 t287] 26 (0, 0)) (by (with_reducible repeat (first | refine blk_drewN ?_ _ | refine blk_drew ?_ | refine blk_alloc ?_ _)); exact BK289.out) hb); have n3_ := Aside0.mk (blk_below (g := gb296) (o := .cells #[.int .u64 t290, .int .u64 t291, .int .u64 t292, .int .u64 t293, .int .i64 t294] 26 (0, 0)) (by (with_reducible repeat (first | refine blk_drewN ?_ _ | refine blk_drew ?_ | refine blk_alloc ?_ _)); exact BK296.out) hb); have n4_ := Aside0.mk (blk_below (g := gb303) (o := .cells #[.int .u64 t297, .int .u64 t298, .int .u64 t299, .int .u64 t300, .int .i64 t301] 26 (0, 0)) (by (with_reducible repeat (first | refine blk_drewN ?_ _ | refine blk_drew ?_ | refine blk_alloc ?_ _)); exact BK303.out) hb); have n5_ := Aside0.mk (blk_below (g := gb310) (o := .cells #[.int .u64 t304, .int .u64 t305, .int .u64 t306, .int .u64 t307, .int .i64 t308] 26 (0, 0)) (by (with_reducible repeat (first | refine blk_drewN ?_ _ | refine blk_drew ?_ | refine blk_alloc ?_ _)); exact BK310.out) hb); have n6_ := Aside0.mk (below_step (by repeat (first | (with_reducible first | exact HB.out | apply below_alloc | apply pw_below_drewN | apply below_drew1 | refine below_set ?_ GE279.out | refine below_set ?_ GE280.out | refine below_set ?_ GE289.out | refine below_set ?_ GE296.out | refine below_set ?_ GE303.out | refine below_set ?_ GE310.out) | exact HB.out)) hb); clear BK279; clear BK280; clear BK289; clear BK296; clear BK303; clear BK310; clear HB; have BK279 := n0_; have BK280 := n1_; have BK289 := n2_; have BK296 := n3_; have BK303 := n4_; have BK310 := n5_; have HB := n6_; clear n0_ n1_ n2_ n3_ n4_ n5_ n6_; (try clear hb); (try clear hb2); (try clear hk); (try clear hi); have hcz128_0 : w127.cell? ⟨gb280, 0, none⟩ = some (.int .u64 a2_0) := (blk_cell BK280.out 0).trans rfl; have hcz128_1 : w127.cell? ⟨gb280, 1, none⟩ = some (.int .u64 a2_1) := (blk_cell BK280.out 1).trans rfl; have hcz128_2 : w127.cell? ⟨gb280, 2, none⟩ = some (.int .u64 a2_2) := (blk_cell BK280.out 2).trans rfl; have hcz128_3 : w127.cell? ⟨gb280, 3, none⟩ = some (.int .u64 a2_3) := (blk_cell BK280.out 3).trans rfl; have hcz128_4 : w127.cell? ⟨gb280, 4, none⟩ = some (.int .i64 a2_4) := (blk_cell BK280.out 4).trans rfl; have hfz128_0 := blk_frozen BK280.out 0; have hfz128_1 := blk_frozen BK280.out 1; have hfz128_2 := blk_frozen BK280.out 2; have hfz128_3 := blk_frozen BK280.out 3; have hfz128_4 := blk_frozen BK280.out 4) | ((with_reducible refine gate_callee (f := 15) rfl ?_); refine goesL_ (some 70) rfl rfl Try.func15 (by kernel_rfl) rfl #[.agg #[.int .u64 a2_0, .int .u64 a2_1, .int .u64 a2_2, .int .u64 a2_3, .int .i64 a2_4]] rfl (by (try simp only [List.map_toArray, List.map_cons, List.map_nil]); first | done | rfl | (simp only [List.length_drop, List.length_take]; rfl)) ?_; (with_reducible refine (tattleref16_May.calls a2_0 a2_1 a2_2 a2_3 a2_4 true _ A112.out).mono ?_); rintro e w129 ⟨rfl, hb⟩; refine ⟨_, rfl, ?_⟩; have n0_ := Aside0.mk (blk_below (g := gb279) (o := .cells #[.string t281, .string t282] 23 (0, 0)) (by (with_reducible repeat (first | refine blk_drewN ?_ _ | refine blk_drew ?_ | refine blk_alloc ?_ _)); exact BK279.out) hb); have n1_ := Aside0.mk (blk_below (g := gb280) (o := .cells #[.int .u64 a2_0, .int .u64 a2_1, .int .u64 a2_2, .int .u64 a2_3, .int .i64 a2_4] 26 (0, 0)) (by (with_reducible repeat (first | refine blk_drewN ?_ _ | refine blk_drew ?_ | refine blk_alloc ?_ _)); exact BK280.out) hb); have n2_ := Aside0.mk (blk_below (g := gb289) (o := .cells #[.int .u64 t283, .int .u64 t284, .int .u64 t285, .int .u64 t286, .int .i64 t287] 26 (0, 0)) (by (with_reducible repeat (first | refine blk_drewN ?_ _ | refine blk_drew ?_ | refine blk_alloc ?_ _)); exact BK289.out) hb); have n3_ := Aside0.mk (blk_below (g := gb296) (o := .cells #[.int .u64 t290, .int .u64 t291, .int .u64 t292, .int .u64 t293, .int .i64 t294] 26 (0, 0)) (by (with_reducible repeat (first | refine blk_drewN ?_ _ | refine blk_drew ?_ | refine blk_alloc ?_ _)); exact BK296.out) hb); have n4_ := Aside0.mk (blk_below (g := gb303) (o := .cells #[.int .u64 t297, .int .u64 t298, .int .u64 t299, .int .u64 t300, .int .i64 t301] 26 (0, 0)) (by (with_reducible repeat (first | refine blk_drewN ?_ _ | refine blk_drew ?_ | refine blk_alloc ?_ _)); exact BK303.out) hb); have n5_ := Aside0.mk (blk_below (g := gb310) (o := .cells #[.int .u64 t304, .int .u64 t305, .int .u64 t306, .int .u64 t307, .int .i64 t308] 26 (0, 0)) (by (with_reducible repeat (first | refine blk_drewN ?_ _ | refine blk_drew ?_ | refine blk_alloc ?_ _)); exact BK310.out) hb); have n6_ := Aside0.mk (below_step (by repeat (first | (with_reducible first | exact HB.out | apply below_alloc | apply pw_below_drewN | apply below_drew1 | refine below_set ?_ GE279.out | refine below_set ?_ GE280.out | refine below_set ?_ GE289.out | refine below_set ?_ GE296.out | refine below_set ?_ GE303.out | refine below_set ?_ GE310.out) | exact HB.out)) hb); clear BK279; clear BK280; clear BK289; clear BK296; clear BK303; clear BK310; clear HB; have BK279 := n0_; have BK280 := n1_; have BK289 := n2_; have BK296 := n3_; have BK303 := n4_; have BK310 := n5_; have HB := n6_; clear n0_ n1_ n2_ n3_ n4_ n5_ n6_; (try clear hb); (try clear hb2); (try clear hk); (try clear hi)) | ((with_reducible refine gate_callee (f := 10) rfl ?_); refine goesL_ (some 83) rfl rfl Try.func10 (by kernel_rfl) rfl #[.string t311] rfl (by (try simp only [List.map_toArray, List.map_cons, List.map_nil]); first | done | rfl | (simp only [List.length_drop, List.length_take]; rfl)) ?_; (with_reducible refine (disk_Parse.calls kj18 t311 t314 t315 t316 t317 t318 t319 _ A114.out).mono ?_); rintro e w130 ⟨rfl, hb⟩; refine ⟨_, rfl, ?_⟩; have n0_ := Aside0.mk (blk_below (g := gb279) (o := .cells #[.string t281, .string t282] 23 (0, 0)) (by (with_reducible repeat (first | refine blk_drewN ?_ _ | refine blk_drew ?_ | refine blk_alloc ?_ _)); exact BK279.out) hb); have n1_ := Aside0.mk (blk_below (g := gb280) (o := .cells #[.int .u64 a2_0, .int .u64 a2_1, .int .u64 a2_2, .int .u64 a2_3, .int .i64 a2_4] 26 (0, 0)) (by (with_reducible repeat (first | refine blk_drewN ?_ _ | refine blk_drew ?_ | refine blk_alloc ?_ _)); exact BK280.out) hb); have n2_ := Aside0.mk (blk_below (g := gb289) (o := .cells #[.int .u64 t283, .int .u64 t284, .int .u64 t285, .int .u64 t286, .int .i64 t287] 26 (0, 0)) (by (with_reducible repeat (first | refine blk_drewN ?_ _ | refine blk_drew ?_ | refine blk_alloc ?_ _)); exact BK289.out) hb); have n3_ := Aside0.mk (blk_below (g := gb296) (o := .cells #[.int .u64 t290, .int .u64 t291, .int .u64 t292, .int .u64 t293, .int .i64 t294] 26 (0, 0)) (by (with_reducible repeat (first | refine blk_drewN ?_ _ | refine blk_drew ?_ | refine blk_alloc ?_ _)); exact BK296.out) hb); have n4_ := Aside0.mk (blk_below (g := gb303) (o := .cells #[.int .u64 t297, .int .u64 t298, .int .u64 t299, .int .u64 t300, .int .i64 t301] 26 (0, 0)) (by (with_reducible repeat (first | refine blk_drewN ?_ _ | refine blk_drew ?_ | refine blk_alloc ?_ _)); exact BK303.out) hb); have n5_ := Aside0.mk (blk_below (g := gb310) (o := .cells #[.int .u64 t304, .int .u64 t305, .int .u64 t306, .int .u64 t307, .int .i64 t308] 26 (0, 0)) (by (with_reducible repeat (first | refine blk_drewN ?_ _ | refine blk_drew ?_ | refine blk_alloc ?_ _)); exact BK310.out) hb); have n6_ := Aside0.mk (below_step (by repeat (first | (with_reducible first | exact HB.out | apply below_alloc | apply pw_below_drewN | apply below_drew1 | refine below_set ?_ GE279.out | refine below_set ?_ GE280.out | refine below_set ?_ GE289.out | refine below_set ?_ GE296.out | refine below_set ?_ GE303.out | refine below_set ?_ GE310.out) | exact HB.out)) hb); clear BK279; clear BK280; clear BK289; clear BK296; clear BK303; clear BK310; clear HB; have BK279 := n0_; have BK280 := n1_; have BK289 := n2_; have BK296 := n3_; have BK303 := n4_; have BK310 := n5_; have HB := n6_; clear n0_ n1_ n2_ n3_ n4_ n5_ n6_; (try clear hb); (try clear hb2); (try clear hk); (try clear hi)) | ((with_reducible refine gate_dst (N := 17) rfl ?_); refine box_event ?hg (N := 17) ?hd (cs := #[.int .u64 0, .int .u64 0, .int .u64 0, .int .u64 0, .int .i64 0]) (t := 26) ?hr ?_; (case hd => rfl); (case hg => rfl); (case hr => first | (go_simp; done) | (go_simp; rfl)); intro gb320 hg w131 hbox hb; have n0_ := Aside0.mk (blk_below (g := gb279) (o := .cells #[.string t281, .string t282] 23 (0, 0)) (by (with_reducible repeat (first | refine blk_drewN ?_ _ | refine blk_drew ?_ | refine blk_alloc ?_ _)); exact BK279.out) hb); have n1_ := Aside0.mk (blk_below (g := gb280) (o := .cells #[.int .u64 a2_0, .int .u64 a2_1, .int .u64 a2_2, .int .u64 a2_3, .int .i64 a2_4] 26 (0, 0)) (by (with_reducible repeat (first | refine blk_drewN ?_ _ | refine blk_drew ?_ | refine blk_alloc ?_ _)); exact BK280.out) hb); have n2_ := Aside0.mk (blk_below (g := gb289) (o := .cells #[.int .u64 t283, .int .u64 t284, .int .u64 t285, .int .u64 t286, .int .i64 t287] 26 (0, 0)) (by (with_reducible repeat (first | refine blk_drewN ?_ _ | refine blk_drew ?_ | refine blk_alloc ?_ _)); exact BK289.out) hb); have n3_ := Aside0.mk (blk_below (g := gb296) (o := .cells #[.int .u64 t290, .int .u64 t291, .int .u64 t292, .int .u64 t293, .int .i64 t294] 26 (0, 0)) (by (with_reducible repeat (first | refine blk_drewN ?_ _ | refine blk_drew ?_ | refine blk_alloc ?_ _)); exact BK296.out) hb); have n4_ := Aside0.mk (blk_below (g := gb303) (o := .cells #[.int .u64 t297, .int .u64 t298, .int .u64 t299, .int .u64 t300, .int .i64 t301] 26 (0, 0)) (by (with_reducible repeat (first | refine blk_drewN ?_ _ | refine blk_drew ?_ | refine blk_alloc ?_ _)); exact BK303.out) hb); have n5_ := Aside0.mk (blk_below (g := gb310) (o := .cells #[.int .u64 t304, .int .u64 t305, .int .u64 t306, .int .u64 t307, .int .i64 t308] 26 (0, 0)) (by (with_reducible repeat (first | refine blk_drewN ?_ _ | refine blk_drew ?_ | refine blk_alloc ?_ _)); exact BK310.out) hb); have n6_ := Aside0.mk (below_step (by repeat (first | (with_reducible first | exact HB.out | apply below_alloc | apply pw_below_drewN | apply below_drew1 | refine below_set ?_ GE279.out | refine below_set ?_ GE280.out | refine below_set ?_ GE289.out | refine below_set ?_ GE296.out | refine below_set ?_ GE303.out | refine below_set ?_ GE310.out) | exact HB.out)) hb); have n7_ := Aside0.mk (hbox); have n8_ := Aside0.mk ((by rw [hg]; exact (below_size (by repeat (first | (with_reducible first | exact HB.out | apply below_alloc | apply pw_below_drewN | apply below_drew1 | refine below_set ?_ GE279.out | refine below_set ?_ GE280.out | refine below_set ?_ GE289.out | refine below_set ?_ GE296.out | refine below_set ?_ GE303.out | refine below_set ?_ GE310.out) | exact HB.out))) : w.heap.size ≤ gb320)); have n9_ := Aside0.mk ((by rw [hg]; exact (below_size (by repeat (first | (with_reducible first | exact HB.out | apply below_alloc | apply pw_below_drewN | apply below_drew1 | refine below_set ?_ GE279.out | refine below_set ?_ GE280.out | refine below_set ?_ GE289.out | refine below_set ?_ GE296.out | refine below_set ?_ GE303.out | refine below_set ?_ GE310.out) | exact HB.out))) : w.heap.size ≤ gb320)); have n10_ := Aside0.mk ((by rw [hg]; exact Nat.ne_of_lt (blk_lt (g := gb279) (o := .cells #[.string t281, .string t282] 23 (0, 0)) (by (with_reducible repeat (first | refine blk_drewN ?_ _ | refine blk_drew ?_ | refine blk_alloc ?_ _)); exact BK279.out)) : gb279 ≠ gb320)); have n11_ := Aside0.mk ((by rw [hg]; exact Nat.ne_of_gt (blk_lt (g := gb279) (o := .cells #[.string t281, .string t282] 23 (0, 0)) (by (with_reducible repeat (first | refine blk_drewN ?_ _ | refine blk_drew ?_ | refine blk_alloc ?_ _)); exact BK279.out)) : gb320 ≠ gb279)); have n12_ := Aside0.mk ((by rw [hg]; exact Nat.ne_of_lt (blk_lt (g := gb280) (o := .cells #[.int .u64 a2_0, .int .u64 a2_1, .int .u64 a2_2, .int .u64 a2_3, .int .i64 a2_4] 26 (0, 0)) (by (with_reducible repeat (first | refine blk_drewN ?_ _ | refine blk_drew ?_ | refine blk_alloc ?_ _)); exact BK280.out)) : gb280 ≠ gb320)); have n13_ := Aside0.mk ((by rw [hg]; exact Nat.ne_of_gt (blk_lt (g := gb280) (o := .cells #[.int .u64 a2_0, .int .u64 a2_1, .int .u64 a2_2, .int .u64 a2_3, .int .i64 a2_4] 26 (0, 0)) (by (with_reducible repeat (first | refine blk_drewN ?_ _ | refine blk_drew ?_ | refine blk_alloc ?_ _)); exact BK280.out)) : gb320 ≠ gb280)); have n14_ := Aside0.mk ((by rw [hg]; exact Nat.ne_of_lt (blk_lt (g := gb289) (o := .cells #[.int .u64 t283, .int .u64 t284, .int .u64 t285, .int .u64 t286, .int .i64 t287] 26 (0, 0)) (by (with_reducible repeat (first | refine blk_drewN ?_ _ | refine blk_drew ?_ | refine blk_alloc ?_ _)); exact BK289.out)) : gb289 ≠ gb320)); have n15_ := Aside0.mk ((by rw [hg]; exact Nat.ne_of_gt (blk_lt (g := gb289) (o := .cells #[.int .u64 t283, .int .u64 t284, .int .u64 t285, .int .u64 t286, .int .i64 t287] 26 (0, 0)) (by (with_reducible repeat (first | refine blk_drewN ?_ _ | refine blk_drew ?_ | refine blk_alloc ?_ _)); exact BK289.out)) : gb320 ≠ gb289)); have n16_ := Aside0.mk ((by rw [hg]; exact Nat.ne_of_lt (blk_lt (g := gb296) (o := .cells #[.int .u64 t290, .int .u64 t291, .int .u64 t292, .int .u64 t293, .int .i64 t294] 26 (0, 0)) (by (with_reducible repeat (first | refine blk_drewN ?_ _ | refine blk_drew ?_ | refine blk_alloc ?_ _)); exact BK296.out)) : gb296 ≠ gb320)); have n17_ := Aside0.mk ((by rw [hg]; exact Nat.ne_of_gt (blk_lt (g := gb296) (o := .cells #[.int .u64 t290, .int .u64 t291, .int .u64 t292, .int .u64 t293, .int .i64 t294] 26 (0, 0)) (by (with_reducible repeat (first | refine blk_drewN ?_ _ | refine blk_drew ?_ | refine blk_alloc ?_ _)); exact BK296.out)) : gb320 ≠ gb296)); have n18_ := Aside0.mk ((by rw [hg]; exact Nat.ne_of_lt (blk_lt (g := gb303) (o := .cells #[.int .u64 t297, .int .u64 t298, .int .u64 t299, .int .u64 t300, .int .i64 t301] 26 (0, 0)) (by (with_reducible repeat (first | refine blk_drewN ?_ _ | refine blk_drew ?_ | refine blk_alloc ?_ _)); exact BK303.out)) : gb303 ≠ gb320)); have n19_ := Aside0.mk ((by rw [hg]; exact Nat.ne_of_gt (blk_lt (g := gb303) (o := .cells #[.int .u64 t297, .int .u64 t298, .int .u64 t299, .int .u64 t300, .int .i64 t301] 26 (0, 0)) (by (with_reducible repeat (first | refine blk_drewN ?_ _ | refine blk_drew ?_ | refine blk_alloc ?_ _)); exact BK303.out)) : gb320 ≠ gb303)); have n20_ := Aside0.mk ((by rw [hg]; exact Nat.ne_of_lt (blk_lt (g := gb310) (o := .cells #[.int .u64 t304, .int .u64 t305, .int .u64 t306, .int .u64 t307, .int .i64 t308] 26 (0, 0)) (by (with_reducible repeat (first | refine blk_drewN ?_ _ | refine blk_drew ?_ | refine blk_alloc ?_ _)); exact BK310.out)) : gb310 ≠ gb320)); have n21_ := Aside0.mk ((by rw [hg]; exact Nat.ne_of_gt (blk_lt (g := gb310) (o := .cells #[.int .u64 t304, .int .u64 t305, .int .u64 t306, .int .u64 t307, .int .i64 t308] 26 (0, 0)) (by (with_reducible repeat (first | refine blk_drewN ?_ _ | refine blk_drew ?_ | refine blk_alloc ?_ _)); exact BK310.out)) : gb320 ≠ gb310)); clear BK279; clear BK280; clear BK289; clear BK296; clear BK303; clear BK310; clear HB; have BK279 := n0_; have BK280 := n1_; have BK289 := n2_; have BK296 := n3_; have BK303 := n4_; have BK310 := n5_; have HB := n6_; have BK320 := n7_; have GW320 := n8_; have GE320 := n9_; have NB279_320 := n10_; have NB320_279 := n11_; have NB280_320 := n12_; have NB320_280 := n13_; have NB289_320 := n14_; have NB320_289 := n15_; have NB296_320 := n16_; have NB320_296 := n17_; have NB303_320 := n18_; have NB320_303 := n19_; have NB310_320 := n20_; have NB320_310 := n21_; clear n0_ n1_ n2_ n3_ n4_ n5_ n6_ n7_ n8_ n9_ n10_ n11_ n12_ n13_ n14_ n15_ n16_ n17_ n18_ n19_ n20_ n21_; clear hb hbox hg; have hnb132 := NB320_279.out; have hnc132 := NB279_320.out; have hnb133 := NB320_280.out; have hnc133 := NB280_320.out; have hnb134 := NB320_289.out; have hnc134 := NB289_320.out; have hnb135 := NB320_296.out; have hnc135 := NB296_320.out; have hnb136 := NB320_303.out; have hnc136 := NB303_320.out; have hnb137 := NB320_310.out; have hnc137 := NB310_320.out; have hcz138_0 : w131.cell? ⟨gb320, 0, none⟩ = some (.int .u64 0) := (blk_cell BK320.out 0).trans rfl; have hcz138_1 : w131.cell? ⟨gb320, 1, none⟩ = some (.int .u64 0) := (blk_cell BK320.out 1).trans rfl; have hcz138_2 : w131.cell? ⟨gb320, 2, none⟩ = some (.int .u64 0) := (blk_cell BK320.out 2).trans rfl; have hcz138_3 : w131.cell? ⟨gb320, 3, none⟩ = some (.int .u64 0) := (blk_cell BK320.out 3).trans rfl; have hcz138_4 : w131.cell? ⟨gb320, 4, none⟩ = some (.int .i64 0) := (blk_cell BK320.out 4).trans rfl; have hfz138_0 := blk_frozen BK320.out 0; have hfz138_1 := blk_frozen BK320.out 1; have hfz138_2 := blk_frozen BK320.out 2; have hfz138_3 := blk_frozen BK320.out 3; have hfz138_4 := blk_frozen BK320.out 4; have hcz139_0 : w131.cell? ⟨gb280, 0, none⟩ = some (.int .u64 a2_0) := (blk_cell BK280.out 0).trans rfl; have hcz139_1 : w131.cell? ⟨gb280, 1, none⟩ = some (.int .u64 a2_1) := (blk_cell BK280.out 1).trans rfl; have hcz139_2 : w131.cell? ⟨gb280, 2, none⟩ = some (.int .u64 a2_2) := (blk_cell BK280.out 2).trans rfl; have hcz139_3 : w131.cell? ⟨gb280, 3, none⟩ = some (.int .u64 a2_3) := (blk_cell BK280.out 3).trans rfl; have hcz139_4 : w131.cell? ⟨gb280, 4, none⟩ = some (.int .i64 a2_4) := (blk_cell BK280.out 4).trans rfl; have hfz139_0 := blk_frozen BK280.out 0; have hfz139_1 := blk_frozen BK280.out 1; have hfz139_2 := blk_frozen BK280.out 2; have hfz139_3 := blk_frozen BK280.out 3; have hfz139_4 := blk_frozen BK280.out 4) | ((with_reducible refine gate_callee (f := 17) rfl ?_); refine goesL_ (some 88) rfl rfl Try.func17 (by kernel_rfl) rfl #[.agg #[.int .u64 a2_0, .int .u64 a2_1, .int .u64 a2_2, .int .u64 a2_3, .int .i64 a2_4]] rfl (by (try simp only [List.map_toArray, List.map_cons, List.map_nil]); first | done | rfl | (simp only [List.length_drop, List.length_take]; rfl)) ?_; (with_reducible refine (tattleref16_Lay.calls kj18 a2_0 a2_1 a2_2 a2_3 a2_4 t321 _ A115.out).mono ?_); rintro e w140 ⟨rfl, hb⟩; refine ⟨_, rfl, ?_⟩; have n0_ := Aside0.mk (blk_below (g := gb279) (o := .cells #[.string t281, .string t282] 23 (0, 0)) (by (with_reducible repeat (first | refine blk_drewN ?_ _ | refine blk_drew ?_ | refine blk_alloc ?_ _)); refine blk_far ?_ NB279_320.out _; (with_reducible repeat (first | refine blk_drewN ?_ _ | refine blk_drew ?_ | refine blk_alloc ?_ _)); refine blk_far ?_ NB279_320.out _; (with_reducible repeat (first | refine blk_drewN ?_ _ | refine blk_drew ?_ | refine blk_alloc ?_ _)); refine blk_far ?_ NB279_320.out _; (with_reducible repeat (first | refine blk_drewN ?_ _ | refine blk_drew ?_ | refine blk_alloc ?_ _)); refine blk_far ?_ NB279_320.out _; (with_reducible repeat (first | refine blk_drewN ?_ _ | refine blk_drew ?_ | refine blk_alloc ?_ _)); refine blk_far ?_ NB279_320.out _; (with_reducible repeat (first | refine blk_drewN ?_ _ | refine blk_drew ?_ | refine blk_alloc ?_ _)); exact BK279.out) hb); have n1_ := Aside0.mk (blk_below (g := gb280) (o := .cells #[.int .u64 a2_0, .int .u64 a2_1, .int .u64 a2_2, .int .u64 a2_3, .int .i64 a2_4] 26 (0, 0)) (by (with_reducible repeat (first | refine blk_drewN ?_ _ | refine blk_drew ?_ | refine blk_alloc ?_ _)); refine blk_far ?_ NB280_320.out _; (with_reducible repeat (first | refine blk_drewN ?_ _ | refine blk_drew ?_ | refine blk_alloc ?_ _)); refine blk_far ?_ NB280_320.out _; (with_reducible repeat (first | refine blk_drewN ?_ _ | refine blk_drew ?_ | refine blk_alloc ?_ _)); refine blk_far ?_ NB280_320.out _; (with_reducible repeat (first | refine blk_drewN ?_ _ | refine blk_drew ?_ | refine blk_alloc ?_ _)); refine blk_far ?_ NB280_320.out _; (with_reducible repeat (first | refine blk_drewN ?_ _ | refine blk_drew ?_ | refine blk_alloc ?_ _)); refine blk_far ?_ NB280_320.out _; (with_reducible repeat (first | refine blk_drewN ?_ _ | refine blk_drew ?_ | refine blk_alloc ?_ _)); exact BK280.out) hb); have n2_ := Aside0.mk (blk_below (g := gb289) (o := .cells #[.int .u64 t283, .int .u64 t284, .int .u64 t285, .int .u64 t286, .int .i64 t287] 26 (0, 0)) (by (with_reducible repeat (first | refine blk_drewN ?_ _ | refine blk_drew ?_ | refine blk_alloc ?_ _)); refine blk_far ?_ NB289_320.out _; (with_reducible repeat (first | refine blk_drewN ?_ _ | refine blk_drew ?_ | refine blk_alloc ?_ _)); refine blk_far ?_ NB289_320.out _; (with_reducible repeat (first | refine blk_drewN ?_ _ | refine blk_drew ?_ | refine blk_alloc ?_ _)); refine blk_far ?_ NB289_320.out _; (with_reducible repeat (first | refine blk_drewN ?_ _ | refine blk_drew ?_ | refine blk_alloc ?_ _)); refine blk_far ?_ NB289_320.out _; (with_reducible repeat (first | refine blk_drewN ?_ _ | refine blk_drew ?_ | refine blk_alloc ?_ _)); refine blk_far ?_ NB289_320.out _; (with_reducible repeat (first | refine blk_drewN ?_ _ | refine blk_drew ?_ | refine blk_alloc ?_ _)); exact BK289.out) hb); have n3_ := Aside0.mk (blk_below (g := gb296) (o := .cells #[.int .u64 t290, .int .u64 t291, .int .u64 t292, .int .u64 t293, .int .i64 t294] 26 (0, 0)) (by (with_reducible repeat (first | refine blk_drewN ?_ _ | refine blk_drew ?_ | refine blk_alloc ?_ _)); refine blk_far ?_ NB296_320.out _; (with_reducible repeat (first | refine blk_drewN ?_ _ | refine blk_drew ?_ | refine blk_alloc ?_ _)); refine blk_far ?_ NB296_320.out _; (with_reducible repeat (first | refine blk_drewN ?_ _ | refine blk_drew ?_ | refine blk_alloc ?_ _)); refine blk_far ?_ NB296_320.out _; (with_reducible repeat (first | refine blk_drewN ?_ _ | refine blk_drew ?_ | refine blk_alloc ?_ _)); refine blk_far ?_ NB296_320.out _; (with_reducible repeat (first | refine blk_drewN ?_ _ | refine blk_drew ?_ | refine blk_alloc ?_ _)); refine blk_far ?_ NB296_320.out _; (with_reducible repeat (first | refine blk_drewN ?_ _ | refine blk_drew ?_ | refine blk_alloc ?_ _)); exact BK296.out) hb); have n4_ := Aside0.mk (blk_below (g := gb303) (o := .cells #[.int .u64 t297, .int .u64 t298, .int .u64 t299, .int .u64 t300, .int .i64 t301] 26 (0, 0)) (by (with_reducible repeat (first | refine blk_drewN ?_ _ | refine blk_drew ?_ | refine blk_alloc ?_ _)); refine blk_far ?_ NB303_320.out _; (with_reducible repeat (first | refine blk_drewN ?_ _ | refine blk_drew ?_ | refine blk_alloc ?_ _)); refine blk_far ?_ NB303_320.out _; (with_reducible repeat (first | refine blk_drewN ?_ _ | refine blk_drew ?_ | refine blk_alloc ?_ _)); refine blk_far ?_ NB303_320.out _; (with_reducible repeat (first | refine blk_drewN ?_ _ | refine blk_drew ?_ | refine blk_alloc ?_ _)); refine blk_far ?_ NB303_320.out _; (with_reducible repeat (first | refine blk_drewN ?_ _ | refine blk_drew ?_ | refine blk_alloc ?_ _)); refine blk_far ?_ NB303_320.out _; (with_reducible repeat (first | refine blk_drewN ?_ _ | refine blk_drew ?_ | refine blk_alloc ?_ _)); exact BK303.out) hb); have n5_ := Aside0.mk (blk_below (g := gb310) (o := .cells #[.int .u64 t304, .int .u64 t305, .int .u64 t306, .int .u64 t307, .int .i64 t308] 26 (0, 0)) (by (with_reducible repeat (first | refine blk_drewN ?_ _ | refine blk_drew ?_ | refine blk_alloc ?_ _)); refine blk_far ?_ NB310_320.out _; (with_reducible repeat (first | refine blk_drewN ?_ _ | refine blk_drew ?_ | refine blk_alloc ?_ _)); refine blk_far ?_ NB310_320.out _; (with_reducible repeat (first | refine blk_drewN ?_ _ | refine blk_drew ?_ | refine blk_alloc ?_ _)); refine blk_far ?_ NB310_320.out _; (with_reducible repeat (first | refine blk_drewN ?_ _ | refine blk_drew ?_ | refine blk_alloc ?_ _)); refine blk_far ?_ NB310_320.out _; (with_reducible repeat (first | refine blk_drewN ?_ _ | refine blk_drew ?_ | refine blk_alloc ?_ _)); refine blk_far ?_ NB310_320.out _; (with_reducible repeat (first | refine blk_drewN ?_ _ | refine blk_drew ?_ | refine blk_alloc ?_ _)); exact BK310.out) hb); have n6_ := Aside0.mk (blk_below (g := gb320) (o := .cells #[.int .u64 t314, .int .u64 t315, .int .u64 t316, .int .u64 t317, .int .i64 t318] 26 (0, 0)) (by (with_reducible repeat (first | refine blk_drewN ?_ _ | refine blk_drew ?_ | refine blk_alloc ?_ _)); refine blk_put (cs := #[.int .u64 t314, .int .u64 t315, .int .u64 t316, .int .u64 t317, .int .i64 0]) ?_ 4 _ rfl; (with_reducible repeat (first | refine blk_drewN ?_ _ | refine blk_drew ?_ | refine blk_alloc ?_ _)); refine blk_put (cs := #[.int .u64 t314, .int .u64 t315, .int .u64 t316, .int .u64 0, .int .i64 0]) ?_ 3 _ rfl; (with_reducible repeat (first | refine blk_drewN ?_ _ | refine blk_drew ?_ | refine blk_alloc ?_ _)); refine blk_put (cs := #[.int .u64 t314, .int .u64 t315, .int .u64 0, .int .u64 0, .int .i64 0]) ?_ 2 _ rfl; (with_reducible repeat (first | refine blk_drewN ?_ _ | refine blk_drew ?_ | refine blk_alloc ?_ _)); refine blk_put (cs := #[.int .u64 t314, .int .u64 0, .int .u64 0, .int .u64 0, .int .i64 0]) ?_ 1 _ rfl; (with_reducible repeat (first | refine blk_drewN ?_ _ | refine blk_drew ?_ | refine blk_alloc ?_ _)); refine blk_put (cs := #[.int .u64 0, .int .u64 0, .int .u64 0, .int .u64 0, .int .i64 0]) ?_ 0 _ rfl; (with_reducible repeat (first | refine blk_drewN ?_ _ | refine blk_drew ?_ | refine blk_alloc ?_ _)); exact BK320.out) hb); have n7_ := Aside0.mk (below_step (by repeat (first | (with_reducible first | exact HB.out | apply below_alloc | apply pw_below_drewN | apply below_drew1 | refine below_set ?_ GE279.out | refine below_set ?_ GE280.out | refine below_set ?_ GE289.out | refine below_set ?_ GE296.out | refine below_set ?_ GE303.out | refine below_set ?_ GE310.out | refine below_set ?_ GE320.out) | exact HB.out)) hb); clear BK279; clear BK280; clear BK289; clear BK296; clear BK303; clear BK310; clear BK320; clear HB; have BK279 := n0_; have BK280 := n1_; have BK289 := n2_; have BK296 := n3_; have BK303 := n4_; have BK310 := n5_; have BK320 := n6_; have HB := n7_; clear n0_ n1_ n2_ n3_ n4_ n5_ n6_ n7_; (try clear hb); (try clear hb2); (try clear hk); (try clear hi); have hcz141_0 : w140.cell? ⟨gb320, 0, none⟩ = some (.int .u64 t314) := (blk_cell BK320.out 0).trans rfl; have hcz141_1 : w140.cell? ⟨gb320, 1, none⟩ = some (.int .u64 t315) := (blk_cell BK320.out 1).trans rfl; have hcz141_2 : w140.cell? ⟨gb320, 2, none⟩ = some (.int .u64 t316) := (blk_cell BK320.out 2).trans rfl; have hcz141_3 : w140.cell? ⟨gb320, 3, none⟩ = some (.int .u64 t317) := (blk_cell BK320.out 3).trans rfl; have hcz141_4 : w140.cell? ⟨gb320, 4, none⟩ = some (.int .i64 t318) := (blk_cell BK320.out 4).trans rfl; have hfz141_0 := blk_frozen BK320.out 0; have hfz141_1 := blk_frozen BK320.out 1; have hfz141_2 := blk_frozen BK320.out 2; have hfz141_3 := blk_frozen BK320.out 3; have hfz141_4 := blk_frozen BK320.out 4; have hcz142_0 : w140.cell? ⟨gb280, 0, none⟩ = some (.int .u64 a2_0) := (blk_cell BK280.out 0).trans rfl; have hcz142_1 : w140.cell? ⟨gb280, 1, none⟩ = some (.int .u64 a2_1) := (blk_cell BK280.out 1).trans rfl; have hcz142_2 : w140.cell? ⟨gb280, 2, none⟩ = some (.int .u64 a2_2) := (blk_cell BK280.out 2).trans rfl; have hcz142_3 : w140.cell? ⟨gb280, 3, none⟩ = some (.int .u64 a2_3) := (blk_cell BK280.out 3).trans rfl; have hcz142_4 : w140.cell? ⟨gb280, 4, none⟩ = some (.int .i64 a2_4) := (blk_cell BK280.out 4).trans rfl; have hfz142_0 := blk_frozen BK280.out 0; have hfz142_1 := blk_frozen BK280.out 1; have hfz142_2 := blk_frozen BK280.out 2; have hfz142_3 := blk_frozen BK280.out 3; have hfz142_4 := blk_frozen BK280.out 4) | (go_at_call 16; (with_reducible refine (tattlelaw16_awake.calls kj18  t322 _ A120.out).mono ?_); rintro e w143 ⟨rfl, hb⟩; have n0_ := Aside0.mk (blk_below (g := gb279) (o := .cells #[.string t281, .string t282] 23 (0, 0)) (by (with_reducible repeat (first | refine blk_drewN ?_ _ | refine blk_drew ?_ | refine blk_alloc ?_ _)); exact BK279.out) hb); have n1_ := Aside0.mk (blk_below (g := gb280) (o := .cells #[.int .u64 a2_0, .int .u64 a2_1, .int .u64 a2_2, .int .u64 a2_3, .int .i64 a2_4] 26 (0, 0)) (by (with_reducible repeat (first | refine blk_drewN ?_ _ | refine blk_drew ?_ | refine blk_alloc ?_ _)); exact BK280.out) hb); have n2_ := Aside0.mk (blk_below (g := gb289) (o := .cells #[.int .u64 t283, .int .u64 t284, .int .u64 t285, .int .u64 t286, .int .i64 t287] 26 (0, 0)) (by (with_reducible repeat (first | refine blk_drewN ?_ _ | refine blk_drew ?_ | refine blk_alloc ?_ _)); exact BK289.out) hb); have n3_ := Aside0.mk (blk_below (g := gb296) (o := .cells #[.int .u64 t290, .int .u64 t291, .int .u64 t292, .int .u64 t293, .int .i64 t294] 26 (0, 0)) (by (with_reducible repeat (first | refine blk_drewN ?_ _ | refine blk_drew ?_ | refine blk_alloc ?_ _)); exact BK296.out) hb); have n4_ := Aside0.mk (blk_below (g := gb303) (o := .cells #[.int .u64 t297, .int .u64 t298, .int .u64 t299, .int .u64 t300, .int .i64 t301] 26 (0, 0)) (by (with_reducible repeat (first | refine blk_drewN ?_ _ | refine blk_drew ?_ | refine blk_alloc ?_ _)); exact BK303.out) hb); have n5_ := Aside0.mk (blk_below (g := gb310) (o := .cells #[.int .u64 t304, .int .u64 t305, .int .u64 t306, .int .u64 t307, .int .i64 t308] 26 (0, 0)) (by (with_reducible repeat (first | refine blk_drewN ?_ _ | refine blk_drew ?_ | refine blk_alloc ?_ _)); exact BK310.out) hb); have n6_ := Aside0.mk (blk_below (g := gb320) (o := .cells #[.int .u64 t314, .int .u64 t315, .int .u64 t316, .int .u64 t317, .int .i64 t318] 26 (0, 0)) (by (with_reducible repeat (first | refine blk_drewN ?_ _ | refine blk_drew ?_ | refine blk_alloc ?_ _)); exact BK320.out) hb); have n7_ := Aside0.mk (below_step (by repeat (first | (with_reducible first | exact HB.out | apply below_alloc | apply pw_below_drewN | apply below_drew1 | refine below_set ?_ GE279.out | refine below_set ?_ GE280.out | refine below_set ?_ GE289.out | refine below_set ?_ GE296.out | refine below_set ?_ GE303.out | refine below_set ?_ GE310.out | refine below_set ?_ GE320.out) | exact HB.out)) hb); clear BK279; clear BK280; clear BK289; clear BK296; clear BK303; clear BK310; clear BK320; clear HB; have BK279 := n0_; have BK280 := n1_; have BK289 := n2_; have BK296 := n3_; have BK303 := n4_; have BK310 := n5_; have BK320 := n6_; have HB := n7_; clear n0_ n1_ n2_ n3_ n4_ n5_ n6_ n7_; (try clear hb); (try clear hb2); (try clear hk); (try clear hi)))
                      go_ret
                      exact ⟨by first | rfl | (simp [errW_none, errW_some] <;> rfl) | (simp [*, errW_none, errW_some] <;> rfl), by repeat (first | (with_reducible first | exact HB.out | apply below_alloc | apply pw_below_drewN | apply below_drew1 | refine below_set ?_ GE279.out | refine below_set ?_ GE280.out | refine below_set ?_ GE289.out | refine below_set ?_ GE296.out | refine below_set ?_ GE303.out | refine below_set ?_ GE310.out | refine below_set ?_ GE320.out) | exact HB.out)⟩
                    · rw [if_neg c119] at H
                      exact absurd H (by simp)
                  · rw [if_neg c118] at H
                    exact absurd H (by simp)
                · rw [if_neg c117] at H
                  exact absurd H (by simp)
              · rw [if_neg c116] at H
                exact absurd H (by simp)
            · replace c113 := Bool.eq_false_iff.mpr c113
              subst c113
              have H1 : (if t311.toList = ([] : List UInt8) then (if t312 = 1 then ((tattlelaw16_awake.f kj18).bind fun t323 => (some t323)) else (none)) else (none)) = some r := by rw [if_neg (show ¬ (false = true) by decide)] at H; exact H
              clear H
              have H := H1
              clear H1
              by_cases c144 : t311.toList = ([] : List UInt8)
              · rw [if_pos c144] at H
                have c144b0 : (t311.toList == ([] : List UInt8)) = true := beq_iff_eq.mpr c144
                have c144b1 : (t311.toList != ([] : List UInt8)) = false := bne_eq_false_iff_eq.mpr c144
                clear c144
                by_cases c145 : t312 = 1
                · rw [if_pos c145] at H
                  have c145b0 : (t312 == 1) = true := beq_iff_eq.mpr c145
                  have c145b1 : (t312 != 1) = false := bne_eq_false_iff_eq.mpr c145
                  clear c145
                  replace H := Option.bind_eq_some_iff.mp H
                  obtain ⟨t323, A1460, H⟩ := H
                  replace H : (some t323) = some r := H
                  have A146 := Aside0.mk A1460
                  clear A1460
                  obtain rfl := Option.some.inj H
                  have hnb147 := NB280_279.out
                  have hnc147 := NB279_280.out
                  have hnb148 := NB280_289.out
                  have hnc148 := NB289_280.out
                  have hnb149 := NB280_296.out
                  have hnc149 := NB296_280.out
                  have hnb150 := NB280_303.out
                  have hnc150 := NB303_280.out
                  have hnb151 := NB280_310.out
                  have hnc151 := NB310_280.out
                  have hcz152_0 : wc.cell? ⟨gb280, 0, none⟩ = some (.int .u64 a2_0) := (blk_cell BK280.out 0).trans rfl
                  have hcz152_1 : wc.cell? ⟨gb280, 1, none⟩ = some (.int .u64 a2_1) := (blk_cell BK280.out 1).trans rfl
                  have hcz152_2 : wc.cell? ⟨gb280, 2, none⟩ = some (.int .u64 a2_2) := (blk_cell BK280.out 2).trans rfl
                  have hcz152_3 : wc.cell? ⟨gb280, 3, none⟩ = some (.int .u64 a2_3) := (blk_cell BK280.out 3).trans rfl
                  have hcz152_4 : wc.cell? ⟨gb280, 4, none⟩ = some (.int .i64 a2_4) := (blk_cell BK280.out 4).trans rfl
                  have hfz152_0 := blk_frozen BK280.out 0
                  have hfz152_1 := blk_frozen BK280.out 1
                  have hfz152_2 := blk_frozen BK280.out 2
                  have hfz152_3 := blk_frozen BK280.out 3
                  have hfz152_4 := blk_frozen BK280.out 4
                  go_wp2_with (first | ((with_reducible refine gate_callee (f := 14) rfl ?_); refine goesL_ (some 66) rfl rfl Try.func14 (by kernel_rfl) rfl #[.agg #[.int .u64 a2_0, .int .u64 a2_1, .int .u64 a2_2, .int .u64 a2_3, .int .i64 a2_4]] rfl (by (try simp only [List.map_toArray, List.map_cons, List.map_nil]); first | done | rfl | (simp only [List.length_drop, List.length_take]; rfl)) ?_; (with_reducible refine (disk_Lay.calls kj18 a2_0 a2_1 a2_2 a2_3 a2_4 t311 t312 _ A111.out).mono ?_); rintro e w153 ⟨rfl, hb⟩; refine ⟨_, rfl, ?_⟩; have n0_ := Aside0.mk (blk_below (g := gb279) (o := .cells #[.string t281, .string t282] 23 (0, 0)) (by (with_reducible repeat (first | refine blk_drewN ?_ _ | refine blk_drew ?_ | refine blk_alloc ?_ _)); exact BK279.out) hb); have n1_ := Aside0.mk (blk_below (g := gb280) (o := .cells #[.int .u64 a2_0, .int .u64 a2_1, .int .u64 a2_2, .int .u64 a2_3, .int .i64 a2_4] 26 (0, 0)) (by (with_reducible repeat (first | refine blk_drewN ?_ _ | refine blk_drew ?_ | refine blk_alloc ?_ _)); exact BK280.out) hb); have n2_ := Aside0.mk (blk_below (g := gb289) (o := .cells #[.int .u64 t283, .int .u64 t284, .int .u64 t285, .int .u64 t286, .int .i64 t287] 26 (0, 0)) (by (with_reducible repeat (first | refine blk_drewN ?_ _ | refine blk_drew ?_ | refine blk_alloc ?_ _)); exact BK289.out) hb); have n3_ := Aside0.mk (blk_below (g := gb296) (o := .cells #[.int .u64 t290, .int .u64 t291, .int .u64 t292, .int .u64 t293, .int .i64 t294] 26 (0, 0)) (by (with_reducible repeat (first | refine blk_drewN ?_ _ | refine blk_drew ?_ | refine blk_alloc ?_ _)); exact BK296.out) hb); have n4_ := Aside0.mk (blk_below (g := gb303) (o := .cells #[.int .u64 t297, .int .u64 t298, .int .u64 t299, .int .u64 t300, .int .i64 t301] 26 (0, 0)) (by (with_reducible repeat (first | refine blk_drewN ?_ _ | refine blk_drew ?_ | refine blk_alloc ?_ _)); exact BK303.out) hb); have n5_ := Aside0.mk (blk_below (g := gb310) (o := .cells #[.int .u64 t304, .int .u64 t305, .int .u64 t306, .int .u64 t307, .int .i64 t308] 26 (0, 0)) (by (with_reducible repeat (first | refine blk_drewN ?_ _ | refine blk_drew ?_ | refine blk_alloc ?_ _)); exact BK310.out) hb); have n6_ := Aside0.mk (below_step (by repeat (first | (with_reducible first | exact HB.out | apply below_alloc | apply pw_below_drewN | apply below_drew1 | refine below_set ?_ GE279.out | refine below_set ?_ GE280.out | refine below_set ?_ GE289.out | refine below_set ?_ GE296.out | refine below_set ?_ GE303.out | refine below_set ?_ GE310.out) | exact HB.out)) hb); clear BK279; clear BK280; clear BK289; clear BK296; clear BK303; clear BK310; clear HB; have BK279 := n0_; have BK280 := n1_; have BK289 := n2_; have BK296 := n3_; have BK303 := n4_; have BK310 := n5_; have HB := n6_; clear n0_ n1_ n2_ n3_ n4_ n5_ n6_; (try clear hb); (try clear hb2); (try clear hk); (try clear hi); have hcz154_0 : w153.cell? ⟨gb280, 0, none⟩ = some (.int .u64 a2_0) := (blk_cell BK280.out 0).trans rfl; have hcz154_1 : w153.cell? ⟨gb280, 1, none⟩ = some (.int .u64 a2_1) := (blk_cell BK280.out 1).trans rfl; have hcz154_2 : w153.cell? ⟨gb280, 2, none⟩ = some (.int .u64 a2_2) := (blk_cell BK280.out 2).trans rfl; have hcz154_3 : w153.cell? ⟨gb280, 3, none⟩ = some (.int .u64 a2_3) := (blk_cell BK280.out 3).trans rfl; have hcz154_4 : w153.cell? ⟨gb280, 4, none⟩ = some (.int .i64 a2_4) := (blk_cell BK280.out 4).trans rfl; have hfz154_0 := blk_frozen BK280.out 0; have hfz154_1 := blk_frozen BK280.out 1; have hfz154_2 := blk_frozen BK280.out 2; have hfz154_3 := blk_frozen BK280.out 3; have hfz154_4 := blk_frozen BK280.out 4) | ((with_reducible refine gate_callee (f := 15) rfl ?_); refine goesL_ (some 70) rfl rfl Try.func15 (by kernel_rfl) rfl #[.agg #[.int .u64 a2_0, .int .u64 a2_1, .int .u64 a2_2, .int .u64 a2_3, .int .i64 a2_4]] rfl (by (try simp only [List.map_toArray, List.map_cons, List.map_nil]); first | done | rfl | (simp only [List.length_drop, List.length_take]; rfl)) ?_; (with_reducible refine (tattleref16_May.calls a2_0 a2_1 a2_2 a2_3 a2_4 false _ A112.out).mono ?_); rintro e w155 ⟨rfl, hb⟩; refine ⟨_, rfl, ?_⟩; have n0_ := Aside0.mk (blk_below (g := gb279) (o := .cells #[.string t281, .string t282] 23 (0, 0)) (by (with_reducible repeat (first | refine blk_drewN ?_ _ | refine blk_drew ?_ | refine blk_alloc ?_ _)); exact BK279.out) hb); have n1_ := Aside0.mk (blk_below (g := gb280) (o := .cells #[.int .u64 a2_0, .int .u64 a2_1, .int .u64 a2_2, .int .u64 a2_3, .int .i64 a2_4] 26 (0, 0)) (by (with_reducible repeat (first | refine blk_drewN ?_ _ | refine blk_drew ?_ | refine blk_alloc ?_ _)); exact BK280.out) hb); have n2_ := Aside0.mk (blk_below (g := gb289) (o := .cells #[.int .u64 t283, .int .u64 t284, .int .u64 t285, .int .u64 t286, .int .i64 t287] 26 (0, 0)) (by (with_reducible repeat (first | refine blk_drewN ?_ _ | refine blk_drew ?_ | refine blk_alloc ?_ _)); exact BK289.out) hb); have n3_ := Aside0.mk (blk_below (g := gb296) (o := .cells #[.int .u64 t290, .int .u64 t291, .int .u64 t292, .int .u64 t293, .int .i64 t294] 26 (0, 0)) (by (with_reducible repeat (first | refine blk_drewN ?_ _ | refine blk_drew ?_ | refine blk_alloc ?_ _)); exact BK296.out) hb); have n4_ := Aside0.mk (blk_below (g := gb303) (o := .cells #[.int .u64 t297, .int .u64 t298, .int .u64 t299, .int .u64 t300, .int .i64 t301] 26 (0, 0)) (by (with_reducible repeat (first | refine blk_drewN ?_ _ | refine blk_drew ?_ | refine blk_alloc ?_ _)); exact BK303.out) hb); have n5_ := Aside0.mk (blk_below (g := gb310) (o := .cells #[.int .u64 t304, .int .u64 t305, .int .u64 t306, .int .u64 t307, .int .i64 t308] 26 (0, 0)) (by (with_reducible repeat (first | refine blk_drewN ?_ _ | refine blk_drew ?_ | refine blk_alloc ?_ _)); exact BK310.out) hb); have n6_ := Aside0.mk (below_step (by repeat (first | (with_reducible first | exact HB.out | apply below_alloc | apply pw_below_drewN | apply below_drew1 | refine below_set ?_ GE279.out | refine below_set ?_ GE280.out | refine below_set ?_ GE289.out | refine below_set ?_ GE296.out | refine below_set ?_ GE303.out | refine below_set ?_ GE310.out) | exact HB.out)) hb); clear BK279; clear BK280; clear BK289; clear BK296; clear BK303; clear BK310; clear HB; have BK279 := n0_; have BK280 := n1_; have BK289 := n2_; have BK296 := n3_; have BK303 := n4_; have BK310 := n5_; have HB := n6_; clear n0_ n1_ n2_ n3_ n4_ n5_ n6_; (try clear hb); (try clear hb2); (try clear hk); (try clear hi)) | (go_at_call 16; (with_reducible refine (tattlelaw16_awake.calls kj18  t323 _ A146.out).mono ?_); rintro e w156 ⟨rfl, hb⟩; have n0_ := Aside0.mk (blk_below (g := gb279) (o := .cells #[.string t281, .string t282] 23 (0, 0)) (by (with_reducible repeat (first | refine blk_drewN ?_ _ | refine blk_drew ?_ | refine blk_alloc ?_ _)); exact BK279.out) hb); have n1_ := Aside0.mk (blk_below (g := gb280) (o := .cells #[.int .u64 a2_0, .int .u64 a2_1, .int .u64 a2_2, .int .u64 a2_3, .int .i64 a2_4] 26 (0, 0)) (by (with_reducible repeat (first | refine blk_drewN ?_ _ | refine blk_drew ?_ | refine blk_alloc ?_ _)); exact BK280.out) hb); have n2_ := Aside0.mk (blk_below (g := gb289) (o := .cells #[.int .u64 t283, .int .u64 t284, .int .u64 t285, .int .u64 t286, .int .i64 t287] 26 (0, 0)) (by (with_reducible repeat (first | refine blk_drewN ?_ _ | refine blk_drew ?_ | refine blk_alloc ?_ _)); exact BK289.out) hb); have n3_ := Aside0.mk (blk_below (g := gb296) (o := .cells #[.int .u64 t290, .int .u64 t291, .int .u64 t292, .int .u64 t293, .int .i64 t294] 26 (0, 0)) (by (with_reducible repeat (first | refine blk_drewN ?_ _ | refine blk_drew ?_ | refine blk_alloc ?_ _)); exact BK296.out) hb); have n4_ := Aside0.mk (blk_below (g := gb303) (o := .cells #[.int .u64 t297, .int .u64 t298, .int .u64 t299, .int .u64 t300, .int .i64 t301] 26 (0, 0)) (by (with_reducible repeat (first | refine blk_drewN ?_ _ | refine blk_drew ?_ | refine blk_alloc ?_ _)); exact BK303.out) hb); have n5_ := Aside0.mk (blk_below (g := gb310) (o := .cells #[.int .u64 t304, .int .u64 t305, .int .u64 t306, .int .u64 t307, .int .i64 t308] 26 (0, 0)) (by (with_reducible repeat (first | refine blk_drewN ?_ _ | refine blk_drew ?_ | refine blk_alloc ?_ _)); exact BK310.out) hb); have n6_ := Aside0.mk (below_step (by repeat (first | (with_reducible first | exact HB.out | apply below_alloc | apply pw_below_drewN | apply below_drew1 | refine below_set ?_ GE279.out | refine below_set ?_ GE280.out | refine below_set ?_ GE289.out | refine below_set ?_ GE296.out | refine below_set ?_ GE303.out | refine below_set ?_ GE310.out) | exact HB.out)) hb); clear BK279; clear BK280; clear BK289; clear BK296; clear BK303; clear BK310; clear HB; have BK279 := n0_; have BK280 := n1_; have BK289 := n2_; have BK296 := n3_; have BK303 := n4_; have BK310 := n5_; have HB := n6_; clear n0_ n1_ n2_ n3_ n4_ n5_ n6_; (try clear hb); (try clear hb2); (try clear hk); (try clear hi)))
                  go_ret
                  exact ⟨by first | rfl | (simp [errW_none, errW_some] <;> rfl) | (simp [*, errW_none, errW_some] <;> rfl), by repeat (first | (with_reducible first | exact HB.out | apply below_alloc | apply pw_below_drewN | apply below_drew1 | refine below_set ?_ GE279.out | refine below_set ?_ GE280.out | refine below_set ?_ GE289.out | refine below_set ?_ GE296.out | refine below_set ?_ GE303.out | refine below_set ?_ GE310.out) | exact HB.out)⟩
                · rw [if_neg c145] at H
                  exact absurd H (by simp)
              · rw [if_neg c144] at H
                exact absurd H (by simp)

end Go.Proofs.Ytldeanlnfhgjfaa.PDiskReads
