-- Written by a program of this session (see NOTES.md) out of the print of Lean's own loaded functions; Lean checks it.
import Derived.Test.YtldeanlnfhgjfaaPDiskTurnsx0
import Derived.Test.YtldeanlnfhgjfaaPDiskTurnsx1
import Derived.Test.YtldeanlnfhgjfaaPDiskTurnsx3
import Derived.Test.YtldeanlnfhgjfaaPDiskTurnsx4
namespace Go.Proofs.Ytldeanlnfhgjfaa.PDiskTurns
open Go.RowKit Go.Proofs.YtldeanlnfhgjfaaW.PrintWords Go.Proofs.YtldeanlnfhgjfaaW.PrintLast Go.Proofs.YtldeanlnfhgjfaaW.PrintMore
attribute [local go_sem] max2_int min2_int max_two min_two max_three min_three max_four min_four   -- for this text's walks alone
set_option linter.unusedVariables false
set_option linter.unusedSimpArgs false

attribute [local go_sem high] eqA26
/-! ### disk_Tear: function 20 -/
def disk_Tear.j0 : Nat → Int → Bool → Bool → Bool → ByteArray → ByteArray → Int → Int → Int → Int → Int → Int → Int → Int → Int → Int → Option (ByteArray × ByteArray × Int)
  | 0, _, _, _, _, _, _, _, _, _, _, _, _, _, _, _, _ => none
  | k + 1, x2, x9, x10, x19, x178000, x178001, x179000, x179001, x179002, x179003, x179004, x188000, x188001, x188002, x188003, x188004 => if x19 = true then (some (x178000, x178001, 1)) else (if x188000 = 18446744073709551615 then (some (x178000, x178001, 4)) else ((disk_Lay.f k (IntKind.u64.wrap (x188000 + 1)) x179001 x179002 x179003 x179004).bind fun bt189 => (if bt189.2 = 0 then (if 0 ≤ (mn x2 (bt189.1.size : Int)) then (if (mn x2 (bt189.1.size : Int)) ≤ (bt189.1.size : Int) then (if x10 = true then (if x9 = true then (some (bt189.1.extract 0 ((mn x2 (bt189.1.size : Int)) : Int).toNat, x178001, 0)) else (some (x178000, bt189.1.extract 0 ((mn x2 (bt189.1.size : Int)) : Int).toNat, 0))) else (some (bt189.1.extract 0 ((mn x2 (bt189.1.size : Int)) : Int).toNat, x178001, 0))) else (none)) else (none)) else (some (x178000, x178001, bt189.2)))))
def disk_Tear.f (k : Nat) (a0_0 : ByteArray) (a0_1 : ByteArray) (a1_0 : Int) (a1_1 : Int) (a1_2 : Int) (a1_3 : Int) (a1_4 : Int) (a2 : Int) : Option (ByteArray × ByteArray × Int) := (disk_newest.f k a0_0 a0_1).bind fun bt180 => ((disk_may.f a1_0 a1_1 a1_2 a1_3 a1_4).bind fun t188 => (if t188 = true then (disk_Tear.j0 k a2 bt180.2.2.2.2.2.1 bt180.2.2.2.2.2.2 (decide (a2 < 0)) a0_0 a0_1 a1_0 a1_1 a1_2 a1_3 a1_4 bt180.1 bt180.2.1 bt180.2.2.1 bt180.2.2.2.1 bt180.2.2.2.2.1) else (disk_Tear.j0 k a2 bt180.2.2.2.2.2.1 bt180.2.2.2.2.2.2 true a0_0 a0_1 a1_0 a1_1 a1_2 a1_3 a1_4 bt180.1 bt180.2.1 bt180.2.2.1 bt180.2.2.2.1 bt180.2.2.2.2.1)))
theorem disk_Tear.mono_l : ∀ k, (∀ y0 y1 y2 y3 y4 y5 y6 y7 y8 y9 y10 y11 y12 y13 y14 y15, LeO (disk_Tear.j0 k y0 y1 y2 y3 y4 y5 y6 y7 y8 y9 y10 y11 y12 y13 y14 y15) (disk_Tear.j0 (k + 1) y0 y1 y2 y3 y4 y5 y6 y7 y8 y9 y10 y11 y12 y13 y14 y15))
  | 0 => fun _ _ _ _ _ _ _ _ _ _ _ _ _ _ _ _ r h => by simp [disk_Tear.j0] at h
  | k + 1 => by
    have ih0 := disk_Tear.mono_l k
    · intro y0 y1 y2 y3 y4 y5 y6 y7 y8 y9 y10 y11 y12 y13 y14 y15
      unfold disk_Tear.j0
      repeat' first
      | (with_reducible exact ih0 _ _ _ _ _ _ _ _ _ _ _ _ _ _ _ _)
      | (with_reducible exact disk_Lay.mono _ _ _ _ _ _)
      | (with_reducible exact disk_newest.mono _ _ _)
      | (with_reducible exact LeO.refl _)
      | (with_reducible exact LeO.none _)
      | (with_reducible refine LeO.ite ?_ ?_)
      | (with_reducible refine LeO.bind ?_ (fun _ => ?_))
      | exact ih0 _ _ _ _ _ _ _ _ _ _ _ _ _ _ _ _
      | exact disk_Lay.mono _ _ _ _ _ _
      | exact disk_newest.mono _ _ _
      | exact LeO.none _
      | refine LeO.ite ?_ ?_
      | refine LeO.bind ?_ (fun _ => ?_)
theorem disk_Tear.mono : ∀ a0 a1 a2 a3 a4 a5 a6 a7 k, LeO (disk_Tear.f k a0 a1 a2 a3 a4 a5 a6 a7) (disk_Tear.f (k + 1) a0 a1 a2 a3 a4 a5 a6 a7) := by
  intro a0 a1 a2 a3 a4 a5 a6 a7 k
  have ih0 := disk_Tear.mono_l k
  unfold disk_Tear.f
  repeat' first
      | (with_reducible exact ih0 _ _ _ _ _ _ _ _ _ _ _ _ _ _ _ _)
      | (with_reducible exact disk_Lay.mono _ _ _ _ _ _)
      | (with_reducible exact disk_newest.mono _ _ _)
      | (with_reducible exact LeO.refl _)
      | (with_reducible exact LeO.none _)
      | (with_reducible refine LeO.ite ?_ ?_)
      | (with_reducible refine LeO.bind ?_ (fun _ => ?_))
      | exact ih0 _ _ _ _ _ _ _ _ _ _ _ _ _ _ _ _
      | exact disk_Lay.mono _ _ _ _ _ _
      | exact disk_newest.mono _ _ _
      | exact LeO.none _
      | refine LeO.ite ?_ ?_
      | refine LeO.bind ?_ (fun _ => ?_)
set_option maxHeartbeats 8000000 in
set_option maxRecDepth 100000 in
theorem disk_Tear.calls (k : Nat) (a0_0 : ByteArray) (a0_1 : ByteArray) (a1_0 : Int) (a1_1 : Int) (a1_2 : Int) (a1_3 : Int) (a1_4 : Int) (a2 : Int) (r1 : ByteArray) (r2 : ByteArray) (r3 : Int) (w : World) (h : disk_Tear.f k a0_0 a0_1 a1_0 a1_1 a1_2 a1_3 a1_4 a2 = some (r1, r2, r3)) :
    Calls Try.prog 20 #[.agg #[.string a0_0, .string a0_1], .agg #[.int .u64 a1_0, .int .u64 a1_1, .int .u64 a1_2, .int .u64 a1_3, .int .i64 a1_4], .int .i64 a2] w fun e w' => e = .returned (.tuple #[.agg #[.string r1, .string r2], .int .i64 r3]) ∧ Below w.heap.size w w' := by
  have hu23 := Try.underlying23
  have hu26 := Try.underlying26
  have HB := Aside0.mk (Below.refl w.heap.size w)
  have H : ((disk_newest.f k a0_0 a0_1).bind fun bt180 => ((disk_may.f a1_0 a1_1 a1_2 a1_3 a1_4).bind fun t188 => (if t188 = true then (disk_Tear.j0 k a2 bt180.2.2.2.2.2.1 bt180.2.2.2.2.2.2 (decide (a2 < 0)) a0_0 a0_1 a1_0 a1_1 a1_2 a1_3 a1_4 bt180.1 bt180.2.1 bt180.2.2.1 bt180.2.2.2.1 bt180.2.2.2.2.1) else (disk_Tear.j0 k a2 bt180.2.2.2.2.2.1 bt180.2.2.2.2.2.2 true a0_0 a0_1 a1_0 a1_1 a1_2 a1_3 a1_4 bt180.1 bt180.2.1 bt180.2.2.1 bt180.2.2.2.1 bt180.2.2.2.2.1)))) = some (r1, r2, r3) := h
  clear h
  replace H := Option.bind_eq_some_iff.mp H
  obtain ⟨⟨t180, t181, t182, t183, t184, t185, t186⟩, A40, H⟩ := H
  replace H : ((disk_may.f a1_0 a1_1 a1_2 a1_3 a1_4).bind fun t188 => (if t188 = true then (disk_Tear.j0 k a2 t185 t186 (decide (a2 < 0)) a0_0 a0_1 a1_0 a1_1 a1_2 a1_3 a1_4 t180 t181 t182 t183 t184) else (disk_Tear.j0 k a2 t185 t186 true a0_0 a0_1 a1_0 a1_1 a1_2 a1_3 a1_4 t180 t181 t182 t183 t184))) = some (r1, r2, r3) := H
  have A4 := Aside0.mk A40
  clear A40
  have HC5 := Aside0.mk H
  clear H
  go_enter Try.func20, Try.ntmps20
  go_upto_region 2 with (first | ((with_reducible refine gate_dst (N := 3) rfl ?_); refine box_event ?hg (N := 3) ?hd (cs := #[.string a0_0, .string a0_1]) (t := 23) ?hr ?_; (case hd => rfl); (case hg => rfl); (case hr => first | (go_simp; done) | (go_simp; rfl)); intro gb177 hg w6 hbox hb; have n0_ := Aside0.mk (below_step (by repeat (first | (with_reducible first | exact HB.out | apply below_alloc | apply pw_below_drewN | apply below_drew1) | exact HB.out)) hb); have n1_ := Aside0.mk (hbox); have n2_ := Aside0.mk ((by rw [hg]; exact (below_size (by repeat (first | (with_reducible first | exact HB.out | apply below_alloc | apply pw_below_drewN | apply below_drew1) | exact HB.out))) : w.heap.size ≤ gb177)); have n3_ := Aside0.mk ((by rw [hg]; exact (below_size (by repeat (first | (with_reducible first | exact HB.out | apply below_alloc | apply pw_below_drewN | apply below_drew1) | exact HB.out))) : w.heap.size ≤ gb177)); clear HB; have HB := n0_; have BK177 := n1_; have GW177 := n2_; have GE177 := n3_; clear n0_ n1_ n2_ n3_; clear hb hbox hg) | ((with_reducible refine gate_dst (N := 4) rfl ?_); refine box_event ?hg (N := 4) ?hd (cs := #[.int .u64 a1_0, .int .u64 a1_1, .int .u64 a1_2, .int .u64 a1_3, .int .i64 a1_4]) (t := 26) ?hr ?_; (case hd => rfl); (case hg => rfl); (case hr => first | (go_simp; done) | (go_simp; rfl)); intro gb178 hg w7 hbox hb; have n0_ := Aside0.mk (blk_below (g := gb177) (o := .cells #[.string a0_0, .string a0_1] 23 (0, 0)) (by (with_reducible repeat (first | refine blk_drewN ?_ _ | refine blk_drew ?_ | refine blk_alloc ?_ _)); exact BK177.out) hb); have n1_ := Aside0.mk (below_step (by repeat (first | (with_reducible first | exact HB.out | apply below_alloc | apply pw_below_drewN | apply below_drew1 | refine below_set ?_ GE177.out) | exact HB.out)) hb); have n2_ := Aside0.mk (hbox); have n3_ := Aside0.mk ((by rw [hg]; exact (below_size (by repeat (first | (with_reducible first | exact HB.out | apply below_alloc | apply pw_below_drewN | apply below_drew1 | refine below_set ?_ GE177.out) | exact HB.out))) : w.heap.size ≤ gb178)); have n4_ := Aside0.mk ((by rw [hg]; exact (below_size (by repeat (first | (with_reducible first | exact HB.out | apply below_alloc | apply pw_below_drewN | apply below_drew1 | refine below_set ?_ GE177.out) | exact HB.out))) : w.heap.size ≤ gb178)); have n5_ := Aside0.mk ((by rw [hg]; exact Nat.ne_of_lt (blk_lt (g := gb177) (o := .cells #[.string a0_0, .string a0_1] 23 (0, 0)) (by (with_reducible repeat (first | refine blk_drewN ?_ _ | refine blk_drew ?_ | refine blk_alloc ?_ _)); exact BK177.out)) : gb177 ≠ gb178)); have n6_ := Aside0.mk ((by rw [hg]; exact Nat.ne_of_gt (blk_lt (g := gb177) (o := .cells #[.string a0_0, .string a0_1] 23 (0, 0)) (by (with_reducible repeat (first | refine blk_drewN ?_ _ | refine blk_drew ?_ | refine blk_alloc ?_ _)); exact BK177.out)) : gb178 ≠ gb177)); clear BK177; clear HB; have BK177 := n0_; have HB := n1_; have BK178 := n2_; have GW178 := n3_; have GE178 := n4_; have NB177_178 := n5_; have NB178_177 := n6_; clear n0_ n1_ n2_ n3_ n4_ n5_ n6_; clear hb hbox hg) | ((with_reducible refine gate_dst (N := 6) rfl ?_); refine box_event ?hg (N := 6) ?hd (cs := #[.string (⟨#[]⟩ : ByteArray), .string (⟨#[]⟩ : ByteArray)]) (t := 23) ?hr ?_; (case hd => rfl); (case hg => rfl); (case hr => first | (go_simp; done) | (go_simp; rfl)); intro gb179 hg w8 hbox hb; have n0_ := Aside0.mk (blk_below (g := gb177) (o := .cells #[.string a0_0, .string a0_1] 23 (0, 0)) (by (with_reducible repeat (first | refine blk_drewN ?_ _ | refine blk_drew ?_ | refine blk_alloc ?_ _)); exact BK177.out) hb); have n1_ := Aside0.mk (blk_below (g := gb178) (o := .cells #[.int .u64 a1_0, .int .u64 a1_1, .int .u64 a1_2, .int .u64 a1_3, .int .i64 a1_4] 26 (0, 0)) (by (with_reducible repeat (first | refine blk_drewN ?_ _ | refine blk_drew ?_ | refine blk_alloc ?_ _)); exact BK178.out) hb); have n2_ := Aside0.mk (below_step (by repeat (first | (with_reducible first | exact HB.out | apply below_alloc | apply pw_below_drewN | apply below_drew1 | refine below_set ?_ GE177.out | refine below_set ?_ GE178.out) | exact HB.out)) hb); have n3_ := Aside0.mk (hbox); have n4_ := Aside0.mk ((by rw [hg]; exact (below_size (by repeat (first | (with_reducible first | exact HB.out | apply below_alloc | apply pw_below_drewN | apply below_drew1 | refine below_set ?_ GE177.out | refine below_set ?_ GE178.out) | exact HB.out))) : w.heap.size ≤ gb179)); have n5_ := Aside0.mk ((by rw [hg]; exact (below_size (by repeat (first | (with_reducible first | exact HB.out | apply below_alloc | apply pw_below_drewN | apply below_drew1 | refine below_set ?_ GE177.out | refine below_set ?_ GE178.out) | exact HB.out))) : w.heap.size ≤ gb179)); have n6_ := Aside0.mk ((by rw [hg]; exact Nat.ne_of_lt (blk_lt (g := gb177) (o := .cells #[.string a0_0, .string a0_1] 23 (0, 0)) (by (with_reducible repeat (first | refine blk_drewN ?_ _ | refine blk_drew ?_ | refine blk_alloc ?_ _)); exact BK177.out)) : gb177 ≠ gb179)); have n7_ := Aside0.mk ((by rw [hg]; exact Nat.ne_of_gt (blk_lt (g := gb177) (o := .cells #[.string a0_0, .string a0_1] 23 (0, 0)) (by (with_reducible repeat (first | refine blk_drewN ?_ _ | refine blk_drew ?_ | refine blk_alloc ?_ _)); exact BK177.out)) : gb179 ≠ gb177)); have n8_ := Aside0.mk ((by rw [hg]; exact Nat.ne_of_lt (blk_lt (g := gb178) (o := .cells #[.int .u64 a1_0, .int .u64 a1_1, .int .u64 a1_2, .int .u64 a1_3, .int .i64 a1_4] 26 (0, 0)) (by (with_reducible repeat (first | refine blk_drewN ?_ _ | refine blk_drew ?_ | refine blk_alloc ?_ _)); exact BK178.out)) : gb178 ≠ gb179)); have n9_ := Aside0.mk ((by rw [hg]; exact Nat.ne_of_gt (blk_lt (g := gb178) (o := .cells #[.int .u64 a1_0, .int .u64 a1_1, .int .u64 a1_2, .int .u64 a1_3, .int .i64 a1_4] 26 (0, 0)) (by (with_reducible repeat (first | refine blk_drewN ?_ _ | refine blk_drew ?_ | refine blk_alloc ?_ _)); exact BK178.out)) : gb179 ≠ gb178)); clear BK177; clear BK178; clear HB; have BK177 := n0_; have BK178 := n1_; have HB := n2_; have BK179 := n3_; have GW179 := n4_; have GE179 := n5_; have NB177_179 := n6_; have NB179_177 := n7_; have NB178_179 := n8_; have NB179_178 := n9_; clear n0_ n1_ n2_ n3_ n4_ n5_ n6_ n7_ n8_ n9_; clear hb hbox hg; have hnb9 := NB177_178.out; have hnc9 := NB178_177.out; have hnb10 := NB177_179.out; have hnc10 := NB179_177.out; have hcz11_0 : w8.cell? ⟨gb177, 0, none⟩ = some (.string a0_0) := (blk_cell BK177.out 0).trans rfl; have hcz11_1 : w8.cell? ⟨gb177, 1, none⟩ = some (.string a0_1) := (blk_cell BK177.out 1).trans rfl; have hfz11_0 := blk_frozen BK177.out 0; have hfz11_1 := blk_frozen BK177.out 1) | ((with_reducible refine gate_callee (f := 27) rfl ?_); refine goesL_ (some 15) rfl rfl Try.func27 (by kernel_rfl) rfl #[.agg #[.string a0_0, .string a0_1]] rfl (by (try simp only [List.map_toArray, List.map_cons, List.map_nil]); first | done | rfl | (simp only [List.length_drop, List.length_take]; rfl)) ?_; (with_reducible refine (disk_newest.calls k a0_0 a0_1 t180 t181 t182 t183 t184 t185 t186 _ A4.out).mono ?_); rintro e w12 ⟨rfl, hb⟩; refine ⟨_, rfl, ?_⟩; have n0_ := Aside0.mk (blk_below (g := gb177) (o := .cells #[.string a0_0, .string a0_1] 23 (0, 0)) (by (with_reducible repeat (first | refine blk_drewN ?_ _ | refine blk_drew ?_ | refine blk_alloc ?_ _)); exact BK177.out) hb); have n1_ := Aside0.mk (blk_below (g := gb178) (o := .cells #[.int .u64 a1_0, .int .u64 a1_1, .int .u64 a1_2, .int .u64 a1_3, .int .i64 a1_4] 26 (0, 0)) (by (with_reducible repeat (first | refine blk_drewN ?_ _ | refine blk_drew ?_ | refine blk_alloc ?_ _)); exact BK178.out) hb); have n2_ := Aside0.mk (blk_below (g := gb179) (o := .cells #[.string (⟨#[]⟩ : ByteArray), .string (⟨#[]⟩ : ByteArray)] 23 (0, 0)) (by (with_reducible repeat (first | refine blk_drewN ?_ _ | refine blk_drew ?_ | refine blk_alloc ?_ _)); exact BK179.out) hb); have n3_ := Aside0.mk (below_step (by repeat (first | (with_reducible first | exact HB.out | apply below_alloc | apply pw_below_drewN | apply below_drew1 | refine below_set ?_ GE177.out | refine below_set ?_ GE178.out | refine below_set ?_ GE179.out) | exact HB.out)) hb); clear BK177; clear BK178; clear BK179; clear HB; have BK177 := n0_; have BK178 := n1_; have BK179 := n2_; have HB := n3_; clear n0_ n1_ n2_ n3_; (try clear hb); (try clear hb2); (try clear hk); (try clear hi)) | ((with_reducible refine gate_dst (N := 8) rfl ?_); refine box_event ?hg (N := 8) ?hd (cs := #[.int .u64 0, .int .u64 0, .int .u64 0, .int .u64 0, .int .i64 0]) (t := 26) ?hr ?_; (case hd => rfl); (case hg => rfl); (case hr => first | (go_simp; done) | (go_simp; rfl)); intro gb187 hg w13 hbox hb; have n0_ := Aside0.mk (blk_below (g := gb177) (o := .cells #[.string a0_0, .string a0_1] 23 (0, 0)) (by (with_reducible repeat (first | refine blk_drewN ?_ _ | refine blk_drew ?_ | refine blk_alloc ?_ _)); exact BK177.out) hb); have n1_ := Aside0.mk (blk_below (g := gb178) (o := .cells #[.int .u64 a1_0, .int .u64 a1_1, .int .u64 a1_2, .int .u64 a1_3, .int .i64 a1_4] 26 (0, 0)) (by (with_reducible repeat (first | refine blk_drewN ?_ _ | refine blk_drew ?_ | refine blk_alloc ?_ _)); exact BK178.out) hb); have n2_ := Aside0.mk (blk_below (g := gb179) (o := .cells #[.string (⟨#[]⟩ : ByteArray), .string (⟨#[]⟩ : ByteArray)] 23 (0, 0)) (by (with_reducible repeat (first | refine blk_drewN ?_ _ | refine blk_drew ?_ | refine blk_alloc ?_ _)); exact BK179.out) hb); have n3_ := Aside0.mk (below_step (by repeat (first | (with_reducible first | exact HB.out | apply below_alloc | apply pw_below_drewN | apply below_drew1 | refine below_set ?_ GE177.out | refine below_set ?_ GE178.out | refine below_set ?_ GE179.out) | exact HB.out)) hb); have n4_ := Aside0.mk (hbox); have n5_ := Aside0.mk ((by rw [hg]; exact (below_size (by repeat (first | (with_reducible first | exact HB.out | apply below_alloc | apply pw_below_drewN | apply below_drew1 | refine below_set ?_ GE177.out | refine below_set ?_ GE178.out | refine below_set ?_ GE179.out) | exact HB.out))) : w.heap.size ≤ gb187)); have n6_ := Aside0.mk ((by rw [hg]; exact (below_size (by repeat (first | (with_reducible first | exact HB.out | apply below_alloc | apply pw_below_drewN | apply below_drew1 | refine below_set ?_ GE177.out | refine below_set ?_ GE178.out | refine below_set ?_ GE179.out) | exact HB.out))) : w.heap.size ≤ gb187)); have n7_ := Aside0.mk ((by rw [hg]; exact Nat.ne_of_lt (blk_lt (g := gb177) (o := .cells #[.string a0_0, .string a0_1] 23 (0, 0)) (by (with_reducible repeat (first | refine blk_drewN ?_ _ | refine blk_drew ?_ | refine blk_alloc ?_ _)); exact BK177.out)) : gb177 ≠ gb187)); have n8_ := Aside0.mk ((by rw [hg]; exact Nat.ne_of_gt (blk_lt (g := gb177) (o := .cells #[.string a0_0, .string a0_1] 23 (0, 0)) (by (with_reducible repeat (first | refine blk_drewN ?_ _ | refine blk_drew ?_ | refine blk_alloc ?_ _)); exact BK177.out)) : gb187 ≠ gb177)); have n9_ := Aside0.mk ((by rw [hg]; exact Nat.ne_of_lt (blk_lt (g := gb178) (o := .cells #[.int .u64 a1_0, .int .u64 a1_1, .int .u64 a1_2, .int .u64 a1_3, .int .i64 a1_4] 26 (0, 0)) (by (with_reducible repeat (first | refine blk_drewN ?_ _ | refine blk_drew ?_ | refine blk_alloc ?_ _)); exact BK178.out)) : gb178 ≠ gb187)); have n10_ := Aside0.mk ((by rw [hg]; exact Nat.ne_of_gt (blk_lt (g := gb178) (o := .cells #[.int .u64 a1_0, .int .u64 a1_1, .int .u64 a1_2, .int .u64 a1_3, .int .i64 a1_4] 26 (0, 0)) (by (with_reducible repeat (first | refine blk_drewN ?_ _ | refine blk_drew ?_ | refine blk_alloc ?_ _)); exact BK178.out)) : gb187 ≠ gb178)); have n11_ := Aside0.mk ((by rw [hg]; exact Nat.ne_of_lt (blk_lt (g := gb179) (o := .cells #[.string (⟨#[]⟩ : ByteArray), .string (⟨#[]⟩ : ByteArray)] 23 (0, 0)) (by (with_reducible repeat (first | refine blk_drewN ?_ _ | refine blk_drew ?_ | refine blk_alloc ?_ _)); exact BK179.out)) : gb179 ≠ gb187)); have n12_ := Aside0.mk ((by rw [hg]; exact Nat.ne_of_gt (blk_lt (g := gb179) (o := .cells #[.string (⟨#[]⟩ : ByteArray), .string (⟨#[]⟩ : ByteArray)] 23 (0, 0)) (by (with_reducible repeat (first | refine blk_drewN ?_ _ | refine blk_drew ?_ | refine blk_alloc ?_ _)); exact BK179.out)) : gb187 ≠ gb179)); clear BK177; clear BK178; clear BK179; clear HB; have BK177 := n0_; have BK178 := n1_; have BK179 := n2_; have HB := n3_; have BK187 := n4_; have GW187 := n5_; have GE187 := n6_; have NB177_187 := n7_; have NB187_177 := n8_; have NB178_187 := n9_; have NB187_178 := n10_; have NB179_187 := n11_; have NB187_179 := n12_; clear n0_ n1_ n2_ n3_ n4_ n5_ n6_ n7_ n8_ n9_ n10_ n11_ n12_; clear hb hbox hg; have hnb14 := NB187_177.out; have hnc14 := NB177_187.out; have hnb15 := NB187_178.out; have hnc15 := NB178_187.out; have hnb16 := NB187_179.out; have hnc16 := NB179_187.out; have hcz17_0 : w13.cell? ⟨gb187, 0, none⟩ = some (.int .u64 0) := (blk_cell BK187.out 0).trans rfl; have hcz17_1 : w13.cell? ⟨gb187, 1, none⟩ = some (.int .u64 0) := (blk_cell BK187.out 1).trans rfl; have hcz17_2 : w13.cell? ⟨gb187, 2, none⟩ = some (.int .u64 0) := (blk_cell BK187.out 2).trans rfl; have hcz17_3 : w13.cell? ⟨gb187, 3, none⟩ = some (.int .u64 0) := (blk_cell BK187.out 3).trans rfl; have hcz17_4 : w13.cell? ⟨gb187, 4, none⟩ = some (.int .i64 0) := (blk_cell BK187.out 4).trans rfl; have hfz17_0 := blk_frozen BK187.out 0; have hfz17_1 := blk_frozen BK187.out 1; have hfz17_2 := blk_frozen BK187.out 2; have hfz17_3 := blk_frozen BK187.out 3; have hfz17_4 := blk_frozen BK187.out 4))
  (try simp only [Act.put, List.setIfInBounds_toArray, List.set_cons_zero, List.set_cons_succ])
  go_cut [19] (fun v19 wc => ∃ (kq : Nat) (x19_4 : Bool), v19 = .bool x19_4 ∧ Aside0 (disk_Tear.j0 kq a2 t185 t186 x19_4 a0_0 a0_1 a1_0 a1_1 a1_2 a1_3 a1_4 t180 t181 t182 t183 t184 = some (r1, r2, r3)) ∧ Aside0 (kq ≤ k) ∧ Aside0 (wc.heap[gb177]? = some (.cells #[.string a0_0, .string a0_1] 23 (0, 0))) ∧ Aside0 (wc.heap[gb178]? = some (.cells #[.int .u64 a1_0, .int .u64 a1_1, .int .u64 a1_2, .int .u64 a1_3, .int .i64 a1_4] 26 (0, 0))) ∧ Aside0 (wc.heap[gb179]? = some (.cells #[.string (⟨#[]⟩ : ByteArray), .string (⟨#[]⟩ : ByteArray)] 23 (0, 0))) ∧ Aside0 (wc.heap[gb187]? = some (.cells #[.int .u64 t180, .int .u64 t181, .int .u64 t182, .int .u64 t183, .int .i64 t184] 26 (0, 0))) ∧ Aside0 (Below w.heap.size w wc))
  case first =>
    have H := HC5.out
    clear HC5
    replace H := Option.bind_eq_some_iff.mp H
    obtain ⟨t188, A180, H⟩ := H
    replace H : (if t188 = true then (disk_Tear.j0 k a2 t185 t186 (decide (a2 < 0)) a0_0 a0_1 a1_0 a1_1 a1_2 a1_3 a1_4 t180 t181 t182 t183 t184) else (disk_Tear.j0 k a2 t185 t186 true a0_0 a0_1 a1_0 a1_1 a1_2 a1_3 a1_4 t180 t181 t182 t183 t184)) = some (r1, r2, r3) := H
    have A18 := Aside0.mk A180
    clear A180
    by_cases c19 : t188 = true
    · subst c19
      have H1 : (disk_Tear.j0 k a2 t185 t186 (decide (a2 < 0)) a0_0 a0_1 a1_0 a1_1 a1_2 a1_3 a1_4 t180 t181 t182 t183 t184) = some (r1, r2, r3) := by rw [if_pos rfl] at H; exact H
      clear H
      have H := H1
      clear H1
      have H' := Aside0.mk H
      clear H
      have hnb20 := NB178_177.out
      have hnc20 := NB177_178.out
      have hnb21 := NB178_179.out
      have hnc21 := NB179_178.out
      have hnb22 := NB178_187.out
      have hnc22 := NB187_178.out
      have hcz23_0 : w13.cell? ⟨gb178, 0, none⟩ = some (.int .u64 a1_0) := (blk_cell BK178.out 0).trans rfl
      have hcz23_1 : w13.cell? ⟨gb178, 1, none⟩ = some (.int .u64 a1_1) := (blk_cell BK178.out 1).trans rfl
      have hcz23_2 : w13.cell? ⟨gb178, 2, none⟩ = some (.int .u64 a1_2) := (blk_cell BK178.out 2).trans rfl
      have hcz23_3 : w13.cell? ⟨gb178, 3, none⟩ = some (.int .u64 a1_3) := (blk_cell BK178.out 3).trans rfl
      have hcz23_4 : w13.cell? ⟨gb178, 4, none⟩ = some (.int .i64 a1_4) := (blk_cell BK178.out 4).trans rfl
      have hfz23_0 := blk_frozen BK178.out 0
      have hfz23_1 := blk_frozen BK178.out 1
      have hfz23_2 := blk_frozen BK178.out 2
      have hfz23_3 := blk_frozen BK178.out 3
      have hfz23_4 := blk_frozen BK178.out 4
      go_wp2_with (first | ((with_reducible refine gate_callee (f := 29) rfl ?_); refine goesL_ (some 21) rfl rfl Try.func29 (by kernel_rfl) rfl #[.agg #[.int .u64 a1_0, .int .u64 a1_1, .int .u64 a1_2, .int .u64 a1_3, .int .i64 a1_4]] rfl (by (try simp only [List.map_toArray, List.map_cons, List.map_nil]); first | done | rfl | (simp only [List.length_drop, List.length_take]; rfl)) ?_; (with_reducible refine (disk_may.calls a1_0 a1_1 a1_2 a1_3 a1_4 true _ A18.out).mono ?_); rintro e w24 ⟨rfl, hb⟩; refine ⟨_, rfl, ?_⟩; have n0_ := Aside0.mk (blk_below (g := gb177) (o := .cells #[.string a0_0, .string a0_1] 23 (0, 0)) (by (with_reducible repeat (first | refine blk_drewN ?_ _ | refine blk_drew ?_ | refine blk_alloc ?_ _)); refine blk_far ?_ NB177_187.out _; (with_reducible repeat (first | refine blk_drewN ?_ _ | refine blk_drew ?_ | refine blk_alloc ?_ _)); refine blk_far ?_ NB177_187.out _; (with_reducible repeat (first | refine blk_drewN ?_ _ | refine blk_drew ?_ | refine blk_alloc ?_ _)); refine blk_far ?_ NB177_187.out _; (with_reducible repeat (first | refine blk_drewN ?_ _ | refine blk_drew ?_ | refine blk_alloc ?_ _)); refine blk_far ?_ NB177_187.out _; (with_reducible repeat (first | refine blk_drewN ?_ _ | refine blk_drew ?_ | refine blk_alloc ?_ _)); refine blk_far ?_ NB177_187.out _; (with_reducible repeat (first | refine blk_drewN ?_ _ | refine blk_drew ?_ | refine blk_alloc ?_ _)); exact BK177.out) hb); have n1_ := Aside0.mk (blk_below (g := gb178) (o := .cells #[.int .u64 a1_0, .int .u64 a1_1, .int .u64 a1_2, .int .u64 a1_3, .int .i64 a1_4] 26 (0, 0)) (by (with_reducible repeat (first | refine blk_drewN ?_ _ | refine blk_drew ?_ | refine blk_alloc ?_ _)); refine blk_far ?_ NB178_187.out _; (with_reducible repeat (first | refine blk_drewN ?_ _ | refine blk_drew ?_ | refine blk_alloc ?_ _)); refine blk_far ?_ NB178_187.out _; (with_reducible repeat (first | refine blk_drewN ?_ _ | refine blk_drew ?_ | refine blk_alloc ?_ _)); refine blk_far ?_ NB178_187.out _; (with_reducible repeat (first | refine blk_drewN ?_ _ | refine blk_drew ?_ | refine blk_alloc ?_ _)); refine blk_far ?_ NB178_187.out _; (with_reducible repeat (first | refine blk_drewN ?_ _ | refine blk_drew ?_ | refine blk_alloc ?_ _)); refine blk_far ?_ NB178_187.out _; (with_reducible repeat (first | refine blk_drewN ?_ _ | refine blk_drew ?_ | refine blk_alloc ?_ _)); exact BK178.out) hb); have n2_ := Aside0.mk (blk_below (g := gb179) (o := .cells #[.string (⟨#[]⟩ : ByteArray), .string (⟨#[]⟩ : ByteArray)] 23 (0, 0)) (by (with_reducible repeat (first | refine blk_drewN ?_ _ | refine blk_drew ?_ | refine blk_alloc ?_ _)); refine blk_far ?_ NB179_187.out _; (with_reducible repeat (first | refine blk_drewN ?_ _ | refine blk_drew ?_ | refine blk_alloc ?_ _)); refine blk_far ?_ NB179_187.out _; (with_reducible repeat (first | refine blk_drewN ?_ _ | refine blk_drew ?_ | refine blk_alloc ?_ _)); refine blk_far ?_ NB179_187.out _; (with_reducible repeat (first | refine blk_drewN ?_ _ | refine blk_drew ?_ | refine blk_alloc ?_ _)); refine blk_far ?_ NB179_187.out _; (with_reducible repeat (first | refine blk_drewN ?_ _ | refine blk_drew ?_ | refine blk_alloc ?_ _)); refine blk_far ?_ NB179_187.out _; (with_reducible repeat (first | refine blk_drewN ?_ _ | refine blk_drew ?_ | refine blk_alloc ?_ _)); exact BK179.out) hb); have n3_ := Aside0.mk (blk_below (g := gb187) (o := .cells #[.int .u64 t180, .int .u64 t181, .int .u64 t182, .int .u64 t183, .int .i64 t184] 26 (0, 0)) (by (with_reducible repeat (first | refine blk_drewN ?_ _ | refine blk_drew ?_ | refine blk_alloc ?_ _)); refine blk_put (cs := #[.int .u64 t180, .int .u64 t181, .int .u64 t182, .int .u64 t183, .int .i64 0]) ?_ 4 _ rfl; (with_reducible repeat (first | refine blk_drewN ?_ _ | refine blk_drew ?_ | refine blk_alloc ?_ _)); refine blk_put (cs := #[.int .u64 t180, .int .u64 t181, .int .u64 t182, .int .u64 0, .int .i64 0]) ?_ 3 _ rfl; (with_reducible repeat (first | refine blk_drewN ?_ _ | refine blk_drew ?_ | refine blk_alloc ?_ _)); refine blk_put (cs := #[.int .u64 t180, .int .u64 t181, .int .u64 0, .int .u64 0, .int .i64 0]) ?_ 2 _ rfl; (with_reducible repeat (first | refine blk_drewN ?_ _ | refine blk_drew ?_ | refine blk_alloc ?_ _)); refine blk_put (cs := #[.int .u64 t180, .int .u64 0, .int .u64 0, .int .u64 0, .int .i64 0]) ?_ 1 _ rfl; (with_reducible repeat (first | refine blk_drewN ?_ _ | refine blk_drew ?_ | refine blk_alloc ?_ _)); refine blk_put (cs := #[.int .u64 0, .int .u64 0, .int .u64 0, .int .u64 0, .int .i64 0]) ?_ 0 _ rfl; (with_reducible repeat (first | refine blk_drewN ?_ _ | refine blk_drew ?_ | refine blk_alloc ?_ _)); exact BK187.out) hb); have n4_ := Aside0.mk (below_step (by repeat (first | (with_reducible first | exact HB.out | apply below_alloc | apply pw_below_drewN | apply below_drew1 | refine below_set ?_ GE177.out | refine below_set ?_ GE178.out | refine below_set ?_ GE179.out | refine below_set ?_ GE187.out) | exact HB.out)) hb); clear BK177; clear BK178; clear BK179; clear BK187; clear HB; have BK177 := n0_; have BK178 := n1_; have BK179 := n2_; have BK187 := n3_; have HB := n4_; clear n0_ n1_ n2_ n3_ n4_; (try clear hb); (try clear hb2); (try clear hk); (try clear hi)))
      go_meet
      case rel => exact ⟨_, (decide (a2 < 0)), (by first | rfl | (simp; done) | (simp [*]; done)), H', ⟨by first | omega | exact Nat.le_refl _⟩, ⟨by (with_reducible repeat (first | refine blk_drewN ?_ _ | refine blk_drew ?_ | refine blk_alloc ?_ _)); exact BK177.out⟩, ⟨by (with_reducible repeat (first | refine blk_drewN ?_ _ | refine blk_drew ?_ | refine blk_alloc ?_ _)); exact BK178.out⟩, ⟨by (with_reducible repeat (first | refine blk_drewN ?_ _ | refine blk_drew ?_ | refine blk_alloc ?_ _)); exact BK179.out⟩, ⟨by (with_reducible repeat (first | refine blk_drewN ?_ _ | refine blk_drew ?_ | refine blk_alloc ?_ _)); exact BK187.out⟩, ⟨by repeat (first | (with_reducible first | exact HB.out | apply below_alloc | apply pw_below_drewN | apply below_drew1 | refine below_set ?_ GE177.out | refine below_set ?_ GE178.out | refine below_set ?_ GE179.out | refine below_set ?_ GE187.out) | exact HB.out)⟩⟩
    · replace c19 := Bool.eq_false_iff.mpr c19
      subst c19
      have H1 : (disk_Tear.j0 k a2 t185 t186 true a0_0 a0_1 a1_0 a1_1 a1_2 a1_3 a1_4 t180 t181 t182 t183 t184) = some (r1, r2, r3) := by rw [if_neg (show ¬ (false = true) by decide)] at H; exact H
      clear H
      have H := H1
      clear H1
      have H' := Aside0.mk H
      clear H
      have hnb25 := NB178_177.out
      have hnc25 := NB177_178.out
      have hnb26 := NB178_179.out
      have hnc26 := NB179_178.out
      have hnb27 := NB178_187.out
      have hnc27 := NB187_178.out
      have hcz28_0 : w13.cell? ⟨gb178, 0, none⟩ = some (.int .u64 a1_0) := (blk_cell BK178.out 0).trans rfl
      have hcz28_1 : w13.cell? ⟨gb178, 1, none⟩ = some (.int .u64 a1_1) := (blk_cell BK178.out 1).trans rfl
      have hcz28_2 : w13.cell? ⟨gb178, 2, none⟩ = some (.int .u64 a1_2) := (blk_cell BK178.out 2).trans rfl
      have hcz28_3 : w13.cell? ⟨gb178, 3, none⟩ = some (.int .u64 a1_3) := (blk_cell BK178.out 3).trans rfl
      have hcz28_4 : w13.cell? ⟨gb178, 4, none⟩ = some (.int .i64 a1_4) := (blk_cell BK178.out 4).trans rfl
      have hfz28_0 := blk_frozen BK178.out 0
      have hfz28_1 := blk_frozen BK178.out 1
      have hfz28_2 := blk_frozen BK178.out 2
      have hfz28_3 := blk_frozen BK178.out 3
      have hfz28_4 := blk_frozen BK178.out 4
      go_wp2_with (first | ((with_reducible refine gate_callee (f := 29) rfl ?_); refine goesL_ (some 21) rfl rfl Try.func29 (by kernel_rfl) rfl #[.agg #[.int .u64 a1_0, .int .u64 a1_1, .int .u64 a1_2, .int .u64 a1_3, .int .i64 a1_4]] rfl (by (try simp only [List.map_toArray, List.map_cons, List.map_nil]); first | done | rfl | (simp only [List.length_drop, List.length_take]; rfl)) ?_; (with_reducible refine (disk_may.calls a1_0 a1_1 a1_2 a1_3 a1_4 false _ A18.out).mono ?_); rintro e w29 ⟨rfl, hb⟩; refine ⟨_, rfl, ?_⟩; have n0_ := Aside0.mk (blk_below (g := gb177) (o := .cells #[.string a0_0, .string a0_1] 23 (0, 0)) (by (with_reducible repeat (first | refine blk_drewN ?_ _ | refine blk_drew ?_ | refine blk_alloc ?_ _)); refine blk_far ?_ NB177_187.out _; (with_reducible repeat (first | refine blk_drewN ?_ _ | refine blk_drew ?_ | refine blk_alloc ?_ _)); refine blk_far ?_ NB177_187.out _; (with_reducible repeat (first | refine blk_drewN ?_ _ | refine blk_drew ?_ | refine blk_alloc ?_ _)); refine blk_far ?_ NB177_187.out _; (with_reducible repeat (first | refine blk_drewN ?_ _ | refine blk_drew ?_ | refine blk_alloc ?_ _)); refine blk_far ?_ NB177_187.out _; (with_reducible repeat (first | refine blk_drewN ?_ _ | refine blk_drew ?_ | refine blk_alloc ?_ _)); refine blk_far ?_ NB177_187.out _; (with_reducible repeat (first | refine blk_drewN ?_ _ | refine blk_drew ?_ | refine blk_alloc ?_ _)); exact BK177.out) hb); have n1_ := Aside0.mk (blk_below (g := gb178) (o := .cells #[.int .u64 a1_0, .int .u64 a1_1, .int .u64 a1_2, .int .u64 a1_3, .int .i64 a1_4] 26 (0, 0)) (by (with_reducible repeat (first | refine blk_drewN ?_ _ | refine blk_drew ?_ | refine blk_alloc ?_ _)); refine blk_far ?_ NB178_187.out _; (with_reducible repeat (first | refine blk_drewN ?_ _ | refine blk_drew ?_ | refine blk_alloc ?_ _)); refine blk_far ?_ NB178_187.out _; (with_reducible repeat (first | refine blk_drewN ?_ _ | refine blk_drew ?_ | refine blk_alloc ?_ _)); refine blk_far ?_ NB178_187.out _; (with_reducible repeat (first | refine blk_drewN ?_ _ | refine blk_drew ?_ | refine blk_alloc ?_ _)); refine blk_far ?_ NB178_187.out _; (with_reducible repeat (first | refine blk_drewN ?_ _ | refine blk_drew ?_ | refine blk_alloc ?_ _)); refine blk_far ?_ NB178_187.out _; (with_reducible repeat (first | refine blk_drewN ?_ _ | refine blk_drew ?_ | refine blk_alloc ?_ _)); exact BK178.out) hb); have n2_ := Aside0.mk (blk_below (g := gb179) (o := .cells #[.string (⟨#[]⟩ : ByteArray), .string (⟨#[]⟩ : ByteArray)] 23 (0, 0)) (by (with_reducible repeat (first | refine blk_drewN ?_ _ | refine blk_drew ?_ | refine blk_alloc ?_ _)); refine blk_far ?_ NB179_187.out _; (with_reducible repeat (first | refine blk_drewN ?_ _ | refine blk_drew ?_ | refine blk_alloc ?_ _)); refine blk_far ?_ NB179_187.out _; (with_reducible repeat (first | refine blk_drewN ?_ _ | refine blk_drew ?_ | refine blk_alloc ?_ _)); refine blk_far ?_ NB179_187.out _; (with_reducible repeat (first | refine blk_drewN ?_ _ | refine blk_drew ?_ | refine blk_alloc ?_ _)); refine blk_far ?_ NB179_187.out _; (with_reducible repeat (first | refine blk_drewN ?_ _ | refine blk_drew ?_ | refine blk_alloc ?_ _)); refine blk_far ?_ NB179_187.out _; (with_reducible repeat (first | refine blk_drewN ?_ _ | refine blk_drew ?_ | refine blk_alloc ?_ _)); exact BK179.out) hb); have n3_ := Aside0.mk (blk_below (g := gb187) (o := .cells #[.int .u64 t180, .int .u64 t181, .int .u64 t182, .int .u64 t183, .int .i64 t184] 26 (0, 0)) (by (with_reducible repeat (first | refine blk_drewN ?_ _ | refine blk_drew ?_ | refine blk_alloc ?_ _)); refine blk_put (cs := #[.int .u64 t180, .int .u64 t181, .int .u64 t182, .int .u64 t183, .int .i64 0]) ?_ 4 _ rfl; (with_reducible repeat (first | refine blk_drewN ?_ _ | refine blk_drew ?_ | refine blk_alloc ?_ _)); refine blk_put (cs := #[.int .u64 t180, .int .u64 t181, .int .u64 t182, .int .u64 0, .int .i64 0]) ?_ 3 _ rfl; (with_reducible repeat (first | refine blk_drewN ?_ _ | refine blk_drew ?_ | refine blk_alloc ?_ _)); refine blk_put (cs := #[.int .u64 t180, .int .u64 t181, .int .u64 0, .int .u64 0, .int .i64 0]) ?_ 2 _ rfl; (with_reducible repeat (first | refine blk_drewN ?_ _ | refine blk_drew ?_ | refine blk_alloc ?_ _)); refine blk_put (cs := #[.int .u64 t180, .int .u64 0, .int .u64 0, .int .u64 0, .int .i64 0]) ?_ 1 _ rfl; (with_reducible repeat (first | refine blk_drewN ?_ _ | refine blk_drew ?_ | refine blk_alloc ?_ _)); refine blk_put (cs := #[.int .u64 0, .int .u64 0, .int .u64 0, .int .u64 0, .int .i64 0]) ?_ 0 _ rfl; (with_reducible repeat (first | refine blk_drewN ?_ _ | refine blk_drew ?_ | refine blk_alloc ?_ _)); exact BK187.out) hb); have n4_ := Aside0.mk (below_step (by repeat (first | (with_reducible first | exact HB.out | apply below_alloc | apply pw_below_drewN | apply below_drew1 | refine below_set ?_ GE177.out | refine below_set ?_ GE178.out | refine below_set ?_ GE179.out | refine below_set ?_ GE187.out) | exact HB.out)) hb); clear BK177; clear BK178; clear BK179; clear BK187; clear HB; have BK177 := n0_; have BK178 := n1_; have BK179 := n2_; have BK187 := n3_; have HB := n4_; clear n0_ n1_ n2_ n3_ n4_; (try clear hb); (try clear hb2); (try clear hk); (try clear hi)))
      go_meet
      case rel => exact ⟨_, (true), (by first | rfl | (simp; done) | (simp [*]; done)), H', ⟨by first | omega | exact Nat.le_refl _⟩, ⟨by (with_reducible repeat (first | refine blk_drewN ?_ _ | refine blk_drew ?_ | refine blk_alloc ?_ _)); exact BK177.out⟩, ⟨by (with_reducible repeat (first | refine blk_drewN ?_ _ | refine blk_drew ?_ | refine blk_alloc ?_ _)); exact BK178.out⟩, ⟨by (with_reducible repeat (first | refine blk_drewN ?_ _ | refine blk_drew ?_ | refine blk_alloc ?_ _)); exact BK179.out⟩, ⟨by (with_reducible repeat (first | refine blk_drewN ?_ _ | refine blk_drew ?_ | refine blk_alloc ?_ _)); exact BK187.out⟩, ⟨by repeat (first | (with_reducible first | exact HB.out | apply below_alloc | apply pw_below_drewN | apply below_drew1 | refine below_set ?_ GE177.out | refine below_set ?_ GE178.out | refine below_set ?_ GE179.out | refine below_set ?_ GE187.out) | exact HB.out)⟩⟩
  case rest =>
    clear HC5
    try clear c1
    try clear c2
    try clear p2
    try clear c9
    try clear c10
    try clear c14
    try clear c15
    try clear c16
    try clear c19
    try clear c20
    try clear c21
    try clear c22
    try clear c25
    try clear c26
    try clear c27
    try clear c29
    try clear hcz11_0
    try clear hcz11_1
    try clear hcz17_0
    try clear hcz17_1
    try clear hcz17_2
    try clear hcz17_3
    try clear hcz17_4
    try clear hcz23_0
    try clear hcz23_1
    try clear hcz23_2
    try clear hcz23_3
    try clear hcz23_4
    try clear hcz28_0
    try clear hcz28_1
    try clear hcz28_2
    try clear hcz28_3
    try clear hcz28_4
    try clear hfz11_0
    try clear hfz11_1
    try clear hfz17_0
    try clear hfz17_1
    try clear hfz17_2
    try clear hfz17_3
    try clear hfz17_4
    try clear hfz23_0
    try clear hfz23_1
    try clear hfz23_2
    try clear hfz23_3
    try clear hfz23_4
    try clear hfz28_0
    try clear hfz28_1
    try clear hfz28_2
    try clear hfz28_3
    try clear hfz28_4
    obtain ⟨kq, x19_4, rfl, HA, HJ4, BK177, BK178, BK179, BK187, HB⟩ := hcut
    cases kq with
    | zero => exact absurd HA.out (by simp [disk_Tear.j0])
    | succ kj4 =>
      have H := HA.out
      clear HA
      simp only [disk_Tear.j0] at H
      by_cases c30 : x19_4 = true
      · subst c30
        have H1 : (some (a0_0, a0_1, 1)) = some (r1, r2, r3) := by rw [if_pos rfl] at H; exact H
        clear H
        have H := H1
        clear H1
        simp only [Option.some.injEq, Prod.mk.injEq] at H
        obtain ⟨rfl, rfl, rfl⟩ := H
        have hnb31 := NB177_178.out
        have hnc31 := NB178_177.out
        have hnb32 := NB177_179.out
        have hnc32 := NB179_177.out
        have hnb33 := NB177_187.out
        have hnc33 := NB187_177.out
        have hcz34_0 : wc.cell? ⟨gb177, 0, none⟩ = some (.string a0_0) := (blk_cell BK177.out 0).trans rfl
        have hcz34_1 : wc.cell? ⟨gb177, 1, none⟩ = some (.string a0_1) := (blk_cell BK177.out 1).trans rfl
        have hfz34_0 := blk_frozen BK177.out 0
        have hfz34_1 := blk_frozen BK177.out 1
        have hnb35 := NB179_178.out
        have hnc35 := NB178_179.out
        have hnb36 := NB179_187.out
        have hnc36 := NB187_179.out
        have hcz37_0 : wc.cell? ⟨gb179, 0, none⟩ = some (.string (⟨#[]⟩ : ByteArray)) := (blk_cell BK179.out 0).trans rfl
        have hcz37_1 : wc.cell? ⟨gb179, 1, none⟩ = some (.string (⟨#[]⟩ : ByteArray)) := (blk_cell BK179.out 1).trans rfl
        have hfz37_0 := blk_frozen BK179.out 0
        have hfz37_1 := blk_frozen BK179.out 1
        go_wp2
        refine bodyPost_ret (results_ct rfl _ _ gb179 23 #[.string a0_0, .string a0_1] (0, 0) _ rfl (by (with_reducible repeat (first | refine blk_drewN ?_ _ | refine blk_drew ?_ | refine blk_alloc ?_ _)); refine blk_put (cs := #[.string a0_0, .string (⟨#[]⟩ : ByteArray)]) ?_ 1 _ rfl; (with_reducible repeat (first | refine blk_drewN ?_ _ | refine blk_drew ?_ | refine blk_alloc ?_ _)); refine blk_put (cs := #[.string (⟨#[]⟩ : ByteArray), .string (⟨#[]⟩ : ByteArray)]) ?_ 0 _ rfl; (with_reducible repeat (first | refine blk_drewN ?_ _ | refine blk_drew ?_ | refine blk_alloc ?_ _)); exact BK179.out) Try.underlying23 rfl (by kernel_rfl)) rfl ?_
        exact ⟨by first | rfl | (simp [errW_none, errW_some] <;> rfl) | (simp [*, errW_none, errW_some] <;> rfl), by repeat (first | (with_reducible first | exact HB.out | apply below_alloc | apply pw_below_drewN | apply below_drew1 | refine below_set ?_ GE177.out | refine below_set ?_ GE178.out | refine below_set ?_ GE179.out | refine below_set ?_ GE187.out) | exact HB.out)⟩
      · replace c30 := Bool.eq_false_iff.mpr c30
        subst c30
        have H1 : (if t180 = 18446744073709551615 then (some (a0_0, a0_1, 4)) else ((disk_Lay.f kj4 (IntKind.u64.wrap (t180 + 1)) a1_1 a1_2 a1_3 a1_4).bind fun bt189 => (if bt189.2 = 0 then (if 0 ≤ (mn a2 (bt189.1.size : Int)) then (if (mn a2 (bt189.1.size : Int)) ≤ (bt189.1.size : Int) then (if t186 = true then (if t185 = true then (some (bt189.1.extract 0 ((mn a2 (bt189.1.size : Int)) : Int).toNat, a0_1, 0)) else (some (a0_0, bt189.1.extract 0 ((mn a2 (bt189.1.size : Int)) : Int).toNat, 0))) else (some (bt189.1.extract 0 ((mn a2 (bt189.1.size : Int)) : Int).toNat, a0_1, 0))) else (none)) else (none)) else (some (a0_0, a0_1, bt189.2))))) = some (r1, r2, r3) := by rw [if_neg (show ¬ (false = true) by decide)] at H; exact H
        clear H
        have H := H1
        clear H1
        by_cases c38 : t180 = 18446744073709551615
        · rw [if_pos c38] at H
          have c38b0 : (t180 == 18446744073709551615) = true := beq_iff_eq.mpr c38
          have c38b1 : (t180 != 18446744073709551615) = false := bne_eq_false_iff_eq.mpr c38
          clear c38
          simp only [Option.some.injEq, Prod.mk.injEq] at H
          obtain ⟨rfl, rfl, rfl⟩ := H
          have hnb39 := NB187_177.out
          have hnc39 := NB177_187.out
          have hnb40 := NB187_178.out
          have hnc40 := NB178_187.out
          have hnb41 := NB187_179.out
          have hnc41 := NB179_187.out
          have hcz42_0 : wc.cell? ⟨gb187, 0, none⟩ = some (.int .u64 t180) := (blk_cell BK187.out 0).trans rfl
          have hcz42_1 : wc.cell? ⟨gb187, 1, none⟩ = some (.int .u64 t181) := (blk_cell BK187.out 1).trans rfl
          have hcz42_2 : wc.cell? ⟨gb187, 2, none⟩ = some (.int .u64 t182) := (blk_cell BK187.out 2).trans rfl
          have hcz42_3 : wc.cell? ⟨gb187, 3, none⟩ = some (.int .u64 t183) := (blk_cell BK187.out 3).trans rfl
          have hcz42_4 : wc.cell? ⟨gb187, 4, none⟩ = some (.int .i64 t184) := (blk_cell BK187.out 4).trans rfl
          have hfz42_0 := blk_frozen BK187.out 0
          have hfz42_1 := blk_frozen BK187.out 1
          have hfz42_2 := blk_frozen BK187.out 2
          have hfz42_3 := blk_frozen BK187.out 3
          have hfz42_4 := blk_frozen BK187.out 4
          have hnb43 := NB177_178.out
          have hnc43 := NB178_177.out
          have hnb44 := NB177_179.out
          have hnc44 := NB179_177.out
          have hcz45_0 : wc.cell? ⟨gb177, 0, none⟩ = some (.string a0_0) := (blk_cell BK177.out 0).trans rfl
          have hcz45_1 : wc.cell? ⟨gb177, 1, none⟩ = some (.string a0_1) := (blk_cell BK177.out 1).trans rfl
          have hfz45_0 := blk_frozen BK177.out 0
          have hfz45_1 := blk_frozen BK177.out 1
          have hnb46 := NB179_178.out
          have hnc46 := NB178_179.out
          have hcz47_0 : wc.cell? ⟨gb179, 0, none⟩ = some (.string (⟨#[]⟩ : ByteArray)) := (blk_cell BK179.out 0).trans rfl
          have hcz47_1 : wc.cell? ⟨gb179, 1, none⟩ = some (.string (⟨#[]⟩ : ByteArray)) := (blk_cell BK179.out 1).trans rfl
          have hfz47_0 := blk_frozen BK179.out 0
          have hfz47_1 := blk_frozen BK179.out 1
          go_wp2
          refine bodyPost_ret (results_ct rfl _ _ gb179 23 #[.string a0_0, .string a0_1] (0, 0) _ rfl (by (with_reducible repeat (first | refine blk_drewN ?_ _ | refine blk_drew ?_ | refine blk_alloc ?_ _)); refine blk_put (cs := #[.string a0_0, .string (⟨#[]⟩ : ByteArray)]) ?_ 1 _ rfl; (with_reducible repeat (first | refine blk_drewN ?_ _ | refine blk_drew ?_ | refine blk_alloc ?_ _)); refine blk_put (cs := #[.string (⟨#[]⟩ : ByteArray), .string (⟨#[]⟩ : ByteArray)]) ?_ 0 _ rfl; (with_reducible repeat (first | refine blk_drewN ?_ _ | refine blk_drew ?_ | refine blk_alloc ?_ _)); exact BK179.out) Try.underlying23 rfl (by kernel_rfl)) rfl ?_
          exact ⟨by first | rfl | (simp [errW_none, errW_some] <;> rfl) | (simp [*, errW_none, errW_some] <;> rfl), by repeat (first | (with_reducible first | exact HB.out | apply below_alloc | apply pw_below_drewN | apply below_drew1 | refine below_set ?_ GE177.out | refine below_set ?_ GE178.out | refine below_set ?_ GE179.out | refine below_set ?_ GE187.out) | exact HB.out)⟩
        · rw [if_neg c38] at H
          have c38b0 : (t180 == 18446744073709551615) = false := beq_eq_false_iff_ne.mpr c38
          have c38b1 : (t180 != 18446744073709551615) = true := bne_iff_ne.mpr c38
          replace H := Option.bind_eq_some_iff.mp H
          obtain ⟨⟨t189, t190⟩, A480, H⟩ := H
          replace H : (if t190 = 0 then (if 0 ≤ (mn a2 (t189.size : Int)) then (if (mn a2 (t189.size : Int)) ≤ (t189.size : Int) then (if t186 = true then (if t185 = true then (some (t189.extract 0 ((mn a2 (t189.size : Int)) : Int).toNat, a0_1, 0)) else (some (a0_0, t189.extract 0 ((mn a2 (t189.size : Int)) : Int).toNat, 0))) else (some (t189.extract 0 ((mn a2 (t189.size : Int)) : Int).toNat, a0_1, 0))) else (none)) else (none)) else (some (a0_0, a0_1, t190))) = some (r1, r2, r3) := H
          have A48 := Aside0.mk A480
          clear A480
          by_cases c49 : t190 = 0
          · rw [if_pos c49] at H
            have c49b0 : (t190 == 0) = true := beq_iff_eq.mpr c49
            have c49b1 : (t190 != 0) = false := bne_eq_false_iff_eq.mpr c49
            clear c49
            obtain ⟨ji50, hji50⟩ : ∃ j_ : Int, (mn a2 (t189.size : Int)) = j_ := ⟨_, rfl⟩
            replace H : (if 0 ≤ (ji50) then (if (ji50) ≤ (t189.size : Int) then (if t186 = true then (if t185 = true then (some (t189.extract 0 ((ji50) : Int).toNat, a0_1, 0)) else (some (a0_0, t189.extract 0 ((ji50) : Int).toNat, 0))) else (some (t189.extract 0 ((ji50) : Int).toNat, a0_1, 0))) else (none)) else (none)) = some (r1, r2, r3) := by first | (rw [hji50] at H; exact H) | (simp only [hji50] at H ⊢; exact H)
            (try rw [hji50] at A48)
            have hji50_ : (if (t189.size : Int) < a2 then (t189.size : Int) else a2) = ji50 := hji50
            by_cases c51 : 0 ≤ (ji50)
            · rw [if_pos c51] at H
              have c51b0 := eq_true c51
              have c51b1 : decide (0 ≤ (ji50)) = true := decide_eq_true c51
              clear c51
              by_cases c52 : (ji50) ≤ (t189.size : Int)
              · rw [if_pos c52] at H
                have c52b0 := eq_true c52
                have c52b1 : decide ((ji50) ≤ (t189.size : Int)) = true := decide_eq_true c52
                clear c52
                by_cases c53 : t186 = true
                · subst c53
                  have H1 : (if t185 = true then (some (t189.extract 0 ((ji50) : Int).toNat, a0_1, 0)) else (some (a0_0, t189.extract 0 ((ji50) : Int).toNat, 0))) = some (r1, r2, r3) := by rw [if_pos rfl] at H; exact H
                  clear H
                  have H := H1
                  clear H1
                  by_cases c54 : t185 = true
                  · subst c54
                    have H1 : (some (t189.extract 0 ((ji50) : Int).toNat, a0_1, 0)) = some (r1, r2, r3) := by rw [if_pos rfl] at H; exact H
                    clear H
                    have H := H1
                    clear H1
                    simp only [Option.some.injEq, Prod.mk.injEq] at H
                    obtain ⟨rfl, rfl, rfl⟩ := H
                    have hnb55 := NB187_177.out
                    have hnc55 := NB177_187.out
                    have hnb56 := NB187_178.out
                    have hnc56 := NB178_187.out
                    have hnb57 := NB187_179.out
                    have hnc57 := NB179_187.out
                    have hcz58_0 : wc.cell? ⟨gb187, 0, none⟩ = some (.int .u64 t180) := (blk_cell BK187.out 0).trans rfl
                    have hcz58_1 : wc.cell? ⟨gb187, 1, none⟩ = some (.int .u64 t181) := (blk_cell BK187.out 1).trans rfl
                    have hcz58_2 : wc.cell? ⟨gb187, 2, none⟩ = some (.int .u64 t182) := (blk_cell BK187.out 2).trans rfl
                    have hcz58_3 : wc.cell? ⟨gb187, 3, none⟩ = some (.int .u64 t183) := (blk_cell BK187.out 3).trans rfl
                    have hcz58_4 : wc.cell? ⟨gb187, 4, none⟩ = some (.int .i64 t184) := (blk_cell BK187.out 4).trans rfl
                    have hfz58_0 := blk_frozen BK187.out 0
                    have hfz58_1 := blk_frozen BK187.out 1
                    have hfz58_2 := blk_frozen BK187.out 2
                    have hfz58_3 := blk_frozen BK187.out 3
                    have hfz58_4 := blk_frozen BK187.out 4
                    have hnb59 := NB178_177.out
                    have hnc59 := NB177_178.out
                    have hnb60 := NB178_179.out
                    have hnc60 := NB179_178.out
                    have hcz61_0 : wc.cell? ⟨gb178, 0, none⟩ = some (.int .u64 a1_0) := (blk_cell BK178.out 0).trans rfl
                    have hcz61_1 : wc.cell? ⟨gb178, 1, none⟩ = some (.int .u64 a1_1) := (blk_cell BK178.out 1).trans rfl
                    have hcz61_2 : wc.cell? ⟨gb178, 2, none⟩ = some (.int .u64 a1_2) := (blk_cell BK178.out 2).trans rfl
                    have hcz61_3 : wc.cell? ⟨gb178, 3, none⟩ = some (.int .u64 a1_3) := (blk_cell BK178.out 3).trans rfl
                    have hcz61_4 : wc.cell? ⟨gb178, 4, none⟩ = some (.int .i64 a1_4) := (blk_cell BK178.out 4).trans rfl
                    have hfz61_0 := blk_frozen BK178.out 0
                    have hfz61_1 := blk_frozen BK178.out 1
                    have hfz61_2 := blk_frozen BK178.out 2
                    have hfz61_3 := blk_frozen BK178.out 3
                    have hfz61_4 := blk_frozen BK178.out 4
                    go_wp2_with (first | ((with_reducible refine gate_callee (f := 14) rfl ?_); refine goesL_ (some 39) rfl rfl Try.func14 (by kernel_rfl) rfl #[.agg #[.int .u64 (IntKind.u64.wrap (t180 + 1)), .int .u64 a1_1, .int .u64 a1_2, .int .u64 a1_3, .int .i64 a1_4]] rfl (by (try simp only [List.map_toArray, List.map_cons, List.map_nil]); first | done | rfl | (simp only [List.length_drop, List.length_take]; rfl)) ?_; (with_reducible refine (disk_Lay.calls kj4 (IntKind.u64.wrap (t180 + 1)) a1_1 a1_2 a1_3 a1_4 t189 t190 _ A48.out).mono ?_); rintro e w62 ⟨rfl, hb⟩; refine ⟨_, rfl, ?_⟩; have n0_ := Aside0.mk (blk_below (g := gb177) (o := .cells #[.string a0_0, .string a0_1] 23 (0, 0)) (by (with_reducible repeat (first | refine blk_drewN ?_ _ | refine blk_drew ?_ | refine blk_alloc ?_ _)); refine blk_far ?_ NB177_178.out _; (with_reducible repeat (first | refine blk_drewN ?_ _ | refine blk_drew ?_ | refine blk_alloc ?_ _)); exact BK177.out) hb); have n1_ := Aside0.mk (blk_below (g := gb178) (o := .cells #[.int .u64 (IntKind.u64.wrap (t180 + 1)), .int .u64 a1_1, .int .u64 a1_2, .int .u64 a1_3, .int .i64 a1_4] 26 (0, 0)) (by (with_reducible repeat (first | refine blk_drewN ?_ _ | refine blk_drew ?_ | refine blk_alloc ?_ _)); refine blk_put (cs := #[.int .u64 a1_0, .int .u64 a1_1, .int .u64 a1_2, .int .u64 a1_3, .int .i64 a1_4]) ?_ 0 _ rfl; (with_reducible repeat (first | refine blk_drewN ?_ _ | refine blk_drew ?_ | refine blk_alloc ?_ _)); exact BK178.out) hb); have n2_ := Aside0.mk (blk_below (g := gb179) (o := .cells #[.string (⟨#[]⟩ : ByteArray), .string (⟨#[]⟩ : ByteArray)] 23 (0, 0)) (by (with_reducible repeat (first | refine blk_drewN ?_ _ | refine blk_drew ?_ | refine blk_alloc ?_ _)); refine blk_far ?_ NB179_178.out _; (with_reducible repeat (first | refine blk_drewN ?_ _ | refine blk_drew ?_ | refine blk_alloc ?_ _)); exact BK179.out) hb); have n3_ := Aside0.mk (blk_below (g := gb187) (o := .cells #[.int .u64 t180, .int .u64 t181, .int .u64 t182, .int .u64 t183, .int .i64 t184] 26 (0, 0)) (by (with_reducible repeat (first | refine blk_drewN ?_ _ | refine blk_drew ?_ | refine blk_alloc ?_ _)); refine blk_far ?_ NB187_178.out _; (with_reducible repeat (first | refine blk_drewN ?_ _ | refine blk_drew ?_ | refine blk_alloc ?_ _)); exact BK187.out) hb); have n4_ := Aside0.mk (below_step (by repeat (first | (with_reducible first | exact HB.out | apply below_alloc | apply pw_below_drewN | apply below_drew1 | refine below_set ?_ GE177.out | refine below_set ?_ GE178.out | refine below_set ?_ GE179.out | refine below_set ?_ GE187.out) | exact HB.out)) hb); clear BK177; clear BK178; clear BK179; clear BK187; clear HB; have BK177 := n0_; have BK178 := n1_; have BK179 := n2_; have BK187 := n3_; have HB := n4_; clear n0_ n1_ n2_ n3_ n4_; (try clear hb); (try clear hb2); (try clear hk); (try clear hi); have hnb63 := NB177_179.out; have hnc63 := NB179_177.out; have hcz64_0 : w62.cell? ⟨gb177, 0, none⟩ = some (.string a0_0) := (blk_cell BK177.out 0).trans rfl; have hcz64_1 : w62.cell? ⟨gb177, 1, none⟩ = some (.string a0_1) := (blk_cell BK177.out 1).trans rfl; have hfz64_0 := blk_frozen BK177.out 0; have hfz64_1 := blk_frozen BK177.out 1; have hcz65_0 : w62.cell? ⟨gb179, 0, none⟩ = some (.string (⟨#[]⟩ : ByteArray)) := (blk_cell BK179.out 0).trans rfl; have hcz65_1 : w62.cell? ⟨gb179, 1, none⟩ = some (.string (⟨#[]⟩ : ByteArray)) := (blk_cell BK179.out 1).trans rfl; have hfz65_0 := blk_frozen BK179.out 0; have hfz65_1 := blk_frozen BK179.out 1))
                    refine bodyPost_ret (results_ct rfl _ _ gb179 23 #[.string (t189.extract 0 ((ji50) : Int).toNat), .string a0_1] (0, 0) _ rfl (by (with_reducible repeat (first | refine blk_drewN ?_ _ | refine blk_drew ?_ | refine blk_alloc ?_ _)); refine blk_put (cs := #[.string (t189.extract 0 ((ji50) : Int).toNat), .string (⟨#[]⟩ : ByteArray)]) ?_ 1 _ rfl; (with_reducible repeat (first | refine blk_drewN ?_ _ | refine blk_drew ?_ | refine blk_alloc ?_ _)); refine blk_put (cs := #[.string (⟨#[]⟩ : ByteArray), .string (⟨#[]⟩ : ByteArray)]) ?_ 0 _ rfl; (with_reducible repeat (first | refine blk_drewN ?_ _ | refine blk_drew ?_ | refine blk_alloc ?_ _)); refine blk_far ?_ NB179_177.out _; (with_reducible repeat (first | refine blk_drewN ?_ _ | refine blk_drew ?_ | refine blk_alloc ?_ _)); exact BK179.out) Try.underlying23 rfl (by kernel_rfl)) rfl ?_
                    exact ⟨by first | rfl | (simp [errW_none, errW_some] <;> rfl) | (simp only [← hji50]; first | rfl | (simp [errW_none, errW_some] <;> rfl)) | (simp [*, errW_none, errW_some] <;> rfl), by repeat (first | (with_reducible first | exact HB.out | apply below_alloc | apply pw_below_drewN | apply below_drew1 | refine below_set ?_ GE177.out | refine below_set ?_ GE178.out | refine below_set ?_ GE179.out | refine below_set ?_ GE187.out) | exact HB.out)⟩
                  · replace c54 := Bool.eq_false_iff.mpr c54
                    subst c54
                    have H1 : (some (a0_0, t189.extract 0 ((ji50) : Int).toNat, 0)) = some (r1, r2, r3) := by rw [if_neg (show ¬ (false = true) by decide)] at H; exact H
                    clear H
                    have H := H1
                    clear H1
                    simp only [Option.some.injEq, Prod.mk.injEq] at H
                    obtain ⟨rfl, rfl, rfl⟩ := H
                    have hnb66 := NB187_177.out
                    have hnc66 := NB177_187.out
                    have hnb67 := NB187_178.out
                    have hnc67 := NB178_187.out
                    have hnb68 := NB187_179.out
                    have hnc68 := NB179_187.out
                    have hcz69_0 : wc.cell? ⟨gb187, 0, none⟩ = some (.int .u64 t180) := (blk_cell BK187.out 0).trans rfl
                    have hcz69_1 : wc.cell? ⟨gb187, 1, none⟩ = some (.int .u64 t181) := (blk_cell BK187.out 1).trans rfl
                    have hcz69_2 : wc.cell? ⟨gb187, 2, none⟩ = some (.int .u64 t182) := (blk_cell BK187.out 2).trans rfl
                    have hcz69_3 : wc.cell? ⟨gb187, 3, none⟩ = some (.int .u64 t183) := (blk_cell BK187.out 3).trans rfl
                    have hcz69_4 : wc.cell? ⟨gb187, 4, none⟩ = some (.int .i64 t184) := (blk_cell BK187.out 4).trans rfl
                    have hfz69_0 := blk_frozen BK187.out 0
                    have hfz69_1 := blk_frozen BK187.out 1
                    have hfz69_2 := blk_frozen BK187.out 2
                    have hfz69_3 := blk_frozen BK187.out 3
                    have hfz69_4 := blk_frozen BK187.out 4
                    have hnb70 := NB178_177.out
                    have hnc70 := NB177_178.out
                    have hnb71 := NB178_179.out
                    have hnc71 := NB179_178.out
                    have hcz72_0 : wc.cell? ⟨gb178, 0, none⟩ = some (.int .u64 a1_0) := (blk_cell BK178.out 0).trans rfl
                    have hcz72_1 : wc.cell? ⟨gb178, 1, none⟩ = some (.int .u64 a1_1) := (blk_cell BK178.out 1).trans rfl
                    have hcz72_2 : wc.cell? ⟨gb178, 2, none⟩ = some (.int .u64 a1_2) := (blk_cell BK178.out 2).trans rfl
                    have hcz72_3 : wc.cell? ⟨gb178, 3, none⟩ = some (.int .u64 a1_3) := (blk_cell BK178.out 3).trans rfl
                    have hcz72_4 : wc.cell? ⟨gb178, 4, none⟩ = some (.int .i64 a1_4) := (blk_cell BK178.out 4).trans rfl
                    have hfz72_0 := blk_frozen BK178.out 0
                    have hfz72_1 := blk_frozen BK178.out 1
                    have hfz72_2 := blk_frozen BK178.out 2
                    have hfz72_3 := blk_frozen BK178.out 3
                    have hfz72_4 := blk_frozen BK178.out 4
                    go_wp2_with (first | ((with_reducible refine gate_callee (f := 14) rfl ?_); refine goesL_ (some 39) rfl rfl Try.func14 (by kernel_rfl) rfl #[.agg #[.int .u64 (IntKind.u64.wrap (t180 + 1)), .int .u64 a1_1, .int .u64 a1_2, .int .u64 a1_3, .int .i64 a1_4]] rfl (by (try simp only [List.map_toArray, List.map_cons, List.map_nil]); first | done | rfl | (simp only [List.length_drop, List.length_take]; rfl)) ?_; (with_reducible refine (disk_Lay.calls kj4 (IntKind.u64.wrap (t180 + 1)) a1_1 a1_2 a1_3 a1_4 t189 t190 _ A48.out).mono ?_); rintro e w73 ⟨rfl, hb⟩; refine ⟨_, rfl, ?_⟩; have n0_ := Aside0.mk (blk_below (g := gb177) (o := .cells #[.string a0_0, .string a0_1] 23 (0, 0)) (by (with_reducible repeat (first | refine blk_drewN ?_ _ | refine blk_drew ?_ | refine blk_alloc ?_ _)); refine blk_far ?_ NB177_178.out _; (with_reducible repeat (first | refine blk_drewN ?_ _ | refine blk_drew ?_ | refine blk_alloc ?_ _)); exact BK177.out) hb); have n1_ := Aside0.mk (blk_below (g := gb178) (o := .cells #[.int .u64 (IntKind.u64.wrap (t180 + 1)), .int .u64 a1_1, .int .u64 a1_2, .int .u64 a1_3, .int .i64 a1_4] 26 (0, 0)) (by (with_reducible repeat (first | refine blk_drewN ?_ _ | refine blk_drew ?_ | refine blk_alloc ?_ _)); refine blk_put (cs := #[.int .u64 a1_0, .int .u64 a1_1, .int .u64 a1_2, .int .u64 a1_3, .int .i64 a1_4]) ?_ 0 _ rfl; (with_reducible repeat (first | refine blk_drewN ?_ _ | refine blk_drew ?_ | refine blk_alloc ?_ _)); exact BK178.out) hb); have n2_ := Aside0.mk (blk_below (g := gb179) (o := .cells #[.string (⟨#[]⟩ : ByteArray), .string (⟨#[]⟩ : ByteArray)] 23 (0, 0)) (by (with_reducible repeat (first | refine blk_drewN ?_ _ | refine blk_drew ?_ | refine blk_alloc ?_ _)); refine blk_far ?_ NB179_178.out _; (with_reducible repeat (first | refine blk_drewN ?_ _ | refine blk_drew ?_ | refine blk_alloc ?_ _)); exact BK179.out) hb); have n3_ := Aside0.mk (blk_below (g := gb187) (o := .cells #[.int .u64 t180, .int .u64 t181, .int .u64 t182, .int .u64 t183, .int .i64 t184] 26 (0, 0)) (by (with_reducible repeat (first | refine blk_drewN ?_ _ | refine blk_drew ?_ | refine blk_alloc ?_ _)); refine blk_far ?_ NB187_178.out _; (with_reducible repeat (first | refine blk_drewN ?_ _ | refine blk_drew ?_ | refine blk_alloc ?_ _)); exact BK187.out) hb); have n4_ := Aside0.mk (below_step (by repeat (first | (with_reducible first | exact HB.out | apply below_alloc | apply pw_below_drewN | apply below_drew1 | refine below_set ?_ GE177.out | refine below_set ?_ GE178.out | refine below_set ?_ GE179.out | refine below_set ?_ GE187.out) | exact HB.out)) hb); clear BK177; clear BK178; clear BK179; clear BK187; clear HB; have BK177 := n0_; have BK178 := n1_; have BK179 := n2_; have BK187 := n3_; have HB := n4_; clear n0_ n1_ n2_ n3_ n4_; (try clear hb); (try clear hb2); (try clear hk); (try clear hi); have hnb74 := NB177_179.out; have hnc74 := NB179_177.out; have hcz75_0 : w73.cell? ⟨gb177, 0, none⟩ = some (.string a0_0) := (blk_cell BK177.out 0).trans rfl; have hcz75_1 : w73.cell? ⟨gb177, 1, none⟩ = some (.string a0_1) := (blk_cell BK177.out 1).trans rfl; have hfz75_0 := blk_frozen BK177.out 0; have hfz75_1 := blk_frozen BK177.out 1; have hcz76_0 : w73.cell? ⟨gb179, 0, none⟩ = some (.string (⟨#[]⟩ : ByteArray)) := (blk_cell BK179.out 0).trans rfl; have hcz76_1 : w73.cell? ⟨gb179, 1, none⟩ = some (.string (⟨#[]⟩ : ByteArray)) := (blk_cell BK179.out 1).trans rfl; have hfz76_0 := blk_frozen BK179.out 0; have hfz76_1 := blk_frozen BK179.out 1))
                    refine bodyPost_ret (results_ct rfl _ _ gb179 23 #[.string a0_0, .string (t189.extract 0 ((ji50) : Int).toNat)] (0, 0) _ rfl (by (with_reducible repeat (first | refine blk_drewN ?_ _ | refine blk_drew ?_ | refine blk_alloc ?_ _)); refine blk_put (cs := #[.string a0_0, .string (⟨#[]⟩ : ByteArray)]) ?_ 1 _ rfl; (with_reducible repeat (first | refine blk_drewN ?_ _ | refine blk_drew ?_ | refine blk_alloc ?_ _)); refine blk_put (cs := #[.string (⟨#[]⟩ : ByteArray), .string (⟨#[]⟩ : ByteArray)]) ?_ 0 _ rfl; (with_reducible repeat (first | refine blk_drewN ?_ _ | refine blk_drew ?_ | refine blk_alloc ?_ _)); refine blk_far ?_ NB179_177.out _; (with_reducible repeat (first | refine blk_drewN ?_ _ | refine blk_drew ?_ | refine blk_alloc ?_ _)); exact BK179.out) Try.underlying23 rfl (by kernel_rfl)) rfl ?_
                    exact ⟨by first | rfl | (simp [errW_none, errW_some] <;> rfl) | (simp only [← hji50]; first | rfl | (simp [errW_none, errW_some] <;> rfl)) | (simp [*, errW_none, errW_some] <;> rfl), by repeat (first | (with_reducible first | exact HB.out | apply below_alloc | apply pw_below_drewN | apply below_drew1 | refine below_set ?_ GE177.out | refine below_set ?_ GE178.out | refine below_set ?_ GE179.out | refine below_set ?_ GE187.out) | exact HB.out)⟩
                · replace c53 := Bool.eq_false_iff.mpr c53
                  subst c53
                  have H1 : (some (t189.extract 0 ((ji50) : Int).toNat, a0_1, 0)) = some (r1, r2, r3) := by rw [if_neg (show ¬ (false = true) by decide)] at H; exact H
                  clear H
                  have H := H1
                  clear H1
                  simp only [Option.some.injEq, Prod.mk.injEq] at H
                  obtain ⟨rfl, rfl, rfl⟩ := H
                  have hnb77 := NB187_177.out
                  have hnc77 := NB177_187.out
                  have hnb78 := NB187_178.out
                  have hnc78 := NB178_187.out
                  have hnb79 := NB187_179.out
                  have hnc79 := NB179_187.out
                  have hcz80_0 : wc.cell? ⟨gb187, 0, none⟩ = some (.int .u64 t180) := (blk_cell BK187.out 0).trans rfl
                  have hcz80_1 : wc.cell? ⟨gb187, 1, none⟩ = some (.int .u64 t181) := (blk_cell BK187.out 1).trans rfl
                  have hcz80_2 : wc.cell? ⟨gb187, 2, none⟩ = some (.int .u64 t182) := (blk_cell BK187.out 2).trans rfl
                  have hcz80_3 : wc.cell? ⟨gb187, 3, none⟩ = some (.int .u64 t183) := (blk_cell BK187.out 3).trans rfl
                  have hcz80_4 : wc.cell? ⟨gb187, 4, none⟩ = some (.int .i64 t184) := (blk_cell BK187.out 4).trans rfl
                  have hfz80_0 := blk_frozen BK187.out 0
                  have hfz80_1 := blk_frozen BK187.out 1
                  have hfz80_2 := blk_frozen BK187.out 2
                  have hfz80_3 := blk_frozen BK187.out 3
                  have hfz80_4 := blk_frozen BK187.out 4
                  have hnb81 := NB178_177.out
                  have hnc81 := NB177_178.out
                  have hnb82 := NB178_179.out
                  have hnc82 := NB179_178.out
                  have hcz83_0 : wc.cell? ⟨gb178, 0, none⟩ = some (.int .u64 a1_0) := (blk_cell BK178.out 0).trans rfl
                  have hcz83_1 : wc.cell? ⟨gb178, 1, none⟩ = some (.int .u64 a1_1) := (blk_cell BK178.out 1).trans rfl
                  have hcz83_2 : wc.cell? ⟨gb178, 2, none⟩ = some (.int .u64 a1_2) := (blk_cell BK178.out 2).trans rfl
                  have hcz83_3 : wc.cell? ⟨gb178, 3, none⟩ = some (.int .u64 a1_3) := (blk_cell BK178.out 3).trans rfl
                  have hcz83_4 : wc.cell? ⟨gb178, 4, none⟩ = some (.int .i64 a1_4) := (blk_cell BK178.out 4).trans rfl
                  have hfz83_0 := blk_frozen BK178.out 0
                  have hfz83_1 := blk_frozen BK178.out 1
                  have hfz83_2 := blk_frozen BK178.out 2
                  have hfz83_3 := blk_frozen BK178.out 3
                  have hfz83_4 := blk_frozen BK178.out 4
                  go_wp2_with (first | ((with_reducible refine gate_callee (f := 14) rfl ?_); refine goesL_ (some 39) rfl rfl Try.func14 (by kernel_rfl) rfl #[.agg #[.int .u64 (IntKind.u64.wrap (t180 + 1)), .int .u64 a1_1, .int .u64 a1_2, .int .u64 a1_3, .int .i64 a1_4]] rfl (by (try simp only [List.map_toArray, List.map_cons, List.map_nil]); first | done | rfl | (simp only [List.length_drop, List.length_take]; rfl)) ?_; (with_reducible refine (disk_Lay.calls kj4 (IntKind.u64.wrap (t180 + 1)) a1_1 a1_2 a1_3 a1_4 t189 t190 _ A48.out).mono ?_); rintro e w84 ⟨rfl, hb⟩; refine ⟨_, rfl, ?_⟩; have n0_ := Aside0.mk (blk_below (g := gb177) (o := .cells #[.string a0_0, .string a0_1] 23 (0, 0)) (by (with_reducible repeat (first | refine blk_drewN ?_ _ | refine blk_drew ?_ | refine blk_alloc ?_ _)); refine blk_far ?_ NB177_178.out _; (with_reducible repeat (first | refine blk_drewN ?_ _ | refine blk_drew ?_ | refine blk_alloc ?_ _)); exact BK177.out) hb); have n1_ := Aside0.mk (blk_below (g := gb178) (o := .cells #[.int .u64 (IntKind.u64.wrap (t180 + 1)), .int .u64 a1_1, .int .u64 a1_2, .int .u64 a1_3, .int .i64 a1_4] 26 (0, 0)) (by (with_reducible repeat (first | refine blk_drewN ?_ _ | refine blk_drew ?_ | refine blk_alloc ?_ _)); refine blk_put (cs := #[.int .u64 a1_0, .int .u64 a1_1, .int .u64 a1_2, .int .u64 a1_3, .int .i64 a1_4]) ?_ 0 _ rfl; (with_reducible repeat (first | refine blk_drewN ?_ _ | refine blk_drew ?_ | refine blk_alloc ?_ _)); exact BK178.out) hb); have n2_ := Aside0.mk (blk_below (g := gb179) (o := .cells #[.string (⟨#[]⟩ : ByteArray), .string (⟨#[]⟩ : ByteArray)] 23 (0, 0)) (by (with_reducible repeat (first | refine blk_drewN ?_ _ | refine blk_drew ?_ | refine blk_alloc ?_ _)); refine blk_far ?_ NB179_178.out _; (with_reducible repeat (first | refine blk_drewN ?_ _ | refine blk_drew ?_ | refine blk_alloc ?_ _)); exact BK179.out) hb); have n3_ := Aside0.mk (blk_below (g := gb187) (o := .cells #[.int .u64 t180, .int .u64 t181, .int .u64 t182, .int .u64 t183, .int .i64 t184] 26 (0, 0)) (by (with_reducible repeat (first | refine blk_drewN ?_ _ | refine blk_drew ?_ | refine blk_alloc ?_ _)); refine blk_far ?_ NB187_178.out _; (with_reducible repeat (first | refine blk_drewN ?_ _ | refine blk_drew ?_ | refine blk_alloc ?_ _)); exact BK187.out) hb); have n4_ := Aside0.mk (below_step (by repeat (first | (with_reducible first | exact HB.out | apply below_alloc | apply pw_below_drewN | apply below_drew1 | refine below_set ?_ GE177.out | refine below_set ?_ GE178.out | refine below_set ?_ GE179.out | refine below_set ?_ GE187.out) | exact HB.out)) hb); clear BK177; clear BK178; clear BK179; clear BK187; clear HB; have BK177 := n0_; have BK178 := n1_; have BK179 := n2_; have BK187 := n3_; have HB := n4_; clear n0_ n1_ n2_ n3_ n4_; (try clear hb); (try clear hb2); (try clear hk); (try clear hi); have hnb85 := NB177_179.out; have hnc85 := NB179_177.out; have hcz86_0 : w84.cell? ⟨gb177, 0, none⟩ = some (.string a0_0) := (blk_cell BK177.out 0).trans rfl; have hcz86_1 : w84.cell? ⟨gb177, 1, none⟩ = some (.string a0_1) := (blk_cell BK177.out 1).trans rfl; have hfz86_0 := blk_frozen BK177.out 0; have hfz86_1 := blk_frozen BK177.out 1; have hcz87_0 : w84.cell? ⟨gb179, 0, none⟩ = some (.string (⟨#[]⟩ : ByteArray)) := (blk_cell BK179.out 0).trans rfl; have hcz87_1 : w84.cell? ⟨gb179, 1, none⟩ = some (.string (⟨#[]⟩ : ByteArray)) := (blk_cell BK179.out 1).trans rfl; have hfz87_0 := blk_frozen BK179.out 0; have hfz87_1 := blk_frozen BK179.out 1))
                  refine bodyPost_ret (results_ct rfl _ _ gb179 23 #[.string (t189.extract 0 ((ji50) : Int).toNat), .string a0_1] (0, 0) _ rfl (by (with_reducible repeat (first | refine blk_drewN ?_ _ | refine blk_drew ?_ | refine blk_alloc ?_ _)); refine blk_put (cs := #[.string (t189.extract 0 ((ji50) : Int).toNat), .string (⟨#[]⟩ : ByteArray)]) ?_ 1 _ rfl; (with_reducible repeat (first | refine blk_drewN ?_ _ | refine blk_drew ?_ | refine blk_alloc ?_ _)); refine blk_put (cs := #[.string (⟨#[]⟩ : ByteArray), .string (⟨#[]⟩ : ByteArray)]) ?_ 0 _ rfl; (with_reducible repeat (first | refine blk_drewN ?_ _ | refine blk_drew ?_ | refine blk_alloc ?_ _)); refine blk_far ?_ NB179_177.out _; (with_reducible repeat (first | refine blk_drewN ?_ _ | refine blk_drew ?_ | refine blk_alloc ?_ _)); exact BK179.out) Try.underlying23 rfl (by kernel_rfl)) rfl ?_
                  exact ⟨by first | rfl | (simp [errW_none, errW_some] <;> rfl) | (simp only [← hji50]; first | rfl | (simp [errW_none, errW_some] <;> rfl)) | (simp [*, errW_none, errW_some] <;> rfl), by repeat (first | (with_reducible first | exact HB.out | apply below_alloc | apply pw_below_drewN | apply below_drew1 | refine below_set ?_ GE177.out | refine below_set ?_ GE178.out | refine below_set ?_ GE179.out | refine below_set ?_ GE187.out) | exact HB.out)⟩
              · rw [if_neg c52] at H
                exact absurd H (by simp)
            · rw [if_neg c51] at H
              exact absurd H (by simp)
          · rw [if_neg c49] at H
            have c49b0 : (t190 == 0) = false := beq_eq_false_iff_ne.mpr c49
            have c49b1 : (t190 != 0) = true := bne_iff_ne.mpr c49
            simp only [Option.some.injEq, Prod.mk.injEq] at H
            obtain ⟨rfl, rfl, rfl⟩ := H
            have hnb88 := NB187_177.out
            have hnc88 := NB177_187.out
            have hnb89 := NB187_178.out
            have hnc89 := NB178_187.out
            have hnb90 := NB187_179.out
            have hnc90 := NB179_187.out
            have hcz91_0 : wc.cell? ⟨gb187, 0, none⟩ = some (.int .u64 t180) := (blk_cell BK187.out 0).trans rfl
            have hcz91_1 : wc.cell? ⟨gb187, 1, none⟩ = some (.int .u64 t181) := (blk_cell BK187.out 1).trans rfl
            have hcz91_2 : wc.cell? ⟨gb187, 2, none⟩ = some (.int .u64 t182) := (blk_cell BK187.out 2).trans rfl
            have hcz91_3 : wc.cell? ⟨gb187, 3, none⟩ = some (.int .u64 t183) := (blk_cell BK187.out 3).trans rfl
            have hcz91_4 : wc.cell? ⟨gb187, 4, none⟩ = some (.int .i64 t184) := (blk_cell BK187.out 4).trans rfl
            have hfz91_0 := blk_frozen BK187.out 0
            have hfz91_1 := blk_frozen BK187.out 1
            have hfz91_2 := blk_frozen BK187.out 2
            have hfz91_3 := blk_frozen BK187.out 3
            have hfz91_4 := blk_frozen BK187.out 4
            have hnb92 := NB178_177.out
            have hnc92 := NB177_178.out
            have hnb93 := NB178_179.out
            have hnc93 := NB179_178.out
            have hcz94_0 : wc.cell? ⟨gb178, 0, none⟩ = some (.int .u64 a1_0) := (blk_cell BK178.out 0).trans rfl
            have hcz94_1 : wc.cell? ⟨gb178, 1, none⟩ = some (.int .u64 a1_1) := (blk_cell BK178.out 1).trans rfl
            have hcz94_2 : wc.cell? ⟨gb178, 2, none⟩ = some (.int .u64 a1_2) := (blk_cell BK178.out 2).trans rfl
            have hcz94_3 : wc.cell? ⟨gb178, 3, none⟩ = some (.int .u64 a1_3) := (blk_cell BK178.out 3).trans rfl
            have hcz94_4 : wc.cell? ⟨gb178, 4, none⟩ = some (.int .i64 a1_4) := (blk_cell BK178.out 4).trans rfl
            have hfz94_0 := blk_frozen BK178.out 0
            have hfz94_1 := blk_frozen BK178.out 1
            have hfz94_2 := blk_frozen BK178.out 2
            have hfz94_3 := blk_frozen BK178.out 3
            have hfz94_4 := blk_frozen BK178.out 4
            go_wp2_with (first | ((with_reducible refine gate_callee (f := 14) rfl ?_); refine goesL_ (some 39) rfl rfl Try.func14 (by kernel_rfl) rfl #[.agg #[.int .u64 (IntKind.u64.wrap (t180 + 1)), .int .u64 a1_1, .int .u64 a1_2, .int .u64 a1_3, .int .i64 a1_4]] rfl (by (try simp only [List.map_toArray, List.map_cons, List.map_nil]); first | done | rfl | (simp only [List.length_drop, List.length_take]; rfl)) ?_; (with_reducible refine (disk_Lay.calls kj4 (IntKind.u64.wrap (t180 + 1)) a1_1 a1_2 a1_3 a1_4 t189 t190 _ A48.out).mono ?_); rintro e w95 ⟨rfl, hb⟩; refine ⟨_, rfl, ?_⟩; have n0_ := Aside0.mk (blk_below (g := gb177) (o := .cells #[.string a0_0, .string a0_1] 23 (0, 0)) (by (with_reducible repeat (first | refine blk_drewN ?_ _ | refine blk_drew ?_ | refine blk_alloc ?_ _)); refine blk_far ?_ NB177_178.out _; (with_reducible repeat (first | refine blk_drewN ?_ _ | refine blk_drew ?_ | refine blk_alloc ?_ _)); exact BK177.out) hb); have n1_ := Aside0.mk (blk_below (g := gb178) (o := .cells #[.int .u64 (IntKind.u64.wrap (t180 + 1)), .int .u64 a1_1, .int .u64 a1_2, .int .u64 a1_3, .int .i64 a1_4] 26 (0, 0)) (by (with_reducible repeat (first | refine blk_drewN ?_ _ | refine blk_drew ?_ | refine blk_alloc ?_ _)); refine blk_put (cs := #[.int .u64 a1_0, .int .u64 a1_1, .int .u64 a1_2, .int .u64 a1_3, .int .i64 a1_4]) ?_ 0 _ rfl; (with_reducible repeat (first | refine blk_drewN ?_ _ | refine blk_drew ?_ | refine blk_alloc ?_ _)); exact BK178.out) hb); have n2_ := Aside0.mk (blk_below (g := gb179) (o := .cells #[.string (⟨#[]⟩ : ByteArray), .string (⟨#[]⟩ : ByteArray)] 23 (0, 0)) (by (with_reducible repeat (first | refine blk_drewN ?_ _ | refine blk_drew ?_ | refine blk_alloc ?_ _)); refine blk_far ?_ NB179_178.out _; (with_reducible repeat (first | refine blk_drewN ?_ _ | refine blk_drew ?_ | refine blk_alloc ?_ _)); exact BK179.out) hb); have n3_ := Aside0.mk (blk_below (g := gb187) (o := .cells #[.int .u64 t180, .int .u64 t181, .int .u64 t182, .int .u64 t183, .int .i64 t184] 26 (0, 0)) (by (with_reducible repeat (first | refine blk_drewN ?_ _ | refine blk_drew ?_ | refine blk_alloc ?_ _)); refine blk_far ?_ NB187_178.out _; (with_reducible repeat (first | refine blk_drewN ?_ _ | refine blk_drew ?_ | refine blk_alloc ?_ _)); exact BK187.out) hb); have n4_ := Aside0.mk (below_step (by repeat (first | (with_reducible first | exact HB.out | apply below_alloc | apply pw_below_drewN | apply below_drew1 | refine below_set ?_ GE177.out | refine below_set ?_ GE178.out | refine below_set ?_ GE179.out | refine below_set ?_ GE187.out) | exact HB.out)) hb); clear BK177; clear BK178; clear BK179; clear BK187; clear HB; have BK177 := n0_; have BK178 := n1_; have BK179 := n2_; have BK187 := n3_; have HB := n4_; clear n0_ n1_ n2_ n3_ n4_; (try clear hb); (try clear hb2); (try clear hk); (try clear hi); have hnb96 := NB177_179.out; have hnc96 := NB179_177.out; have hcz97_0 : w95.cell? ⟨gb177, 0, none⟩ = some (.string a0_0) := (blk_cell BK177.out 0).trans rfl; have hcz97_1 : w95.cell? ⟨gb177, 1, none⟩ = some (.string a0_1) := (blk_cell BK177.out 1).trans rfl; have hfz97_0 := blk_frozen BK177.out 0; have hfz97_1 := blk_frozen BK177.out 1; have hcz98_0 : w95.cell? ⟨gb179, 0, none⟩ = some (.string (⟨#[]⟩ : ByteArray)) := (blk_cell BK179.out 0).trans rfl; have hcz98_1 : w95.cell? ⟨gb179, 1, none⟩ = some (.string (⟨#[]⟩ : ByteArray)) := (blk_cell BK179.out 1).trans rfl; have hfz98_0 := blk_frozen BK179.out 0; have hfz98_1 := blk_frozen BK179.out 1))
            refine bodyPost_ret (results_ct rfl _ _ gb179 23 #[.string a0_0, .string a0_1] (0, 0) _ rfl (by (with_reducible repeat (first | refine blk_drewN ?_ _ | refine blk_drew ?_ | refine blk_alloc ?_ _)); refine blk_put (cs := #[.string a0_0, .string (⟨#[]⟩ : ByteArray)]) ?_ 1 _ rfl; (with_reducible repeat (first | refine blk_drewN ?_ _ | refine blk_drew ?_ | refine blk_alloc ?_ _)); refine blk_put (cs := #[.string (⟨#[]⟩ : ByteArray), .string (⟨#[]⟩ : ByteArray)]) ?_ 0 _ rfl; (with_reducible repeat (first | refine blk_drewN ?_ _ | refine blk_drew ?_ | refine blk_alloc ?_ _)); exact BK179.out) Try.underlying23 rfl (by kernel_rfl)) rfl ?_
            exact ⟨by first | rfl | (simp [errW_none, errW_some] <;> rfl) | (simp [*, errW_none, errW_some] <;> rfl), by repeat (first | (with_reducible first | exact HB.out | apply below_alloc | apply pw_below_drewN | apply below_drew1 | refine below_set ?_ GE177.out | refine below_set ?_ GE178.out | refine below_set ?_ GE179.out | refine below_set ?_ GE187.out) | exact HB.out)⟩

/-! ### disk_Write: function 18 -/
def disk_Write.f (k : Nat) (a0_0 : ByteArray) (a0_1 : ByteArray) (a1_0 : Int) (a1_1 : Int) (a1_2 : Int) (a1_3 : Int) (a1_4 : Int) : Option (ByteArray × ByteArray × Int) := (disk_Tear.f k a0_0 a0_1 a1_0 a1_1 a1_2 a1_3 a1_4 9223372036854775807).bind fun bt194 => (some (bt194.1, bt194.2.1, bt194.2.2))
theorem disk_Write.mono : ∀ a0 a1 a2 a3 a4 a5 a6 k, LeO (disk_Write.f k a0 a1 a2 a3 a4 a5 a6) (disk_Write.f (k + 1) a0 a1 a2 a3 a4 a5 a6) := by
  intro a0 a1 a2 a3 a4 a5 a6 k
  unfold disk_Write.f
  repeat' first
      | (with_reducible exact disk_Tear.mono _ _ _ _ _ _ _ _ _)
      | (with_reducible exact LeO.refl _)
      | (with_reducible exact LeO.none _)
      | (with_reducible refine LeO.ite ?_ ?_)
      | (with_reducible refine LeO.bind ?_ (fun _ => ?_))
      | exact disk_Tear.mono _ _ _ _ _ _ _ _ _
      | exact LeO.none _
      | refine LeO.ite ?_ ?_
      | refine LeO.bind ?_ (fun _ => ?_)
set_option maxHeartbeats 8000000 in
set_option maxRecDepth 100000 in
theorem disk_Write.calls (k : Nat) (a0_0 : ByteArray) (a0_1 : ByteArray) (a1_0 : Int) (a1_1 : Int) (a1_2 : Int) (a1_3 : Int) (a1_4 : Int) (r1 : ByteArray) (r2 : ByteArray) (r3 : Int) (w : World) (h : disk_Write.f k a0_0 a0_1 a1_0 a1_1 a1_2 a1_3 a1_4 = some (r1, r2, r3)) :
    Calls Try.prog 18 #[.agg #[.string a0_0, .string a0_1], .agg #[.int .u64 a1_0, .int .u64 a1_1, .int .u64 a1_2, .int .u64 a1_3, .int .i64 a1_4]] w fun e w' => e = .returned (.tuple #[.agg #[.string r1, .string r2], .int .i64 r3]) ∧ Below w.heap.size w w' := by
  have hu23 := Try.underlying23
  have hu26 := Try.underlying26
  have HB := Aside0.mk (Below.refl w.heap.size w)
  have H : ((disk_Tear.f k a0_0 a0_1 a1_0 a1_1 a1_2 a1_3 a1_4 9223372036854775807).bind fun bt194 => (some (bt194.1, bt194.2.1, bt194.2.2))) = some (r1, r2, r3) := h
  clear h
  replace H := Option.bind_eq_some_iff.mp H
  obtain ⟨⟨t194, t195, t196⟩, A30, H⟩ := H
  replace H : (some (t194, t195, t196)) = some (r1, r2, r3) := H
  have A3 := Aside0.mk A30
  clear A30
  simp only [Option.some.injEq, Prod.mk.injEq] at H
  obtain ⟨rfl, rfl, rfl⟩ := H
  go_enter Try.func18, Try.ntmps18
  go_wp2_with (first | ((with_reducible refine gate_dst (N := 2) rfl ?_); refine box_event ?hg (N := 2) ?hd (cs := #[.string a0_0, .string a0_1]) (t := 23) ?hr ?_; (case hd => rfl); (case hg => rfl); (case hr => first | (go_simp; done) | (go_simp; rfl)); intro gb191 hg w4 hbox hb; have n0_ := Aside0.mk (below_step (by repeat (first | (with_reducible first | exact HB.out | apply below_alloc | apply pw_below_drewN | apply below_drew1) | exact HB.out)) hb); have n1_ := Aside0.mk (hbox); have n2_ := Aside0.mk ((by rw [hg]; exact (below_size (by repeat (first | (with_reducible first | exact HB.out | apply below_alloc | apply pw_below_drewN | apply below_drew1) | exact HB.out))) : w.heap.size ≤ gb191)); have n3_ := Aside0.mk ((by rw [hg]; exact (below_size (by repeat (first | (with_reducible first | exact HB.out | apply below_alloc | apply pw_below_drewN | apply below_drew1) | exact HB.out))) : w.heap.size ≤ gb191)); clear HB; have HB := n0_; have BK191 := n1_; have GW191 := n2_; have GE191 := n3_; clear n0_ n1_ n2_ n3_; clear hb hbox hg) | ((with_reducible refine gate_dst (N := 3) rfl ?_); refine box_event ?hg (N := 3) ?hd (cs := #[.int .u64 a1_0, .int .u64 a1_1, .int .u64 a1_2, .int .u64 a1_3, .int .i64 a1_4]) (t := 26) ?hr ?_; (case hd => rfl); (case hg => rfl); (case hr => first | (go_simp; done) | (go_simp; rfl)); intro gb192 hg w5 hbox hb; have n0_ := Aside0.mk (blk_below (g := gb191) (o := .cells #[.string a0_0, .string a0_1] 23 (0, 0)) (by (with_reducible repeat (first | refine blk_drewN ?_ _ | refine blk_drew ?_ | refine blk_alloc ?_ _)); exact BK191.out) hb); have n1_ := Aside0.mk (below_step (by repeat (first | (with_reducible first | exact HB.out | apply below_alloc | apply pw_below_drewN | apply below_drew1 | refine below_set ?_ GE191.out) | exact HB.out)) hb); have n2_ := Aside0.mk (hbox); have n3_ := Aside0.mk ((by rw [hg]; exact (below_size (by repeat (first | (with_reducible first | exact HB.out | apply below_alloc | apply pw_below_drewN | apply below_drew1 | refine below_set ?_ GE191.out) | exact HB.out))) : w.heap.size ≤ gb192)); have n4_ := Aside0.mk ((by rw [hg]; exact (below_size (by repeat (first | (with_reducible first | exact HB.out | apply below_alloc | apply pw_below_drewN | apply below_drew1 | refine below_set ?_ GE191.out) | exact HB.out))) : w.heap.size ≤ gb192)); have n5_ := Aside0.mk ((by rw [hg]; exact Nat.ne_of_lt (blk_lt (g := gb191) (o := .cells #[.string a0_0, .string a0_1] 23 (0, 0)) (by (with_reducible repeat (first | refine blk_drewN ?_ _ | refine blk_drew ?_ | refine blk_alloc ?_ _)); exact BK191.out)) : gb191 ≠ gb192)); have n6_ := Aside0.mk ((by rw [hg]; exact Nat.ne_of_gt (blk_lt (g := gb191) (o := .cells #[.string a0_0, .string a0_1] 23 (0, 0)) (by (with_reducible repeat (first | refine blk_drewN ?_ _ | refine blk_drew ?_ | refine blk_alloc ?_ _)); exact BK191.out)) : gb192 ≠ gb191)); clear BK191; clear HB; have BK191 := n0_; have HB := n1_; have BK192 := n2_; have GW192 := n3_; have GE192 := n4_; have NB191_192 := n5_; have NB192_191 := n6_; clear n0_ n1_ n2_ n3_ n4_ n5_ n6_; clear hb hbox hg) | ((with_reducible refine gate_dst (N := 4) rfl ?_); refine box_event ?hg (N := 4) ?hd (cs := #[.string (⟨#[]⟩ : ByteArray), .string (⟨#[]⟩ : ByteArray)]) (t := 23) ?hr ?_; (case hd => rfl); (case hg => rfl); (case hr => first | (go_simp; done) | (go_simp; rfl)); intro gb193 hg w6 hbox hb; have n0_ := Aside0.mk (blk_below (g := gb191) (o := .cells #[.string a0_0, .string a0_1] 23 (0, 0)) (by (with_reducible repeat (first | refine blk_drewN ?_ _ | refine blk_drew ?_ | refine blk_alloc ?_ _)); exact BK191.out) hb); have n1_ := Aside0.mk (blk_below (g := gb192) (o := .cells #[.int .u64 a1_0, .int .u64 a1_1, .int .u64 a1_2, .int .u64 a1_3, .int .i64 a1_4] 26 (0, 0)) (by (with_reducible repeat (first | refine blk_drewN ?_ _ | refine blk_drew ?_ | refine blk_alloc ?_ _)); exact BK192.out) hb); have n2_ := Aside0.mk (below_step (by repeat (first | (with_reducible first | exact HB.out | apply below_alloc | apply pw_below_drewN | apply below_drew1 | refine below_set ?_ GE191.out | refine below_set ?_ GE192.out) | exact HB.out)) hb); have n3_ := Aside0.mk (hbox); have n4_ := Aside0.mk ((by rw [hg]; exact (below_size (by repeat (first | (with_reducible first | exact HB.out | apply below_alloc | apply pw_below_drewN | apply below_drew1 | refine below_set ?_ GE191.out | refine below_set ?_ GE192.out) | exact HB.out))) : w.heap.size ≤ gb193)); have n5_ := Aside0.mk ((by rw [hg]; exact (below_size (by repeat (first | (with_reducible first | exact HB.out | apply below_alloc | apply pw_below_drewN | apply below_drew1 | refine below_set ?_ GE191.out | refine below_set ?_ GE192.out) | exact HB.out))) : w.heap.size ≤ gb193)); have n6_ := Aside0.mk ((by rw [hg]; exact Nat.ne_of_lt (blk_lt (g := gb191) (o := .cells #[.string a0_0, .string a0_1] 23 (0, 0)) (by (with_reducible repeat (first | refine blk_drewN ?_ _ | refine blk_drew ?_ | refine blk_alloc ?_ _)); exact BK191.out)) : gb191 ≠ gb193)); have n7_ := Aside0.mk ((by rw [hg]; exact Nat.ne_of_gt (blk_lt (g := gb191) (o := .cells #[.string a0_0, .string a0_1] 23 (0, 0)) (by (with_reducible repeat (first | refine blk_drewN ?_ _ | refine blk_drew ?_ | refine blk_alloc ?_ _)); exact BK191.out)) : gb193 ≠ gb191)); have n8_ := Aside0.mk ((by rw [hg]; exact Nat.ne_of_lt (blk_lt (g := gb192) (o := .cells #[.int .u64 a1_0, .int .u64 a1_1, .int .u64 a1_2, .int .u64 a1_3, .int .i64 a1_4] 26 (0, 0)) (by (with_reducible repeat (first | refine blk_drewN ?_ _ | refine blk_drew ?_ | refine blk_alloc ?_ _)); exact BK192.out)) : gb192 ≠ gb193)); have n9_ := Aside0.mk ((by rw [hg]; exact Nat.ne_of_gt (blk_lt (g := gb192) (o := .cells #[.int .u64 a1_0, .int .u64 a1_1, .int .u64 a1_2, .int .u64 a1_3, .int .i64 a1_4] 26 (0, 0)) (by (with_reducible repeat (first | refine blk_drewN ?_ _ | refine blk_drew ?_ | refine blk_alloc ?_ _)); exact BK192.out)) : gb193 ≠ gb192)); clear BK191; clear BK192; clear HB; have BK191 := n0_; have BK192 := n1_; have HB := n2_; have BK193 := n3_; have GW193 := n4_; have GE193 := n5_; have NB191_193 := n6_; have NB193_191 := n7_; have NB192_193 := n8_; have NB193_192 := n9_; clear n0_ n1_ n2_ n3_ n4_ n5_ n6_ n7_ n8_ n9_; clear hb hbox hg; have hnb7 := NB191_192.out; have hnc7 := NB192_191.out; have hnb8 := NB191_193.out; have hnc8 := NB193_191.out; have hcz9_0 : w6.cell? ⟨gb191, 0, none⟩ = some (.string a0_0) := (blk_cell BK191.out 0).trans rfl; have hcz9_1 : w6.cell? ⟨gb191, 1, none⟩ = some (.string a0_1) := (blk_cell BK191.out 1).trans rfl; have hfz9_0 := blk_frozen BK191.out 0; have hfz9_1 := blk_frozen BK191.out 1; have hnb10 := NB192_193.out; have hnc10 := NB193_192.out; have hcz11_0 : w6.cell? ⟨gb192, 0, none⟩ = some (.int .u64 a1_0) := (blk_cell BK192.out 0).trans rfl; have hcz11_1 : w6.cell? ⟨gb192, 1, none⟩ = some (.int .u64 a1_1) := (blk_cell BK192.out 1).trans rfl; have hcz11_2 : w6.cell? ⟨gb192, 2, none⟩ = some (.int .u64 a1_2) := (blk_cell BK192.out 2).trans rfl; have hcz11_3 : w6.cell? ⟨gb192, 3, none⟩ = some (.int .u64 a1_3) := (blk_cell BK192.out 3).trans rfl; have hcz11_4 : w6.cell? ⟨gb192, 4, none⟩ = some (.int .i64 a1_4) := (blk_cell BK192.out 4).trans rfl; have hfz11_0 := blk_frozen BK192.out 0; have hfz11_1 := blk_frozen BK192.out 1; have hfz11_2 := blk_frozen BK192.out 2; have hfz11_3 := blk_frozen BK192.out 3; have hfz11_4 := blk_frozen BK192.out 4) | ((with_reducible refine gate_callee (f := 20) rfl ?_); refine goesL_ (some 8) rfl rfl Try.func20 (by kernel_rfl) rfl #[.agg #[.string a0_0, .string a0_1], .agg #[.int .u64 a1_0, .int .u64 a1_1, .int .u64 a1_2, .int .u64 a1_3, .int .i64 a1_4], .int .i64 9223372036854775807] rfl (by (try simp only [List.map_toArray, List.map_cons, List.map_nil]); first | done | rfl | (simp only [List.length_drop, List.length_take]; rfl)) ?_; (with_reducible refine (disk_Tear.calls k a0_0 a0_1 a1_0 a1_1 a1_2 a1_3 a1_4 9223372036854775807 t194 t195 t196 _ A3.out).mono ?_); rintro e w12 ⟨rfl, hb⟩; refine ⟨_, rfl, ?_⟩; have n0_ := Aside0.mk (blk_below (g := gb191) (o := .cells #[.string a0_0, .string a0_1] 23 (0, 0)) (by (with_reducible repeat (first | refine blk_drewN ?_ _ | refine blk_drew ?_ | refine blk_alloc ?_ _)); exact BK191.out) hb); have n1_ := Aside0.mk (blk_below (g := gb192) (o := .cells #[.int .u64 a1_0, .int .u64 a1_1, .int .u64 a1_2, .int .u64 a1_3, .int .i64 a1_4] 26 (0, 0)) (by (with_reducible repeat (first | refine blk_drewN ?_ _ | refine blk_drew ?_ | refine blk_alloc ?_ _)); exact BK192.out) hb); have n2_ := Aside0.mk (blk_below (g := gb193) (o := .cells #[.string (⟨#[]⟩ : ByteArray), .string (⟨#[]⟩ : ByteArray)] 23 (0, 0)) (by (with_reducible repeat (first | refine blk_drewN ?_ _ | refine blk_drew ?_ | refine blk_alloc ?_ _)); exact BK193.out) hb); have n3_ := Aside0.mk (below_step (by repeat (first | (with_reducible first | exact HB.out | apply below_alloc | apply pw_below_drewN | apply below_drew1 | refine below_set ?_ GE191.out | refine below_set ?_ GE192.out | refine below_set ?_ GE193.out) | exact HB.out)) hb); clear BK191; clear BK192; clear BK193; clear HB; have BK191 := n0_; have BK192 := n1_; have BK193 := n2_; have HB := n3_; clear n0_ n1_ n2_ n3_; (try clear hb); (try clear hb2); (try clear hk); (try clear hi); have hcz13_0 : w12.cell? ⟨gb193, 0, none⟩ = some (.string (⟨#[]⟩ : ByteArray)) := (blk_cell BK193.out 0).trans rfl; have hcz13_1 : w12.cell? ⟨gb193, 1, none⟩ = some (.string (⟨#[]⟩ : ByteArray)) := (blk_cell BK193.out 1).trans rfl; have hfz13_0 := blk_frozen BK193.out 0; have hfz13_1 := blk_frozen BK193.out 1))
  refine bodyPost_ret (results_ct rfl _ _ gb193 23 #[.string t194, .string t195] (0, 0) _ rfl (by (with_reducible repeat (first | refine blk_drewN ?_ _ | refine blk_drew ?_ | refine blk_alloc ?_ _)); refine blk_put (cs := #[.string t194, .string (⟨#[]⟩ : ByteArray)]) ?_ 1 _ rfl; (with_reducible repeat (first | refine blk_drewN ?_ _ | refine blk_drew ?_ | refine blk_alloc ?_ _)); refine blk_put (cs := #[.string (⟨#[]⟩ : ByteArray), .string (⟨#[]⟩ : ByteArray)]) ?_ 0 _ rfl; (with_reducible repeat (first | refine blk_drewN ?_ _ | refine blk_drew ?_ | refine blk_alloc ?_ _)); exact BK193.out) Try.underlying23 rfl (by kernel_rfl)) rfl ?_
  exact ⟨by first | rfl | (simp [errW_none, errW_some] <;> rfl) | (simp [*, errW_none, errW_some] <;> rfl), by repeat (first | (with_reducible first | exact HB.out | apply below_alloc | apply pw_below_drewN | apply below_drew1 | refine below_set ?_ GE191.out | refine below_set ?_ GE192.out | refine below_set ?_ GE193.out) | exact HB.out)⟩

/-! ### tattlelaw16_awake: function 16 -/
def tattlelaw16_awake.f (k : Nat)  : Option (Bool) := (disk_Write.f k (⟨#[]⟩ : ByteArray) (⟨#[]⟩ : ByteArray) 0 7 0 0 (-1)).bind fun bt197 => ((disk_Write.f k bt197.1 bt197.2.1 0 8 0 0 3).bind fun bt201 => ((disk_Tear.f k bt197.1 bt197.2.1 0 8 0 0 3 5).bind fun bt205 => ((disk_Read.f k bt201.1 bt201.2.1).bind fun bt209 => ((disk_Read.f k bt205.1 bt205.2.1).bind fun bt216 => (if bt197.2.2 = 0 then (if bt197.1.toList = ([] : List UInt8) then (none) else (if bt197.2.1.toList = ([] : List UInt8) then (if bt201.2.2 = 0 then (if bt205.2.2 = 0 then (if (bt209.1 == 2 && (bt209.2.1 == 8 && (bt209.2.2.1 == 0 && (bt209.2.2.2.1 == 0 && (bt209.2.2.2.2.1 == 3))))) = true then (if bt209.2.2.2.2.2 = 0 then (if (bt216.1 == 1 && (bt216.2.1 == 7 && (bt216.2.2.1 == 0 && (bt216.2.2.2.1 == 0 && (bt216.2.2.2.2.1 == (-1)))))) = true then (some (bt216.2.2.2.2.2 == 0)) else (none)) else (none)) else (none)) else (none)) else (none)) else (none))) else (none))))))
theorem tattlelaw16_awake.mono : ∀ k, LeO (tattlelaw16_awake.f k ) (tattlelaw16_awake.f (k + 1) ) := by
  intro  k
  unfold tattlelaw16_awake.f
  repeat' first
      | (with_reducible exact disk_Read.mono _ _ _)
      | (with_reducible exact disk_Tear.mono _ _ _ _ _ _ _ _ _)
      | (with_reducible exact disk_Write.mono _ _ _ _ _ _ _ _)
      | (with_reducible exact LeO.refl _)
      | (with_reducible exact LeO.none _)
      | (with_reducible refine LeO.ite ?_ ?_)
      | (with_reducible refine LeO.bind ?_ (fun _ => ?_))
      | exact disk_Read.mono _ _ _
      | exact disk_Tear.mono _ _ _ _ _ _ _ _ _
      | exact disk_Write.mono _ _ _ _ _ _ _ _
      | exact LeO.none _
      | refine LeO.ite ?_ ?_
      | refine LeO.bind ?_ (fun _ => ?_)
set_option maxHeartbeats 8000000 in
set_option maxRecDepth 100000 in
theorem tattlelaw16_awake.calls (k : Nat)  (r : Bool) (w : World) (h : tattlelaw16_awake.f k  = some r) :
    Calls Try.prog 16 #[] w fun e w' => e = .returned (.bool r) ∧ Below w.heap.size w w' := by
  have hu23 := Try.underlying23
  have hu26 := Try.underlying26
  have HB := Aside0.mk (Below.refl w.heap.size w)
  have H : ((disk_Write.f k (⟨#[]⟩ : ByteArray) (⟨#[]⟩ : ByteArray) 0 7 0 0 (-1)).bind fun bt197 => ((disk_Write.f k bt197.1 bt197.2.1 0 8 0 0 3).bind fun bt201 => ((disk_Tear.f k bt197.1 bt197.2.1 0 8 0 0 3 5).bind fun bt205 => ((disk_Read.f k bt201.1 bt201.2.1).bind fun bt209 => ((disk_Read.f k bt205.1 bt205.2.1).bind fun bt216 => (if bt197.2.2 = 0 then (if bt197.1.toList = ([] : List UInt8) then (none) else (if bt197.2.1.toList = ([] : List UInt8) then (if bt201.2.2 = 0 then (if bt205.2.2 = 0 then (if (bt209.1 == 2 && (bt209.2.1 == 8 && (bt209.2.2.1 == 0 && (bt209.2.2.2.1 == 0 && (bt209.2.2.2.2.1 == 3))))) = true then (if bt209.2.2.2.2.2 = 0 then (if (bt216.1 == 1 && (bt216.2.1 == 7 && (bt216.2.2.1 == 0 && (bt216.2.2.2.1 == 0 && (bt216.2.2.2.2.1 == (-1)))))) = true then (some (bt216.2.2.2.2.2 == 0)) else (none)) else (none)) else (none)) else (none)) else (none)) else (none))) else (none))))))) = some r := h
  clear h
  replace H := Option.bind_eq_some_iff.mp H
  obtain ⟨⟨t197, t198, t199⟩, A10, H⟩ := H
  replace H : ((disk_Write.f k t197 t198 0 8 0 0 3).bind fun bt201 => ((disk_Tear.f k t197 t198 0 8 0 0 3 5).bind fun bt205 => ((disk_Read.f k bt201.1 bt201.2.1).bind fun bt209 => ((disk_Read.f k bt205.1 bt205.2.1).bind fun bt216 => (if t199 = 0 then (if t197.toList = ([] : List UInt8) then (none) else (if t198.toList = ([] : List UInt8) then (if bt201.2.2 = 0 then (if bt205.2.2 = 0 then (if (bt209.1 == 2 && (bt209.2.1 == 8 && (bt209.2.2.1 == 0 && (bt209.2.2.2.1 == 0 && (bt209.2.2.2.2.1 == 3))))) = true then (if bt209.2.2.2.2.2 = 0 then (if (bt216.1 == 1 && (bt216.2.1 == 7 && (bt216.2.2.1 == 0 && (bt216.2.2.2.1 == 0 && (bt216.2.2.2.2.1 == (-1)))))) = true then (some (bt216.2.2.2.2.2 == 0)) else (none)) else (none)) else (none)) else (none)) else (none)) else (none))) else (none)))))) = some r := H
  have A1 := Aside0.mk A10
  clear A10
  replace H := Option.bind_eq_some_iff.mp H
  obtain ⟨⟨t201, t202, t203⟩, A20, H⟩ := H
  replace H : ((disk_Tear.f k t197 t198 0 8 0 0 3 5).bind fun bt205 => ((disk_Read.f k t201 t202).bind fun bt209 => ((disk_Read.f k bt205.1 bt205.2.1).bind fun bt216 => (if t199 = 0 then (if t197.toList = ([] : List UInt8) then (none) else (if t198.toList = ([] : List UInt8) then (if t203 = 0 then (if bt205.2.2 = 0 then (if (bt209.1 == 2 && (bt209.2.1 == 8 && (bt209.2.2.1 == 0 && (bt209.2.2.2.1 == 0 && (bt209.2.2.2.2.1 == 3))))) = true then (if bt209.2.2.2.2.2 = 0 then (if (bt216.1 == 1 && (bt216.2.1 == 7 && (bt216.2.2.1 == 0 && (bt216.2.2.2.1 == 0 && (bt216.2.2.2.2.1 == (-1)))))) = true then (some (bt216.2.2.2.2.2 == 0)) else (none)) else (none)) else (none)) else (none)) else (none)) else (none))) else (none))))) = some r := H
  have A2 := Aside0.mk A20
  clear A20
  replace H := Option.bind_eq_some_iff.mp H
  obtain ⟨⟨t205, t206, t207⟩, A30, H⟩ := H
  replace H : ((disk_Read.f k t201 t202).bind fun bt209 => ((disk_Read.f k t205 t206).bind fun bt216 => (if t199 = 0 then (if t197.toList = ([] : List UInt8) then (none) else (if t198.toList = ([] : List UInt8) then (if t203 = 0 then (if t207 = 0 then (if (bt209.1 == 2 && (bt209.2.1 == 8 && (bt209.2.2.1 == 0 && (bt209.2.2.2.1 == 0 && (bt209.2.2.2.2.1 == 3))))) = true then (if bt209.2.2.2.2.2 = 0 then (if (bt216.1 == 1 && (bt216.2.1 == 7 && (bt216.2.2.1 == 0 && (bt216.2.2.2.1 == 0 && (bt216.2.2.2.2.1 == (-1)))))) = true then (some (bt216.2.2.2.2.2 == 0)) else (none)) else (none)) else (none)) else (none)) else (none)) else (none))) else (none)))) = some r := H
  have A3 := Aside0.mk A30
  clear A30
  replace H := Option.bind_eq_some_iff.mp H
  obtain ⟨⟨t209, t210, t211, t212, t213, t214⟩, A40, H⟩ := H
  replace H : ((disk_Read.f k t205 t206).bind fun bt216 => (if t199 = 0 then (if t197.toList = ([] : List UInt8) then (none) else (if t198.toList = ([] : List UInt8) then (if t203 = 0 then (if t207 = 0 then (if (t209 == 2 && (t210 == 8 && (t211 == 0 && (t212 == 0 && (t213 == 3))))) = true then (if t214 = 0 then (if (bt216.1 == 1 && (bt216.2.1 == 7 && (bt216.2.2.1 == 0 && (bt216.2.2.2.1 == 0 && (bt216.2.2.2.2.1 == (-1)))))) = true then (some (bt216.2.2.2.2.2 == 0)) else (none)) else (none)) else (none)) else (none)) else (none)) else (none))) else (none))) = some r := H
  have A4 := Aside0.mk A40
  clear A40
  replace H := Option.bind_eq_some_iff.mp H
  obtain ⟨⟨t216, t217, t218, t219, t220, t221⟩, A50, H⟩ := H
  replace H : (if t199 = 0 then (if t197.toList = ([] : List UInt8) then (none) else (if t198.toList = ([] : List UInt8) then (if t203 = 0 then (if t207 = 0 then (if (t209 == 2 && (t210 == 8 && (t211 == 0 && (t212 == 0 && (t213 == 3))))) = true then (if t214 = 0 then (if (t216 == 1 && (t217 == 7 && (t218 == 0 && (t219 == 0 && (t220 == (-1)))))) = true then (some (t221 == 0)) else (none)) else (none)) else (none)) else (none)) else (none)) else (none))) else (none)) = some r := H
  have A5 := Aside0.mk A50
  clear A50
  by_cases c6 : t199 = 0
  · rw [if_pos c6] at H
    have c6b0 : (t199 == 0) = true := beq_iff_eq.mpr c6
    have c6b1 : (t199 != 0) = false := bne_eq_false_iff_eq.mpr c6
    clear c6
    by_cases c7 : t197.toList = ([] : List UInt8)
    · rw [if_pos c7] at H
      exact absurd H (by simp)
    · rw [if_neg c7] at H
      have c7b0 : (t197.toList == ([] : List UInt8)) = false := beq_eq_false_iff_ne.mpr c7
      have c7b1 : (t197.toList != ([] : List UInt8)) = true := bne_iff_ne.mpr c7
      by_cases c8 : t198.toList = ([] : List UInt8)
      · rw [if_pos c8] at H
        have c8b0 : (t198.toList == ([] : List UInt8)) = true := beq_iff_eq.mpr c8
        have c8b1 : (t198.toList != ([] : List UInt8)) = false := bne_eq_false_iff_eq.mpr c8
        clear c8
        by_cases c9 : t203 = 0
        · rw [if_pos c9] at H
          have c9b0 : (t203 == 0) = true := beq_iff_eq.mpr c9
          have c9b1 : (t203 != 0) = false := bne_eq_false_iff_eq.mpr c9
          clear c9
          by_cases c10 : t207 = 0
          · rw [if_pos c10] at H
            have c10b0 : (t207 == 0) = true := beq_iff_eq.mpr c10
            have c10b1 : (t207 != 0) = false := bne_eq_false_iff_eq.mpr c10
            clear c10
            by_cases c11 : (t209 == 2 && (t210 == 8 && (t211 == 0 && (t212 == 0 && (t213 == 3))))) = true
            · rw [if_pos c11] at H
              have c11b0 : (t209 == 2 && (t210 == 8 && (t211 == 0 && (t212 == 0 && (t213 == 3))))) = true := c11
              (try (have c11b1 : decide (t209 = 2 && (t210 == 8 && (t211 == 0 && (t212 == 0 && (t213 == 3))))) = true := by simpa using c11))
              (try (have c11b2 : (t209 == 2 && (t210 == 8 && (t211 == 0 && (t212 == 0 && (t213 == 3))))) = true := by simpa using c11))
              clear c11
              by_cases c12 : t214 = 0
              · rw [if_pos c12] at H
                have c12b0 : (t214 == 0) = true := beq_iff_eq.mpr c12
                have c12b1 : (t214 != 0) = false := bne_eq_false_iff_eq.mpr c12
                clear c12
                by_cases c13 : (t216 == 1 && (t217 == 7 && (t218 == 0 && (t219 == 0 && (t220 == (-1)))))) = true
                · rw [if_pos c13] at H
                  have c13b0 : (t216 == 1 && (t217 == 7 && (t218 == 0 && (t219 == 0 && (t220 == (-1)))))) = true := c13
                  (try (have c13b1 : decide (t216 = 1 && (t217 == 7 && (t218 == 0 && (t219 == 0 && (t220 == (-1)))))) = true := by simpa using c13))
                  (try (have c13b2 : (t216 == 1 && (t217 == 7 && (t218 == 0 && (t219 == 0 && (t220 == (-1)))))) = true := by simpa using c13))
                  clear c13
                  obtain rfl := Option.some.inj H
                  go_enter Try.func16, Try.ntmps16
                  go_wp2_with (first | ((with_reducible refine gate_callee (f := 18) rfl ?_); refine goesL_ (some 14) rfl rfl Try.func18 (by kernel_rfl) rfl #[.agg #[.string (⟨#[]⟩ : ByteArray), .string (⟨#[]⟩ : ByteArray)], .agg #[.int .u64 0, .int .u64 7, .int .u64 0, .int .u64 0, .int .i64 (-1)]] rfl (by (try simp only [List.map_toArray, List.map_cons, List.map_nil]); first | done | rfl | (simp only [List.length_drop, List.length_take]; rfl)) ?_; (with_reducible refine (disk_Write.calls k (⟨#[]⟩ : ByteArray) (⟨#[]⟩ : ByteArray) 0 7 0 0 (-1) t197 t198 t199 _ A1.out).mono ?_); rintro e w14 ⟨rfl, hb⟩; refine ⟨_, rfl, ?_⟩; have n0_ := Aside0.mk (below_step (by repeat (first | (with_reducible first | exact HB.out | apply below_alloc | apply pw_below_drewN | apply below_drew1) | exact HB.out)) hb); clear HB; have HB := n0_; clear n0_; (try clear hb); (try clear hb2); (try clear hk); (try clear hi)) | ((with_reducible refine gate_dst (N := 1) rfl ?_); refine box_event ?hg (N := 1) ?hd (cs := #[.string (⟨#[]⟩ : ByteArray), .string (⟨#[]⟩ : ByteArray)]) (t := 23) ?hr ?_; (case hd => rfl); (case hg => rfl); (case hr => first | (go_simp; done) | (go_simp; rfl)); intro gb200 hg w15 hbox hb; have n0_ := Aside0.mk (below_step (by repeat (first | (with_reducible first | exact HB.out | apply below_alloc | apply pw_below_drewN | apply below_drew1) | exact HB.out)) hb); have n1_ := Aside0.mk (hbox); have n2_ := Aside0.mk ((by rw [hg]; exact (below_size (by repeat (first | (with_reducible first | exact HB.out | apply below_alloc | apply pw_below_drewN | apply below_drew1) | exact HB.out))) : w.heap.size ≤ gb200)); have n3_ := Aside0.mk ((by rw [hg]; exact (below_size (by repeat (first | (with_reducible first | exact HB.out | apply below_alloc | apply pw_below_drewN | apply below_drew1) | exact HB.out))) : w.heap.size ≤ gb200)); clear HB; have HB := n0_; have BK200 := n1_; have GW200 := n2_; have GE200 := n3_; clear n0_ n1_ n2_ n3_; clear hb hbox hg; have hcz16_0 : w15.cell? ⟨gb200, 0, none⟩ = some (.string (⟨#[]⟩ : ByteArray)) := (blk_cell BK200.out 0).trans rfl; have hcz16_1 : w15.cell? ⟨gb200, 1, none⟩ = some (.string (⟨#[]⟩ : ByteArray)) := (blk_cell BK200.out 1).trans rfl; have hfz16_0 := blk_frozen BK200.out 0; have hfz16_1 := blk_frozen BK200.out 1) | ((with_reducible refine gate_callee (f := 18) rfl ?_); refine goesL_ (some 20) rfl rfl Try.func18 (by kernel_rfl) rfl #[.agg #[.string t197, .string t198], .agg #[.int .u64 0, .int .u64 8, .int .u64 0, .int .u64 0, .int .i64 3]] rfl (by (try simp only [List.map_toArray, List.map_cons, List.map_nil]); first | done | rfl | (simp only [List.length_drop, List.length_take]; rfl)) ?_; (with_reducible refine (disk_Write.calls k t197 t198 0 8 0 0 3 t201 t202 t203 _ A2.out).mono ?_); rintro e w17 ⟨rfl, hb⟩; refine ⟨_, rfl, ?_⟩; have n0_ := Aside0.mk (blk_below (g := gb200) (o := .cells #[.string t197, .string t198] 23 (0, 0)) (by (with_reducible repeat (first | refine blk_drewN ?_ _ | refine blk_drew ?_ | refine blk_alloc ?_ _)); refine blk_put (cs := #[.string t197, .string (⟨#[]⟩ : ByteArray)]) ?_ 1 _ rfl; (with_reducible repeat (first | refine blk_drewN ?_ _ | refine blk_drew ?_ | refine blk_alloc ?_ _)); refine blk_put (cs := #[.string (⟨#[]⟩ : ByteArray), .string (⟨#[]⟩ : ByteArray)]) ?_ 0 _ rfl; (with_reducible repeat (first | refine blk_drewN ?_ _ | refine blk_drew ?_ | refine blk_alloc ?_ _)); exact BK200.out) hb); have n1_ := Aside0.mk (below_step (by repeat (first | (with_reducible first | exact HB.out | apply below_alloc | apply pw_below_drewN | apply below_drew1 | refine below_set ?_ GE200.out) | exact HB.out)) hb); clear BK200; clear HB; have BK200 := n0_; have HB := n1_; clear n0_ n1_; (try clear hb); (try clear hb2); (try clear hk); (try clear hi)) | ((with_reducible refine gate_dst (N := 3) rfl ?_); refine box_event ?hg (N := 3) ?hd (cs := #[.string (⟨#[]⟩ : ByteArray), .string (⟨#[]⟩ : ByteArray)]) (t := 23) ?hr ?_; (case hd => rfl); (case hg => rfl); (case hr => first | (go_simp; done) | (go_simp; rfl)); intro gb204 hg w18 hbox hb; have n0_ := Aside0.mk (blk_below (g := gb200) (o := .cells #[.string t197, .string t198] 23 (0, 0)) (by (with_reducible repeat (first | refine blk_drewN ?_ _ | refine blk_drew ?_ | refine blk_alloc ?_ _)); exact BK200.out) hb); have n1_ := Aside0.mk (below_step (by repeat (first | (with_reducible first | exact HB.out | apply below_alloc | apply pw_below_drewN | apply below_drew1 | refine below_set ?_ GE200.out) | exact HB.out)) hb); have n2_ := Aside0.mk (hbox); have n3_ := Aside0.mk ((by rw [hg]; exact (below_size (by repeat (first | (with_reducible first | exact HB.out | apply below_alloc | apply pw_below_drewN | apply below_drew1 | refine below_set ?_ GE200.out) | exact HB.out))) : w.heap.size ≤ gb204)); have n4_ := Aside0.mk ((by rw [hg]; exact (below_size (by repeat (first | (with_reducible first | exact HB.out | apply below_alloc | apply pw_below_drewN | apply below_drew1 | refine below_set ?_ GE200.out) | exact HB.out))) : w.heap.size ≤ gb204)); have n5_ := Aside0.mk ((by rw [hg]; exact Nat.ne_of_lt (blk_lt (g := gb200) (o := .cells #[.string t197, .string t198] 23 (0, 0)) (by (with_reducible repeat (first | refine blk_drewN ?_ _ | refine blk_drew ?_ | refine blk_alloc ?_ _)); exact BK200.out)) : gb200 ≠ gb204)); have n6_ := Aside0.mk ((by rw [hg]; exact Nat.ne_of_gt (blk_lt (g := gb200) (o := .cells #[.string t197, .string t198] 23 (0, 0)) (by (with_reducible repeat (first | refine blk_drewN ?_ _ | refine blk_drew ?_ | refine blk_alloc ?_ _)); exact BK200.out)) : gb204 ≠ gb200)); clear BK200; clear HB; have BK200 := n0_; have HB := n1_; have BK204 := n2_; have GW204 := n3_; have GE204 := n4_; have NB200_204 := n5_; have NB204_200 := n6_; clear n0_ n1_ n2_ n3_ n4_ n5_ n6_; clear hb hbox hg; have hnb19 := NB204_200.out; have hnc19 := NB200_204.out; have hcz20_0 : w18.cell? ⟨gb204, 0, none⟩ = some (.string (⟨#[]⟩ : ByteArray)) := (blk_cell BK204.out 0).trans rfl; have hcz20_1 : w18.cell? ⟨gb204, 1, none⟩ = some (.string (⟨#[]⟩ : ByteArray)) := (blk_cell BK204.out 1).trans rfl; have hfz20_0 := blk_frozen BK204.out 0; have hfz20_1 := blk_frozen BK204.out 1; have hcz21_0 : w18.cell? ⟨gb200, 0, none⟩ = some (.string t197) := (blk_cell BK200.out 0).trans rfl; have hcz21_1 : w18.cell? ⟨gb200, 1, none⟩ = some (.string t198) := (blk_cell BK200.out 1).trans rfl; have hfz21_0 := blk_frozen BK200.out 0; have hfz21_1 := blk_frozen BK200.out 1) | ((with_reducible refine gate_callee (f := 20) rfl ?_); refine goesL_ (some 26) rfl rfl Try.func20 (by kernel_rfl) rfl #[.agg #[.string t197, .string t198], .agg #[.int .u64 0, .int .u64 8, .int .u64 0, .int .u64 0, .int .i64 3], .int .i64 5] rfl (by (try simp only [List.map_toArray, List.map_cons, List.map_nil]); first | done | rfl | (simp only [List.length_drop, List.length_take]; rfl)) ?_; (with_reducible refine (disk_Tear.calls k t197 t198 0 8 0 0 3 5 t205 t206 t207 _ A3.out).mono ?_); rintro e w22 ⟨rfl, hb⟩; refine ⟨_, rfl, ?_⟩; have n0_ := Aside0.mk (blk_below (g := gb200) (o := .cells #[.string t197, .string t198] 23 (0, 0)) (by (with_reducible repeat (first | refine blk_drewN ?_ _ | refine blk_drew ?_ | refine blk_alloc ?_ _)); refine blk_far ?_ NB200_204.out _; (with_reducible repeat (first | refine blk_drewN ?_ _ | refine blk_drew ?_ | refine blk_alloc ?_ _)); refine blk_far ?_ NB200_204.out _; (with_reducible repeat (first | refine blk_drewN ?_ _ | refine blk_drew ?_ | refine blk_alloc ?_ _)); exact BK200.out) hb); have n1_ := Aside0.mk (blk_below (g := gb204) (o := .cells #[.string t201, .string t202] 23 (0, 0)) (by (with_reducible repeat (first | refine blk_drewN ?_ _ | refine blk_drew ?_ | refine blk_alloc ?_ _)); refine blk_put (cs := #[.string t201, .string (⟨#[]⟩ : ByteArray)]) ?_ 1 _ rfl; (with_reducible repeat (first | refine blk_drewN ?_ _ | refine blk_drew ?_ | refine blk_alloc ?_ _)); refine blk_put (cs := #[.string (⟨#[]⟩ : ByteArray), .string (⟨#[]⟩ : ByteArray)]) ?_ 0 _ rfl; (with_reducible repeat (first | refine blk_drewN ?_ _ | refine blk_drew ?_ | refine blk_alloc ?_ _)); exact BK204.out) hb); have n2_ := Aside0.mk (below_step (by repeat (first | (with_reducible first | exact HB.out | apply below_alloc | apply pw_below_drewN | apply below_drew1 | refine below_set ?_ GE200.out | refine below_set ?_ GE204.out) | exact HB.out)) hb); clear BK200; clear BK204; clear HB; have BK200 := n0_; have BK204 := n1_; have HB := n2_; clear n0_ n1_ n2_; (try clear hb); (try clear hb2); (try clear hk); (try clear hi)) | ((with_reducible refine gate_dst (N := 5) rfl ?_); refine box_event ?hg (N := 5) ?hd (cs := #[.string (⟨#[]⟩ : ByteArray), .string (⟨#[]⟩ : ByteArray)]) (t := 23) ?hr ?_; (case hd => rfl); (case hg => rfl); (case hr => first | (go_simp; done) | (go_simp; rfl)); intro gb208 hg w23 hbox hb; have n0_ := Aside0.mk (blk_below (g := gb200) (o := .cells #[.string t197, .string t198] 23 (0, 0)) (by (with_reducible repeat (first | refine blk_drewN ?_ _ | refine blk_drew ?_ | refine blk_alloc ?_ _)); exact BK200.out) hb); have n1_ := Aside0.mk (blk_below (g := gb204) (o := .cells #[.string t201, .string t202] 23 (0, 0)) (by (with_reducible repeat (first | refine blk_drewN ?_ _ | refine blk_drew ?_ | refine blk_alloc ?_ _)); exact BK204.out) hb); have n2_ := Aside0.mk (below_step (by repeat (first | (with_reducible first | exact HB.out | apply below_alloc | apply pw_below_drewN | apply below_drew1 | refine below_set ?_ GE200.out | refine below_set ?_ GE204.out) | exact HB.out)) hb); have n3_ := Aside0.mk (hbox); have n4_ := Aside0.mk ((by rw [hg]; exact (below_size (by repeat (first | (with_reducible first | exact HB.out | apply below_alloc | apply pw_below_drewN | apply below_drew1 | refine below_set ?_ GE200.out | refine below_set ?_ GE204.out) | exact HB.out))) : w.heap.size ≤ gb208)); have n5_ := Aside0.mk ((by rw [hg]; exact (below_size (by repeat (first | (with_reducible first | exact HB.out | apply below_alloc | apply pw_below_drewN | apply below_drew1 | refine below_set ?_ GE200.out | refine below_set ?_ GE204.out) | exact HB.out))) : w.heap.size ≤ gb208)); have n6_ := Aside0.mk ((by rw [hg]; exact Nat.ne_of_lt (blk_lt (g := gb200) (o := .cells #[.string t197, .string t198] 23 (0, 0)) (by (with_reducible repeat (first | refine blk_drewN ?_ _ | refine blk_drew ?_ | refine blk_alloc ?_ _)); exact BK200.out)) : gb200 ≠ gb208)); have n7_ := Aside0.mk ((by rw [hg]; exact Nat.ne_of_gt (blk_lt (g := gb200) (o := .cells #[.string t197, .string t198] 23 (0, 0)) (by (with_reducible repeat (first | refine blk_drewN ?_ _ | refine blk_drew ?_ | refine blk_alloc ?_ _)); exact BK200.out)) : gb208 ≠ gb200)); have n8_ := Aside0.mk ((by rw [hg]; exact Nat.ne_of_lt (blk_lt (g := gb204) (o := .cells #[.string t201, .string t202] 23 (0, 0)) (by (with_reducible repeat (first | refine blk_drewN ?_ _ | refine blk_drew ?_ | refine blk_alloc ?_ _)); exact BK204.out)) : gb204 ≠ gb208)); have n9_ := Aside0.mk ((by rw [hg]; exact Nat.ne_of_gt (blk_lt (g := gb204) (o := .cells #[.string t201, .string t202] 23 (0, 0)) (by (with_reducible repeat (first | refine blk_drewN ?_ _ | refine blk_drew ?_ | refine blk_alloc ?_ _)); exact BK204.out)) : gb208 ≠ gb204)); clear BK200; clear BK204; clear HB; have BK200 := n0_; have BK204 := n1_; have HB := n2_; have BK208 := n3_; have GW208 := n4_; have GE208 := n5_; have NB200_208 := n6_; have NB208_200 := n7_; have NB204_208 := n8_; have NB208_204 := n9_; clear n0_ n1_ n2_ n3_ n4_ n5_ n6_ n7_ n8_ n9_; clear hb hbox hg; have hnb24 := NB208_200.out; have hnc24 := NB200_208.out; have hnb25 := NB208_204.out; have hnc25 := NB204_208.out; have hcz26_0 : w23.cell? ⟨gb208, 0, none⟩ = some (.string (⟨#[]⟩ : ByteArray)) := (blk_cell BK208.out 0).trans rfl; have hcz26_1 : w23.cell? ⟨gb208, 1, none⟩ = some (.string (⟨#[]⟩ : ByteArray)) := (blk_cell BK208.out 1).trans rfl; have hfz26_0 := blk_frozen BK208.out 0; have hfz26_1 := blk_frozen BK208.out 1; have hcz27_0 : w23.cell? ⟨gb204, 0, none⟩ = some (.string t201) := (blk_cell BK204.out 0).trans rfl; have hcz27_1 : w23.cell? ⟨gb204, 1, none⟩ = some (.string t202) := (blk_cell BK204.out 1).trans rfl; have hfz27_0 := blk_frozen BK204.out 0; have hfz27_1 := blk_frozen BK204.out 1) | ((with_reducible refine gate_callee (f := 12) rfl ?_); refine goesL_ (some 31) rfl rfl Try.func12 (by kernel_rfl) rfl #[.agg #[.string t201, .string t202]] rfl (by (try simp only [List.map_toArray, List.map_cons, List.map_nil]); first | done | rfl | (simp only [List.length_drop, List.length_take]; rfl)) ?_; (with_reducible refine (disk_Read.calls k t201 t202 t209 t210 t211 t212 t213 t214 _ A4.out).mono ?_); rintro e w28 ⟨rfl, hb⟩; refine ⟨_, rfl, ?_⟩; have n0_ := Aside0.mk (blk_below (g := gb200) (o := .cells #[.string t197, .string t198] 23 (0, 0)) (by (with_reducible repeat (first | refine blk_drewN ?_ _ | refine blk_drew ?_ | refine blk_alloc ?_ _)); refine blk_far ?_ NB200_208.out _; (with_reducible repeat (first | refine blk_drewN ?_ _ | refine blk_drew ?_ | refine blk_alloc ?_ _)); refine blk_far ?_ NB200_208.out _; (with_reducible repeat (first | refine blk_drewN ?_ _ | refine blk_drew ?_ | refine blk_alloc ?_ _)); exact BK200.out) hb); have n1_ := Aside0.mk (blk_below (g := gb204) (o := .cells #[.string t201, .string t202] 23 (0, 0)) (by (with_reducible repeat (first | refine blk_drewN ?_ _ | refine blk_drew ?_ | refine blk_alloc ?_ _)); refine blk_far ?_ NB204_208.out _; (with_reducible repeat (first | refine blk_drewN ?_ _ | refine blk_drew ?_ | refine blk_alloc ?_ _)); refine blk_far ?_ NB204_208.out _; (with_reducible repeat (first | refine blk_drewN ?_ _ | refine blk_drew ?_ | refine blk_alloc ?_ _)); exact BK204.out) hb); have n2_ := Aside0.mk (blk_below (g := gb208) (o := .cells #[.string t205, .string t206] 23 (0, 0)) (by (with_reducible repeat (first | refine blk_drewN ?_ _ | refine blk_drew ?_ | refine blk_alloc ?_ _)); refine blk_put (cs := #[.string t205, .string (⟨#[]⟩ : ByteArray)]) ?_ 1 _ rfl; (with_reducible repeat (first | refine blk_drewN ?_ _ | refine blk_drew ?_ | refine blk_alloc ?_ _)); refine blk_put (cs := #[.string (⟨#[]⟩ : ByteArray), .string (⟨#[]⟩ : ByteArray)]) ?_ 0 _ rfl; (with_reducible repeat (first | refine blk_drewN ?_ _ | refine blk_drew ?_ | refine blk_alloc ?_ _)); exact BK208.out) hb); have n3_ := Aside0.mk (below_step (by repeat (first | (with_reducible first | exact HB.out | apply below_alloc | apply pw_below_drewN | apply below_drew1 | refine below_set ?_ GE200.out | refine below_set ?_ GE204.out | refine below_set ?_ GE208.out) | exact HB.out)) hb); clear BK200; clear BK204; clear BK208; clear HB; have BK200 := n0_; have BK204 := n1_; have BK208 := n2_; have HB := n3_; clear n0_ n1_ n2_ n3_; (try clear hb); (try clear hb2); (try clear hk); (try clear hi)) | ((with_reducible refine gate_dst (N := 7) rfl ?_); refine box_event ?hg (N := 7) ?hd (cs := #[.int .u64 0, .int .u64 0, .int .u64 0, .int .u64 0, .int .i64 0]) (t := 26) ?hr ?_; (case hd => rfl); (case hg => rfl); (case hr => first | (go_simp; done) | (go_simp; rfl)); intro gb215 hg w29 hbox hb; have n0_ := Aside0.mk (blk_below (g := gb200) (o := .cells #[.string t197, .string t198] 23 (0, 0)) (by (with_reducible repeat (first | refine blk_drewN ?_ _ | refine blk_drew ?_ | refine blk_alloc ?_ _)); exact BK200.out) hb); have n1_ := Aside0.mk (blk_below (g := gb204) (o := .cells #[.string t201, .string t202] 23 (0, 0)) (by (with_reducible repeat (first | refine blk_drewN ?_ _ | refine blk_drew ?_ | refine blk_alloc ?_ _)); exact BK204.out) hb); have n2_ := Aside0.mk (blk_below (g := gb208) (o := .cells #[.string t205, .string t206] 23 (0, 0)) (by (with_reducible repeat (first | refine blk_drewN ?_ _ | refine blk_drew ?_ | refine blk_alloc ?_ _)); exact BK208.out) hb); have n3_ := Aside0.mk (below_step (by repeat (first | (with_reducible first | exact HB.out | apply below_alloc | apply pw_below_drewN | apply below_drew1 | refine below_set ?_ GE200.out | refine below_set ?_ GE204.out | refine below_set ?_ GE208.out) | exact HB.out)) hb); have n4_ := Aside0.mk (hbox); have n5_ := Aside0.mk ((by rw [hg]; exact (below_size (by repeat (first | (with_reducible first | exact HB.out | apply below_alloc | apply pw_below_drewN | apply below_drew1 | refine below_set ?_ GE200.out | refine below_set ?_ GE204.out | refine below_set ?_ GE208.out) | exact HB.out))) : w.heap.size ≤ gb215)); have n6_ := Aside0.mk ((by rw [hg]; exact (below_size (by repeat (first | (with_reducible first | exact HB.out | apply below_alloc | apply pw_below_drewN | apply below_drew1 | refine below_set ?_ GE200.out | refine below_set ?_ GE204.out | refine below_set ?_ GE208.out) | exact HB.out))) : w.heap.size ≤ gb215)); have n7_ := Aside0.mk ((by rw [hg]; exact Nat.ne_of_lt (blk_lt (g := gb200) (o := .cells #[.string t197, .string t198] 23 (0, 0)) (by (with_reducible repeat (first | refine blk_drewN ?_ _ | refine blk_drew ?_ | refine blk_alloc ?_ _)); exact BK200.out)) : gb200 ≠ gb215)); have n8_ := Aside0.mk ((by rw [hg]; exact Nat.ne_of_gt (blk_lt (g := gb200) (o := .cells #[.string t197, .string t198] 23 (0, 0)) (by (with_reducible repeat (first | refine blk_drewN ?_ _ | refine blk_drew ?_ | refine blk_alloc ?_ _)); exact BK200.out)) : gb215 ≠ gb200)); have n9_ := Aside0.mk ((by rw [hg]; exact Nat.ne_of_lt (blk_lt (g := gb204) (o := .cells #[.string t201, .string t202] 23 (0, 0)) (by (with_reducible repeat (first | refine blk_drewN ?_ _ | refine blk_drew ?_ | refine blk_alloc ?_ _)); exact BK204.out)) : gb204 ≠ gb215)); have n10_ := Aside0.mk ((by rw [hg]; exact Nat.ne_of_gt (blk_lt (g := gb204) (o := .cells #[.string t201, .string t202] 23 (0, 0)) (by (with_reducible repeat (first | refine blk_drewN ?_ _ | refine blk_drew ?_ | refine blk_alloc ?_ _)); exact BK204.out)) : gb215 ≠ gb204)); have n11_ := Aside0.mk ((by rw [hg]; exact Nat.ne_of_lt (blk_lt (g := gb208) (o := .cells #[.string t205, .string t206] 23 (0, 0)) (by (with_reducible repeat (first | refine blk_drewN ?_ _ | refine blk_drew ?_ | refine blk_alloc ?_ _)); exact BK208.out)) : gb208 ≠ gb215)); have n12_ := Aside0.mk ((by rw [hg]; exact Nat.ne_of_gt (blk_lt (g := gb208) (o := .cells #[.string t205, .string t206] 23 (0, 0)) (by (with_reducible repeat (first | refine blk_drewN ?_ _ | refine blk_drew ?_ | refine blk_alloc ?_ _)); exact BK208.out)) : gb215 ≠ gb208)); clear BK200; clear BK204; clear BK208; clear HB; have BK200 := n0_; have BK204 := n1_; have BK208 := n2_; have HB := n3_; have BK215 := n4_; have GW215 := n5_; have GE215 := n6_; have NB200_215 := n7_; have NB215_200 := n8_; have NB204_215 := n9_; have NB215_204 := n10_; have NB208_215 := n11_; have NB215_208 := n12_; clear n0_ n1_ n2_ n3_ n4_ n5_ n6_ n7_ n8_ n9_ n10_ n11_ n12_; clear hb hbox hg; have hnb30 := NB215_200.out; have hnc30 := NB200_215.out; have hnb31 := NB215_204.out; have hnc31 := NB204_215.out; have hnb32 := NB215_208.out; have hnc32 := NB208_215.out; have hcz33_0 : w29.cell? ⟨gb215, 0, none⟩ = some (.int .u64 0) := (blk_cell BK215.out 0).trans rfl; have hcz33_1 : w29.cell? ⟨gb215, 1, none⟩ = some (.int .u64 0) := (blk_cell BK215.out 1).trans rfl; have hcz33_2 : w29.cell? ⟨gb215, 2, none⟩ = some (.int .u64 0) := (blk_cell BK215.out 2).trans rfl; have hcz33_3 : w29.cell? ⟨gb215, 3, none⟩ = some (.int .u64 0) := (blk_cell BK215.out 3).trans rfl; have hcz33_4 : w29.cell? ⟨gb215, 4, none⟩ = some (.int .i64 0) := (blk_cell BK215.out 4).trans rfl; have hfz33_0 := blk_frozen BK215.out 0; have hfz33_1 := blk_frozen BK215.out 1; have hfz33_2 := blk_frozen BK215.out 2; have hfz33_3 := blk_frozen BK215.out 3; have hfz33_4 := blk_frozen BK215.out 4; have hcz34_0 : w29.cell? ⟨gb208, 0, none⟩ = some (.string t205) := (blk_cell BK208.out 0).trans rfl; have hcz34_1 : w29.cell? ⟨gb208, 1, none⟩ = some (.string t206) := (blk_cell BK208.out 1).trans rfl; have hfz34_0 := blk_frozen BK208.out 0; have hfz34_1 := blk_frozen BK208.out 1) | ((with_reducible refine gate_callee (f := 12) rfl ?_); refine goesL_ (some 36) rfl rfl Try.func12 (by kernel_rfl) rfl #[.agg #[.string t205, .string t206]] rfl (by (try simp only [List.map_toArray, List.map_cons, List.map_nil]); first | done | rfl | (simp only [List.length_drop, List.length_take]; rfl)) ?_; (with_reducible refine (disk_Read.calls k t205 t206 t216 t217 t218 t219 t220 t221 _ A5.out).mono ?_); rintro e w35 ⟨rfl, hb⟩; refine ⟨_, rfl, ?_⟩; have n0_ := Aside0.mk (blk_below (g := gb200) (o := .cells #[.string t197, .string t198] 23 (0, 0)) (by (with_reducible repeat (first | refine blk_drewN ?_ _ | refine blk_drew ?_ | refine blk_alloc ?_ _)); refine blk_far ?_ NB200_215.out _; (with_reducible repeat (first | refine blk_drewN ?_ _ | refine blk_drew ?_ | refine blk_alloc ?_ _)); refine blk_far ?_ NB200_215.out _; (with_reducible repeat (first | refine blk_drewN ?_ _ | refine blk_drew ?_ | refine blk_alloc ?_ _)); refine blk_far ?_ NB200_215.out _; (with_reducible repeat (first | refine blk_drewN ?_ _ | refine blk_drew ?_ | refine blk_alloc ?_ _)); refine blk_far ?_ NB200_215.out _; (with_reducible repeat (first | refine blk_drewN ?_ _ | refine blk_drew ?_ | refine blk_alloc ?_ _)); refine blk_far ?_ NB200_215.out _; (with_reducible repeat (first | refine blk_drewN ?_ _ | refine blk_drew ?_ | refine blk_alloc ?_ _)); exact BK200.out) hb); have n1_ := Aside0.mk (blk_below (g := gb204) (o := .cells #[.string t201, .string t202] 23 (0, 0)) (by (with_reducible repeat (first | refine blk_drewN ?_ _ | refine blk_drew ?_ | refine blk_alloc ?_ _)); refine blk_far ?_ NB204_215.out _; (with_reducible repeat (first | refine blk_drewN ?_ _ | refine blk_drew ?_ | refine blk_alloc ?_ _)); refine blk_far ?_ NB204_215.out _; (with_reducible repeat (first | refine blk_drewN ?_ _ | refine blk_drew ?_ | refine blk_alloc ?_ _)); refine blk_far ?_ NB204_215.out _; (with_reducible repeat (first | refine blk_drewN ?_ _ | refine blk_drew ?_ | refine blk_alloc ?_ _)); refine blk_far ?_ NB204_215.out _; (with_reducible repeat (first | refine blk_drewN ?_ _ | refine blk_drew ?_ | refine blk_alloc ?_ _)); refine blk_far ?_ NB204_215.out _; (with_reducible repeat (first | refine blk_drewN ?_ _ | refine blk_drew ?_ | refine blk_alloc ?_ _)); exact BK204.out) hb); have n2_ := Aside0.mk (blk_below (g := gb208) (o := .cells #[.string t205, .string t206] 23 (0, 0)) (by (with_reducible repeat (first | refine blk_drewN ?_ _ | refine blk_drew ?_ | refine blk_alloc ?_ _)); refine blk_far ?_ NB208_215.out _; (with_reducible repeat (first | refine blk_drewN ?_ _ | refine blk_drew ?_ | refine blk_alloc ?_ _)); refine blk_far ?_ NB208_215.out _; (with_reducible repeat (first | refine blk_drewN ?_ _ | refine blk_drew ?_ | refine blk_alloc ?_ _)); refine blk_far ?_ NB208_215.out _; (with_reducible repeat (first | refine blk_drewN ?_ _ | refine blk_drew ?_ | refine blk_alloc ?_ _)); refine blk_far ?_ NB208_215.out _; (with_reducible repeat (first | refine blk_drewN ?_ _ | refine blk_drew ?_ | refine blk_alloc ?_ _)); refine blk_far ?_ NB208_215.out _; (with_reducible repeat (first | refine blk_drewN ?_ _ | refine blk_drew ?_ | refine blk_alloc ?_ _)); exact BK208.out) hb); have n3_ := Aside0.mk (blk_below (g := gb215) (o := .cells #[.int .u64 t209, .int .u64 t210, .int .u64 t211, .int .u64 t212, .int .i64 t213] 26 (0, 0)) (by (with_reducible repeat (first | refine blk_drewN ?_ _ | refine blk_drew ?_ | refine blk_alloc ?_ _)); refine blk_put (cs := #[.int .u64 t209, .int .u64 t210, .int .u64 t211, .int .u64 t212, .int .i64 0]) ?_ 4 _ rfl; (with_reducible repeat (first | refine blk_drewN ?_ _ | refine blk_drew ?_ | refine blk_alloc ?_ _)); refine blk_put (cs := #[.int .u64 t209, .int .u64 t210, .int .u64 t211, .int .u64 0, .int .i64 0]) ?_ 3 _ rfl; (with_reducible repeat (first | refine blk_drewN ?_ _ | refine blk_drew ?_ | refine blk_alloc ?_ _)); refine blk_put (cs := #[.int .u64 t209, .int .u64 t210, .int .u64 0, .int .u64 0, .int .i64 0]) ?_ 2 _ rfl; (with_reducible repeat (first | refine blk_drewN ?_ _ | refine blk_drew ?_ | refine blk_alloc ?_ _)); refine blk_put (cs := #[.int .u64 t209, .int .u64 0, .int .u64 0, .int .u64 0, .int .i64 0]) ?_ 1 _ rfl; (with_reducible repeat (first | refine blk_drewN ?_ _ | refine blk_drew ?_ | refine blk_alloc ?_ _)); refine blk_put (cs := #[.int .u64 0, .int .u64 0, .int .u64 0, .int .u64 0, .int .i64 0]) ?_ 0 _ rfl; (with_reducible repeat (first | refine blk_drewN ?_ _ | refine blk_drew ?_ | refine blk_alloc ?_ _)); exact BK215.out) hb); have n4_ := Aside0.mk (below_step (by repeat (first | (with_reducible first | exact HB.out | apply below_alloc | apply pw_below_drewN | apply below_drew1 | refine below_set ?_ GE200.out | refine below_set ?_ GE204.out | refine below_set ?_ GE208.out | refine below_set ?_ GE215.out) | exact HB.out)) hb); clear BK200; clear BK204; clear BK208; clear BK215; clear HB; have BK200 := n0_; have BK204 := n1_; have BK208 := n2_; have BK215 := n3_; have HB := n4_; clear n0_ n1_ n2_ n3_ n4_; (try clear hb); (try clear hb2); (try clear hk); (try clear hi)) | ((with_reducible refine gate_dst (N := 9) rfl ?_); refine box_event ?hg (N := 9) ?hd (cs := #[.int .u64 0, .int .u64 0, .int .u64 0, .int .u64 0, .int .i64 0]) (t := 26) ?hr ?_; (case hd => rfl); (case hg => rfl); (case hr => first | (go_simp; done) | (go_simp; rfl)); intro gb222 hg w36 hbox hb; have n0_ := Aside0.mk (blk_below (g := gb200) (o := .cells #[.string t197, .string t198] 23 (0, 0)) (by (with_reducible repeat (first | refine blk_drewN ?_ _ | refine blk_drew ?_ | refine blk_alloc ?_ _)); exact BK200.out) hb); have n1_ := Aside0.mk (blk_below (g := gb204) (o := .cells #[.string t201, .string t202] 23 (0, 0)) (by (with_reducible repeat (first | refine blk_drewN ?_ _ | refine blk_drew ?_ | refine blk_alloc ?_ _)); exact BK204.out) hb); have n2_ := Aside0.mk (blk_below (g := gb208) (o := .cells #[.string t205, .string t206] 23 (0, 0)) (by (with_reducible repeat (first | refine blk_drewN ?_ _ | refine blk_drew ?_ | refine blk_alloc ?_ _)); exact BK208.out) hb); have n3_ := Aside0.mk (blk_below (g := gb215) (o := .cells #[.int .u64 t209, .int .u64 t210, .int .u64 t211, .int .u64 t212, .int .i64 t213] 26 (0, 0)) (by (with_reducible repeat (first | refine blk_drewN ?_ _ | refine blk_drew ?_ | refine blk_alloc ?_ _)); exact BK215.out) hb); have n4_ := Aside0.mk (below_step (by repeat (first | (with_reducible first | exact HB.out | apply below_alloc | apply pw_below_drewN | apply below_drew1 | refine below_set ?_ GE200.out | refine below_set ?_ GE204.out | refine below_set ?_ GE208.out | refine below_set ?_ GE215.out) | exact HB.out)) hb); have n5_ := Aside0.mk (hbox); have n6_ := Aside0.mk ((by rw [hg]; exact (below_size (by repeat (first | (with_reducible first | exact HB.out | apply below_alloc | apply pw_below_drewN | apply below_drew1 | refine below_set ?_ GE200.out | refine below_set ?_ GE204.out | refine below_set ?_ GE208.out | refine below_set ?_ GE215.out) | exact HB.out))) : w.heap.size ≤ gb222)); have n7_ := Aside0.mk ((by rw [hg]; exact (below_size (by repeat (first | (with_reducible first | exact HB.out | apply below_alloc | apply pw_below_drewN | apply below_drew1 | refine below_set ?_ GE200.out | refine below_set ?_ GE204.out | refine below_set ?_ GE208.out | refine below_set ?_ GE215.out) | exact HB.out))) : w.heap.size ≤ gb222)); have n8_ := Aside0.mk ((by rw [hg]; exact Nat.ne_of_lt (blk_lt (g := gb200) (o := .cells #[.string t197, .string t198] 23 (0, 0)) (by (with_reducible repeat (first | refine blk_drewN ?_ _ | refine blk_drew ?_ | refine blk_alloc ?_ _)); exact BK200.out)) : gb200 ≠ gb222)); have n9_ := Aside0.mk ((by rw [hg]; exact Nat.ne_of_gt (blk_lt (g := gb200) (o := .cells #[.string t197, .string t198] 23 (0, 0)) (by (with_reducible repeat (first | refine blk_drewN ?_ _ | refine blk_drew ?_ | refine blk_alloc ?_ _)); exact BK200.out)) : gb222 ≠ gb200)); have n10_ := Aside0.mk ((by rw [hg]; exact Nat.ne_of_lt (blk_lt (g := gb204) (o := .cells #[.string t201, .string t202] 23 (0, 0)) (by (with_reducible repeat (first | refine blk_drewN ?_ _ | refine blk_drew ?_ | refine blk_alloc ?_ _)); exact BK204.out)) : gb204 ≠ gb222)); have n11_ := Aside0.mk ((by rw [hg]; exact Nat.ne_of_gt (blk_lt (g := gb204) (o := .cells #[.string t201, .string t202] 23 (0, 0)) (by (with_reducible repeat (first | refine blk_drewN ?_ _ | refine blk_drew ?_ | refine blk_alloc ?_ _)); exact BK204.out)) : gb222 ≠ gb204)); have n12_ := Aside0.mk ((by rw [hg]; exact Nat.ne_of_lt (blk_lt (g := gb208) (o := .cells #[.string t205, .string t206] 23 (0, 0)) (by (with_reducible repeat (first | refine blk_drewN ?_ _ | refine blk_drew ?_ | refine blk_alloc ?_ _)); exact BK208.out)) : gb208 ≠ gb222)); have n13_ := Aside0.mk ((by rw [hg]; exact Nat.ne_of_gt (blk_lt (g := gb208) (o := .cells #[.string t205, .string t206] 23 (0, 0)) (by (with_reducible repeat (first | refine blk_drewN ?_ _ | refine blk_drew ?_ | refine blk_alloc ?_ _)); exact BK208.out)) : gb222 ≠ gb208)); have n14_ := Aside0.mk ((by rw [hg]; exact Nat.ne_of_lt (blk_lt (g := gb215) (o := .cells #[.int .u64 t209, .int .u64 t210, .int .u64 t211, .int .u64 t212, .int .i64 t213] 26 (0, 0)) (by (with_reducible repeat (first | refine blk_drewN ?_ _ | refine blk_drew ?_ | refine blk_alloc ?_ _)); exact BK215.out)) : gb215 ≠ gb222)); have n15_ := Aside0.mk ((by rw [hg]; exact Nat.ne_of_gt (blk_lt (g := gb215) (o := .cells #[.int .u64 t209, .int .u64 t210, .int .u64 t211, .int .u64 t212, .int .i64 t213] 26 (0, 0)) (by (with_reducible repeat (first | refine blk_drewN ?_ _ | refine blk_drew ?_ | refine blk_alloc ?_ _)); exact BK215.out)) : gb222 ≠ gb215)); clear BK200; clear BK204; clear BK208; clear BK215; clear HB; have BK200 := n0_; have BK204 := n1_; have BK208 := n2_; have BK215 := n3_; have HB := n4_; have BK222 := n5_; have GW222 := n6_; have GE222 := n7_; have NB200_222 := n8_; have NB222_200 := n9_; have NB204_222 := n10_; have NB222_204 := n11_; have NB208_222 := n12_; have NB222_208 := n13_; have NB215_222 := n14_; have NB222_215 := n15_; clear n0_ n1_ n2_ n3_ n4_ n5_ n6_ n7_ n8_ n9_ n10_ n11_ n12_ n13_ n14_ n15_; clear hb hbox hg; have hnb37 := NB222_200.out; have hnc37 := NB200_222.out; have hnb38 := NB222_204.out; have hnc38 := NB204_222.out; have hnb39 := NB222_208.out; have hnc39 := NB208_222.out; have hnb40 := NB222_215.out; have hnc40 := NB215_222.out; have hcz41_0 : w36.cell? ⟨gb222, 0, none⟩ = some (.int .u64 0) := (blk_cell BK222.out 0).trans rfl; have hcz41_1 : w36.cell? ⟨gb222, 1, none⟩ = some (.int .u64 0) := (blk_cell BK222.out 1).trans rfl; have hcz41_2 : w36.cell? ⟨gb222, 2, none⟩ = some (.int .u64 0) := (blk_cell BK222.out 2).trans rfl; have hcz41_3 : w36.cell? ⟨gb222, 3, none⟩ = some (.int .u64 0) := (blk_cell BK222.out 3).trans rfl; have hcz41_4 : w36.cell? ⟨gb222, 4, none⟩ = some (.int .i64 0) := (blk_cell BK222.out 4).trans rfl; have hfz41_0 := blk_frozen BK222.out 0; have hfz41_1 := blk_frozen BK222.out 1; have hfz41_2 := blk_frozen BK222.out 2; have hfz41_3 := blk_frozen BK222.out 3; have hfz41_4 := blk_frozen BK222.out 4; have hcz42_0 : w36.cell? ⟨gb200, 0, none⟩ = some (.string t197) := (blk_cell BK200.out 0).trans rfl; have hcz42_1 : w36.cell? ⟨gb200, 1, none⟩ = some (.string t198) := (blk_cell BK200.out 1).trans rfl; have hfz42_0 := blk_frozen BK200.out 0; have hfz42_1 := blk_frozen BK200.out 1; have hcz43_0 : w36.cell? ⟨gb215, 0, none⟩ = some (.int .u64 t209) := (blk_cell BK215.out 0).trans rfl; have hcz43_1 : w36.cell? ⟨gb215, 1, none⟩ = some (.int .u64 t210) := (blk_cell BK215.out 1).trans rfl; have hcz43_2 : w36.cell? ⟨gb215, 2, none⟩ = some (.int .u64 t211) := (blk_cell BK215.out 2).trans rfl; have hcz43_3 : w36.cell? ⟨gb215, 3, none⟩ = some (.int .u64 t212) := (blk_cell BK215.out 3).trans rfl; have hcz43_4 : w36.cell? ⟨gb215, 4, none⟩ = some (.int .i64 t213) := (blk_cell BK215.out 4).trans rfl; have hfz43_0 := blk_frozen BK215.out 0; have hfz43_1 := blk_frozen BK215.out 1; have hfz43_2 := blk_frozen BK215.out 2; have hfz43_3 := blk_frozen BK215.out 3; have hfz43_4 := blk_frozen BK215.out 4))
                  go_ret
                  exact ⟨by first | rfl | (simp [errW_none, errW_some] <;> rfl) | (simp [*, errW_none, errW_some] <;> rfl), by repeat (first | (with_reducible first | exact HB.out | apply below_alloc | apply pw_below_drewN | apply below_drew1 | refine below_set ?_ GE200.out | refine below_set ?_ GE204.out | refine below_set ?_ GE208.out | refine below_set ?_ GE215.out | refine below_set ?_ GE222.out) | exact HB.out)⟩
                · rw [if_neg c13] at H
                  exact absurd H (by simp)
              · rw [if_neg c12] at H
                exact absurd H (by simp)
            · rw [if_neg c11] at H
              exact absurd H (by simp)
          · rw [if_neg c10] at H
            exact absurd H (by simp)
        · rw [if_neg c9] at H
          exact absurd H (by simp)
      · rw [if_neg c8] at H
        exact absurd H (by simp)
  · rw [if_neg c6] at H
    exact absurd H (by simp)

/-! ### tattleref01_Turn: function 21 -/
/-- a text with bit j turned -/
def turned (s : ByteArray) (j : Nat) : ByteArray := strOfNums ((bytesOf s).set (j / 8) (Go.bits .xor .u8 ((bytesOf s).getD (j / 8) 0) (2 ^ (j % 8) % 256)))
set_option maxRecDepth 100000 in
set_option maxHeartbeats 1000000 in
theorem turn_calls (s : ByteArray) (j : Nat) (hs : s.size < 1000000) (hj : j < 8 * s.size) (w : World) :
    Calls Try.prog 21 #[.string s, .int .i64 j] w fun e w' => e = .returned (.string (turned s j)) ∧ Below w.heap.size w w' := by
  have kb := fun W => print_bytes (P := Try.prog) 9 49 5 Try.underlying9 Try.underlying49 Try.underlying5 s W
  have h1 : decide ((j : Int) < 0) = false := decide_eq_false (by omega)
  have h2 : decide (8 * (s.size : Int) ≤ (j : Int)) = false := decide_eq_false (by omega)
  go_enter Try.func21, Try.ntmps21
  go_wp2
  clear kb
  obtain ⟨C, hC⟩ : ∃ C, C = grownCap w s.size 0 5 := ⟨_, rfl⟩
  rw [← hC]
  clear hC
  obtain ⟨w2, hw2⟩ : ∃ w2, w2 = Lib.bytesWorld w 5 s := ⟨_, rfl⟩
  rw [← hw2]
  have HW := Lib.hid hw2
  clear hw2
  obtain ⟨b, hb⟩ : ∃ b : Int, b = (bytesOf s).getD (j / 8) 0 := ⟨_, rfl⟩
  have hc : w2.cell? ⟨w.heap.size, j / 8, none⟩ = some (.int .u8 b) := by
    rw [HW.out, hb]
    have hl : (bytesOf s).length = s.size := bytesOf_length s
    rw [Lib.bytesWorld_cell w 5 s (j / 8) (by omega)]
    have h' : j / 8 < s.data.toList.length := by rw [data_length]; omega
    simp [bytesOf, List.getD_eq_getElem?_getD, List.getElem?_eq_getElem h']
  have hf : w2.frozen? ⟨w.heap.size, j / 8, none⟩ = false := by
    rw [HW.out]
    have hg := Lib.bytesWorld_at_new w 5 s
    have hz : s.size ≤ (Lib.bytesCells w 5 s).size := by simp [Lib.bytesCells]
    simp only [World.frozen?, hg]
    simp
    omega
  have Hb := Lib.hid hb
  clear hb
  have i0 : 0 ≤ (j : Int) := by omega
  have i1 : 0 ≤ (j : Int) / 8 := by omega
  have i2 : (j : Int) / 8 < (s.size : Int) := by omega
  have i3 : 0 ≤ (j : Int) % 8 := by omega
  have i4 : (j : Int) % 8 < 8 := by omega
  go_region
  obtain ⟨v, hv⟩ : ∃ v, v = Go.bits .xor .u8 b (2 ^ (j % 8) % 256) := ⟨_, rfl⟩
  rw [← hv]
  obtain ⟨w3, hw3⟩ : ∃ w3, w3 = (w2.setCell ⟨w.heap.size, j / 8, none⟩ (.int .u8 v)).drew := ⟨_, rfl⟩
  rw [← hw3]
  have hcell : ∀ i, i < s.size → w3.cell? ⟨w.heap.size, i, none⟩ = some (.int .u8 (((bytesOf s).set (j / 8) v).getD i 0)) := by
    intro i hi
    have hl : (bytesOf s).length = s.size := bytesOf_length s
    have hread : w2.cell? ⟨w.heap.size, i, none⟩ = some (.int .u8 ((bytesOf s).getD i 0)) := by
      rw [HW.out, Lib.bytesWorld_cell w 5 s i hi]
      have h' : i < s.data.toList.length := by rw [data_length]; exact hi
      simp [bytesOf, List.getD_eq_getElem?_getD, List.getElem?_eq_getElem h']
    rw [hw3]
    show (w2.setCell ⟨w.heap.size, j / 8, none⟩ (.int .u8 v)).cell? ⟨w.heap.size, i, none⟩ = _
    by_cases hij : i = j / 8
    · rw [hij, World.cell?_setCell_same _ _ _ hc]
      rw [List.getD_eq_getElem?_getD, List.getElem?_set_self (by omega)]; rfl
    · rw [World.cell?_setCell_other _ _ _ _ (fun h => hij (by injection h with _ h2 _; exact h2.symm)), hread]
      rw [List.getD_eq_getElem?_getD, List.getD_eq_getElem?_getD, List.getElem?_set_ne (fun h => hij h.symm)]
  have hR : ReadsInt w3 .u8 (some ⟨w.heap.size, 0, none⟩) s.size ((bytesOf s).set (j / 8) v) := by
    refine ⟨by rw [List.length_set, bytesOf_length], by omega, fun _ => ⟨_, rfl, fun i hi => ?_⟩⟩
    rw [add_plain]; exact hcell i hi
  have hB : Below w.heap.size w w3 := by
    rw [hw3, HW.out]
    exact below_drew ((bytes_below (Below.refl _ _) (Nat.le_refl _) 5 s).setCell (Nat.le_refl _) _)
  have kc := string_of_reads (P := Try.prog) (c := C) Try.underlying49 Try.underlying5 Try.underlying9 hR
  have HR := Lib.hid hB
  have Hv := Lib.hid hv
  clear hB hR hcell hc hf hv hw3
  go_wp2
  go_ret
  refine ⟨?_, HR.out⟩
  unfold turned
  rw [← Hb.out, ← Hv.out]
  rfl

set_option maxRecDepth 100000 in
set_option maxHeartbeats 1000000 in
theorem turn_neg (s : ByteArray) (j : Int) (hj : j < 0) (w : World) :
    Calls Try.prog 21 #[.string s, .int .i64 j] w fun e w' => e = .returned (.string s) ∧ Below w.heap.size w w' := by
  have h1 : decide (j < 0) = true := decide_eq_true hj
  go_enter Try.func21, Try.ntmps21
  go_wp2
  go_ret
  exact ⟨rfl, Below.refl _ _⟩
set_option maxRecDepth 100000 in
set_option maxHeartbeats 1000000 in
theorem turn_past (s : ByteArray) (j : Int) (hs : s.size < 1000000) (h0 : 0 ≤ j) (hj : 8 * (s.size : Int) ≤ j) (w : World) :
    Calls Try.prog 21 #[.string s, .int .i64 j] w fun e w' => e = .returned (.string s) ∧ Below w.heap.size w w' := by
  have h1 : decide (j < 0) = false := decide_eq_false (by omega)
  have h2 : decide (8 * (s.size : Int) ≤ j) = true := decide_eq_true hj
  go_enter Try.func21, Try.ntmps21
  go_wp2
  go_ret
  exact ⟨rfl, Below.refl _ _⟩

def tattleref01_Turn.f (a0 : ByteArray) (a1 : Int) : Option (ByteArray) := if a0.size < 1000000 then (if a1 < 0 then some a0 else if 8 * (a0.size : Int) ≤ a1 then some a0 else some (turned a0 a1.toNat)) else none
theorem tattleref01_Turn.calls (a0 : ByteArray) (a1 : Int) (r : ByteArray) (w : World) (h : tattleref01_Turn.f a0 a1 = some r) :
    Calls Try.prog 21 #[.string a0, .int .i64 a1] w fun e w' => e = .returned (.string r) ∧ Below w.heap.size w w' := by
  unfold tattleref01_Turn.f at h
  by_cases hs : a0.size < 1000000
  · rw [if_pos hs] at h
    by_cases h1 : a1 < 0
    · rw [if_pos h1] at h
      obtain rfl := Option.some.inj h
      exact turn_neg a0 a1 h1 w
    · rw [if_neg h1] at h
      by_cases h2 : 8 * (a0.size : Int) ≤ a1
      · rw [if_pos h2] at h
        obtain rfl := Option.some.inj h
        exact turn_past a0 a1 hs (by omega) h2 w
      · rw [if_neg h2] at h
        obtain rfl := Option.some.inj h
        obtain ⟨j, rfl⟩ := Int.eq_ofNat_of_zero_le (show 0 ≤ a1 by omega)
        rw [Int.toNat_natCast]
        exact turn_calls a0 j hs (by omega) w
  · rw [if_neg hs] at h
    exact absurd h (by simp)

end Go.Proofs.Ytldeanlnfhgjfaa.PDiskTurns
