-- Written by a program of this session (see NOTES.md) out of the print of Lean's own loaded functions; Lean checks it.
import Derived.Test.YtldeanlnfhgjfaaPDiskTurnsAboutx0
import Derived.Test.YtldeanlnfhgjfaaPDiskTurnsAboutx1
import Derived.Test.YtldeanlnfhgjfaaPDiskTurnsAboutx2
import Derived.Test.YtldeanlnfhgjfaaPDiskTurnsAboutx3
import Derived.Test.YtldeanlnfhgjfaaPDiskTurnsAboutx5
import Derived.Test.YtldeanlnfhgjfaaPDiskTurnsAboutx6
import Derived.Test.YtldeanlnfhgjfaaPDiskTurnsAboutx7
namespace Go.Proofs.Ytldeanlnfhgjfaa.PDiskTurnsAbout
open Go.RowKit Go.Proofs.YtldeanlnfhgjfaaW.PrintWords Go.Proofs.YtldeanlnfhgjfaaW.PrintLast Go.Proofs.YtldeanlnfhgjfaaW.PrintMore
attribute [local go_sem] max2_int min2_int max_two min_two max_three min_three max_four min_four   -- for this text's walks alone
set_option linter.unusedVariables false
set_option linter.unusedSimpArgs false

attribute [local go_sem high] eqA23 eqA26
/-! ### tattlelaw16_DiskTurnsAbout: function 8 -/
mutual
def tattlelaw16_DiskTurnsAbout.j0 : Nat → Int → Bool → ByteArray → ByteArray → Int → Int → Int → Int → Int → ByteArray → ByteArray → Option (Bool)
  | 0, _, _, _, _, _, _, _, _, _, _, _ => none
  | k + 1, x8, x48, x226000, x226001, x236000, x236001, x236002, x236003, x236004, x240000, x240001 => if x48 = true then (none) else (if x8 = 0 then (if x240000.toList = x226000.toList then (tattlelaw16_DiskTurnsAbout.j1 k x240000 x226000 x226001 x236000 x236001 x236002 x236003 x236004 x240000 x240001) else (tattlelaw16_DiskTurnsAbout.j1 k x240001 x226000 x226001 x236000 x236001 x236002 x236003 x236004 x240000 x240001)) else (if x240001.toList = x226001.toList then ((tattlelaw16_awake.f k).bind fun t241 => (some t241)) else (none)))
def tattlelaw16_DiskTurnsAbout.j1 : Nat → ByteArray → ByteArray → ByteArray → Int → Int → Int → Int → Int → ByteArray → ByteArray → Option (Bool)
  | 0, _, _, _, _, _, _, _, _, _, _ => none
  | k + 1, x11, x226000, x226001, x236000, x236001, x236002, x236003, x236004, x240000, x240001 => if (x240000.toList == x226000.toList && (x240001.toList == x226001.toList)) = true then ((tattlelaw16_awake.f k).bind fun t242 => (some t242)) else ((disk_Parse.f k x11).bind fun bt243 => (if (bt243.1 == x236000 && (bt243.2.1 == x236001 && (bt243.2.2.1 == x236002 && (bt243.2.2.2.1 == x236003 && (bt243.2.2.2.2.1 == x236004))))) = true then (if bt243.2.2.2.2.2 = 0 then ((tattlelaw16_awake.f k).bind fun t250 => (some t250)) else (none)) else (none)))
end
def tattlelaw16_DiskTurnsAbout.f (k : Nat) (a0_0 : ByteArray) (a0_1 : ByteArray) (a1_0 : Int) (a1_1 : Int) (a1_2 : Int) (a1_3 : Int) (a1_4 : Int) (a2 : Int) : Option (Bool) := (tattlelaw16_Few.f a0_0 a0_1).bind fun bt227 => ((disk_Read.f k bt227.1 bt227.2).bind fun bt229 => ((disk_Tear.f k bt227.1 bt227.2 a1_0 a1_1 a1_2 a1_3 a1_4 (wrap64 (a2))).bind fun bt236 => (if bt236.2.2 = 0 then (if bt236.1.toList = bt227.1.toList then (tattlelaw16_DiskTurnsAbout.j0 k bt229.2.2.2.2.2 false bt227.1 bt227.2 bt229.1 bt229.2.1 bt229.2.2.1 bt229.2.2.2.1 bt229.2.2.2.2.1 bt236.1 bt236.2.1) else (tattlelaw16_DiskTurnsAbout.j0 k bt229.2.2.2.2.2 (bt236.2.1.toList != bt227.2.toList) bt227.1 bt227.2 bt229.1 bt229.2.1 bt229.2.2.1 bt229.2.2.2.1 bt229.2.2.2.2.1 bt236.1 bt236.2.1)) else (if (bt236.1.toList == bt227.1.toList && (bt236.2.1.toList == bt227.2.toList)) = true then ((tattlelaw16_awake.f k).bind fun t240 => (some t240)) else (none)))))
theorem tattlelaw16_DiskTurnsAbout.mono_l : ∀ k, (∀ y0 y1 y2 y3 y4 y5 y6 y7 y8 y9 y10, LeO (tattlelaw16_DiskTurnsAbout.j0 k y0 y1 y2 y3 y4 y5 y6 y7 y8 y9 y10) (tattlelaw16_DiskTurnsAbout.j0 (k + 1) y0 y1 y2 y3 y4 y5 y6 y7 y8 y9 y10)) ∧ (∀ y0 y1 y2 y3 y4 y5 y6 y7 y8 y9, LeO (tattlelaw16_DiskTurnsAbout.j1 k y0 y1 y2 y3 y4 y5 y6 y7 y8 y9) (tattlelaw16_DiskTurnsAbout.j1 (k + 1) y0 y1 y2 y3 y4 y5 y6 y7 y8 y9))
  | 0 => ⟨fun _ _ _ _ _ _ _ _ _ _ _ r h => by simp [tattlelaw16_DiskTurnsAbout.j0] at h, fun _ _ _ _ _ _ _ _ _ _ r h => by simp [tattlelaw16_DiskTurnsAbout.j1] at h⟩
  | k + 1 => by
    obtain ⟨ih0, ih1⟩ := tattlelaw16_DiskTurnsAbout.mono_l k
    refine ⟨?_, ?_⟩
    · intro y0 y1 y2 y3 y4 y5 y6 y7 y8 y9 y10
      unfold tattlelaw16_DiskTurnsAbout.j0
      repeat' first
      | (with_reducible exact ih0 _ _ _ _ _ _ _ _ _ _ _)
      | (with_reducible exact ih1 _ _ _ _ _ _ _ _ _ _)
      | (with_reducible exact disk_Parse.mono _ _)
      | (with_reducible exact disk_Read.mono _ _ _)
      | (with_reducible exact disk_Tear.mono _ _ _ _ _ _ _ _ _)
      | (with_reducible exact tattlelaw16_awake.mono _)
      | (with_reducible exact LeO.refl _)
      | (with_reducible exact LeO.none _)
      | (with_reducible refine LeO.ite ?_ ?_)
      | (with_reducible refine LeO.bind ?_ (fun _ => ?_))
      | exact ih0 _ _ _ _ _ _ _ _ _ _ _
      | exact ih1 _ _ _ _ _ _ _ _ _ _
      | exact disk_Parse.mono _ _
      | exact disk_Read.mono _ _ _
      | exact disk_Tear.mono _ _ _ _ _ _ _ _ _
      | exact tattlelaw16_awake.mono _
      | exact LeO.none _
      | refine LeO.ite ?_ ?_
      | refine LeO.bind ?_ (fun _ => ?_)
    · intro y0 y1 y2 y3 y4 y5 y6 y7 y8 y9
      unfold tattlelaw16_DiskTurnsAbout.j1
      repeat' first
      | (with_reducible exact ih0 _ _ _ _ _ _ _ _ _ _ _)
      | (with_reducible exact ih1 _ _ _ _ _ _ _ _ _ _)
      | (with_reducible exact disk_Parse.mono _ _)
      | (with_reducible exact disk_Read.mono _ _ _)
      | (with_reducible exact disk_Tear.mono _ _ _ _ _ _ _ _ _)
      | (with_reducible exact tattlelaw16_awake.mono _)
      | (with_reducible exact LeO.refl _)
      | (with_reducible exact LeO.none _)
      | (with_reducible refine LeO.ite ?_ ?_)
      | (with_reducible refine LeO.bind ?_ (fun _ => ?_))
      | exact ih0 _ _ _ _ _ _ _ _ _ _ _
      | exact ih1 _ _ _ _ _ _ _ _ _ _
      | exact disk_Parse.mono _ _
      | exact disk_Read.mono _ _ _
      | exact disk_Tear.mono _ _ _ _ _ _ _ _ _
      | exact tattlelaw16_awake.mono _
      | exact LeO.none _
      | refine LeO.ite ?_ ?_
      | refine LeO.bind ?_ (fun _ => ?_)
theorem tattlelaw16_DiskTurnsAbout.mono : ∀ a0 a1 a2 a3 a4 a5 a6 a7 k, LeO (tattlelaw16_DiskTurnsAbout.f k a0 a1 a2 a3 a4 a5 a6 a7) (tattlelaw16_DiskTurnsAbout.f (k + 1) a0 a1 a2 a3 a4 a5 a6 a7) := by
  intro a0 a1 a2 a3 a4 a5 a6 a7 k
  obtain ⟨ih0, ih1⟩ := tattlelaw16_DiskTurnsAbout.mono_l k
  unfold tattlelaw16_DiskTurnsAbout.f
  repeat' first
      | (with_reducible exact ih0 _ _ _ _ _ _ _ _ _ _ _)
      | (with_reducible exact ih1 _ _ _ _ _ _ _ _ _ _)
      | (with_reducible exact disk_Parse.mono _ _)
      | (with_reducible exact disk_Read.mono _ _ _)
      | (with_reducible exact disk_Tear.mono _ _ _ _ _ _ _ _ _)
      | (with_reducible exact tattlelaw16_awake.mono _)
      | (with_reducible exact LeO.refl _)
      | (with_reducible exact LeO.none _)
      | (with_reducible refine LeO.ite ?_ ?_)
      | (with_reducible refine LeO.bind ?_ (fun _ => ?_))
      | exact ih0 _ _ _ _ _ _ _ _ _ _ _
      | exact ih1 _ _ _ _ _ _ _ _ _ _
      | exact disk_Parse.mono _ _
      | exact disk_Read.mono _ _ _
      | exact disk_Tear.mono _ _ _ _ _ _ _ _ _
      | exact tattlelaw16_awake.mono _
      | exact LeO.none _
      | refine LeO.ite ?_ ?_
      | refine LeO.bind ?_ (fun _ => ?_)
set_option maxHeartbeats 8000000 in
set_option maxRecDepth 100000 in
theorem tattlelaw16_DiskTurnsAbout.calls (k : Nat) (a0_0 : ByteArray) (a0_1 : ByteArray) (a1_0 : Int) (a1_1 : Int) (a1_2 : Int) (a1_3 : Int) (a1_4 : Int) (a2 : Int) (r : Bool) (w : World) (h : tattlelaw16_DiskTurnsAbout.f k a0_0 a0_1 a1_0 a1_1 a1_2 a1_3 a1_4 a2 = some r) :
    Calls Try.prog 8 #[.agg #[.string a0_0, .string a0_1], .agg #[.int .u64 a1_0, .int .u64 a1_1, .int .u64 a1_2, .int .u64 a1_3, .int .i64 a1_4], .int .u8 a2] w fun e w' => e = .returned (.bool r) ∧ Below w.heap.size w w' := by
  have hu23 := Try.underlying23
  have hu26 := Try.underlying26
  have HB := Aside0.mk (Below.refl w.heap.size w)
  have H : ((tattlelaw16_Few.f a0_0 a0_1).bind fun bt227 => ((disk_Read.f k bt227.1 bt227.2).bind fun bt229 => ((disk_Tear.f k bt227.1 bt227.2 a1_0 a1_1 a1_2 a1_3 a1_4 (wrap64 (a2))).bind fun bt236 => (if bt236.2.2 = 0 then (if bt236.1.toList = bt227.1.toList then (tattlelaw16_DiskTurnsAbout.j0 k bt229.2.2.2.2.2 false bt227.1 bt227.2 bt229.1 bt229.2.1 bt229.2.2.1 bt229.2.2.2.1 bt229.2.2.2.2.1 bt236.1 bt236.2.1) else (tattlelaw16_DiskTurnsAbout.j0 k bt229.2.2.2.2.2 (bt236.2.1.toList != bt227.2.toList) bt227.1 bt227.2 bt229.1 bt229.2.1 bt229.2.2.1 bt229.2.2.2.1 bt229.2.2.2.2.1 bt236.1 bt236.2.1)) else (if (bt236.1.toList == bt227.1.toList && (bt236.2.1.toList == bt227.2.toList)) = true then ((tattlelaw16_awake.f k).bind fun t240 => (some t240)) else (none)))))) = some r := h
  clear h
  replace H := Option.bind_eq_some_iff.mp H
  obtain ⟨⟨t227, t228⟩, A40, H⟩ := H
  replace H : ((disk_Read.f k t227 t228).bind fun bt229 => ((disk_Tear.f k t227 t228 a1_0 a1_1 a1_2 a1_3 a1_4 (wrap64 (a2))).bind fun bt236 => (if bt236.2.2 = 0 then (if bt236.1.toList = t227.toList then (tattlelaw16_DiskTurnsAbout.j0 k bt229.2.2.2.2.2 false t227 t228 bt229.1 bt229.2.1 bt229.2.2.1 bt229.2.2.2.1 bt229.2.2.2.2.1 bt236.1 bt236.2.1) else (tattlelaw16_DiskTurnsAbout.j0 k bt229.2.2.2.2.2 (bt236.2.1.toList != t228.toList) t227 t228 bt229.1 bt229.2.1 bt229.2.2.1 bt229.2.2.2.1 bt229.2.2.2.2.1 bt236.1 bt236.2.1)) else (if (bt236.1.toList == t227.toList && (bt236.2.1.toList == t228.toList)) = true then ((tattlelaw16_awake.f k).bind fun t240 => (some t240)) else (none))))) = some r := H
  have A4 := Aside0.mk A40
  clear A40
  replace H := Option.bind_eq_some_iff.mp H
  obtain ⟨⟨t229, t230, t231, t232, t233, t234⟩, A50, H⟩ := H
  replace H : ((disk_Tear.f k t227 t228 a1_0 a1_1 a1_2 a1_3 a1_4 (wrap64 (a2))).bind fun bt236 => (if bt236.2.2 = 0 then (if bt236.1.toList = t227.toList then (tattlelaw16_DiskTurnsAbout.j0 k t234 false t227 t228 t229 t230 t231 t232 t233 bt236.1 bt236.2.1) else (tattlelaw16_DiskTurnsAbout.j0 k t234 (bt236.2.1.toList != t228.toList) t227 t228 t229 t230 t231 t232 t233 bt236.1 bt236.2.1)) else (if (bt236.1.toList == t227.toList && (bt236.2.1.toList == t228.toList)) = true then ((tattlelaw16_awake.f k).bind fun t240 => (some t240)) else (none)))) = some r := H
  have A5 := Aside0.mk A50
  clear A50
  replace H := Option.bind_eq_some_iff.mp H
  obtain ⟨⟨t236, t237, t238⟩, A60, H⟩ := H
  replace H : (if t238 = 0 then (if t236.toList = t227.toList then (tattlelaw16_DiskTurnsAbout.j0 k t234 false t227 t228 t229 t230 t231 t232 t233 t236 t237) else (tattlelaw16_DiskTurnsAbout.j0 k t234 (t237.toList != t228.toList) t227 t228 t229 t230 t231 t232 t233 t236 t237)) else (if (t236.toList == t227.toList && (t237.toList == t228.toList)) = true then ((tattlelaw16_awake.f k).bind fun t240 => (some t240)) else (none))) = some r := H
  have A6 := Aside0.mk A60
  clear A60
  by_cases c7 : t238 = 0
  · rw [if_pos c7] at H
    have c7b0 : (t238 == 0) = true := beq_iff_eq.mpr c7
    have c7b1 : (t238 != 0) = false := bne_eq_false_iff_eq.mpr c7
    clear c7
    have HC8 := Aside0.mk H
    clear H
    go_enter Try.func8, Try.ntmps8
    go_upto_region 6 with (first | ((with_reducible refine gate_dst (N := 3) rfl ?_); refine box_event ?hg (N := 3) ?hd (cs := #[.string a0_0, .string a0_1]) (t := 23) ?hr ?_; (case hd => rfl); (case hg => rfl); (case hr => first | (go_simp; done) | (go_simp; rfl)); intro gb225 hg w9 hbox hb; have n0_ := Aside0.mk (below_step (by repeat (first | (with_reducible first | exact HB.out | apply below_alloc | apply pw_below_drewN | apply below_drew1) | exact HB.out)) hb); have n1_ := Aside0.mk (hbox); have n2_ := Aside0.mk ((by rw [hg]; exact (below_size (by repeat (first | (with_reducible first | exact HB.out | apply below_alloc | apply pw_below_drewN | apply below_drew1) | exact HB.out))) : w.heap.size ≤ gb225)); have n3_ := Aside0.mk ((by rw [hg]; exact (below_size (by repeat (first | (with_reducible first | exact HB.out | apply below_alloc | apply pw_below_drewN | apply below_drew1) | exact HB.out))) : w.heap.size ≤ gb225)); clear HB; have HB := n0_; have BK225 := n1_; have GW225 := n2_; have GE225 := n3_; clear n0_ n1_ n2_ n3_; clear hb hbox hg) | ((with_reducible refine gate_dst (N := 4) rfl ?_); refine box_event ?hg (N := 4) ?hd (cs := #[.int .u64 a1_0, .int .u64 a1_1, .int .u64 a1_2, .int .u64 a1_3, .int .i64 a1_4]) (t := 26) ?hr ?_; (case hd => rfl); (case hg => rfl); (case hr => first | (go_simp; done) | (go_simp; rfl)); intro gb226 hg w10 hbox hb; have n0_ := Aside0.mk (blk_below (g := gb225) (o := .cells #[.string a0_0, .string a0_1] 23 (0, 0)) (by (with_reducible repeat (first | refine blk_drewN ?_ _ | refine blk_drew ?_ | refine blk_alloc ?_ _)); exact BK225.out) hb); have n1_ := Aside0.mk (below_step (by repeat (first | (with_reducible first | exact HB.out | apply below_alloc | apply pw_below_drewN | apply below_drew1 | refine below_set ?_ GE225.out) | exact HB.out)) hb); have n2_ := Aside0.mk (hbox); have n3_ := Aside0.mk ((by rw [hg]; exact (below_size (by repeat (first | (with_reducible first | exact HB.out | apply below_alloc | apply pw_below_drewN | apply below_drew1 | refine below_set ?_ GE225.out) | exact HB.out))) : w.heap.size ≤ gb226)); have n4_ := Aside0.mk ((by rw [hg]; exact (below_size (by repeat (first | (with_reducible first | exact HB.out | apply below_alloc | apply pw_below_drewN | apply below_drew1 | refine below_set ?_ GE225.out) | exact HB.out))) : w.heap.size ≤ gb226)); have n5_ := Aside0.mk ((by rw [hg]; exact Nat.ne_of_lt (blk_lt (g := gb225) (o := .cells #[.string a0_0, .string a0_1] 23 (0, 0)) (by (with_reducible repeat (first | refine blk_drewN ?_ _ | refine blk_drew ?_ | refine blk_alloc ?_ _)); exact BK225.out)) : gb225 ≠ gb226)); have n6_ := Aside0.mk ((by rw [hg]; exact Nat.ne_of_gt (blk_lt (g := gb225) (o := .cells #[.string a0_0, .string a0_1] 23 (0, 0)) (by (with_reducible repeat (first | refine blk_drewN ?_ _ | refine blk_drew ?_ | refine blk_alloc ?_ _)); exact BK225.out)) : gb226 ≠ gb225)); clear BK225; clear HB; have BK225 := n0_; have HB := n1_; have BK226 := n2_; have GW226 := n3_; have GE226 := n4_; have NB225_226 := n5_; have NB226_225 := n6_; clear n0_ n1_ n2_ n3_ n4_ n5_ n6_; clear hb hbox hg; have hnb11 := NB225_226.out; have hnc11 := NB226_225.out; have hcz12_0 : w10.cell? ⟨gb225, 0, none⟩ = some (.string a0_0) := (blk_cell BK225.out 0).trans rfl; have hcz12_1 : w10.cell? ⟨gb225, 1, none⟩ = some (.string a0_1) := (blk_cell BK225.out 1).trans rfl; have hfz12_0 := blk_frozen BK225.out 0; have hfz12_1 := blk_frozen BK225.out 1) | ((with_reducible refine gate_callee (f := 9) rfl ?_); refine goesL_ (some 15) rfl rfl Try.func9 (by kernel_rfl) rfl #[.agg #[.string a0_0, .string a0_1]] rfl (by (try simp only [List.map_toArray, List.map_cons, List.map_nil]); first | done | rfl | (simp only [List.length_drop, List.length_take]; rfl)) ?_; (with_reducible refine (tattlelaw16_Few.calls a0_0 a0_1 t227 t228 _ A4.out).mono ?_); rintro e w13 ⟨rfl, hb⟩; refine ⟨_, rfl, ?_⟩; have n0_ := Aside0.mk (blk_below (g := gb225) (o := .cells #[.string a0_0, .string a0_1] 23 (0, 0)) (by (with_reducible repeat (first | refine blk_drewN ?_ _ | refine blk_drew ?_ | refine blk_alloc ?_ _)); exact BK225.out) hb); have n1_ := Aside0.mk (blk_below (g := gb226) (o := .cells #[.int .u64 a1_0, .int .u64 a1_1, .int .u64 a1_2, .int .u64 a1_3, .int .i64 a1_4] 26 (0, 0)) (by (with_reducible repeat (first | refine blk_drewN ?_ _ | refine blk_drew ?_ | refine blk_alloc ?_ _)); exact BK226.out) hb); have n2_ := Aside0.mk (below_step (by repeat (first | (with_reducible first | exact HB.out | apply below_alloc | apply pw_below_drewN | apply below_drew1 | refine below_set ?_ GE225.out | refine below_set ?_ GE226.out) | exact HB.out)) hb); clear BK225; clear BK226; clear HB; have BK225 := n0_; have BK226 := n1_; have HB := n2_; clear n0_ n1_ n2_; (try clear hb); (try clear hb2); (try clear hk); (try clear hi); have hcz14_0 : w13.cell? ⟨gb225, 0, none⟩ = some (.string a0_0) := (blk_cell BK225.out 0).trans rfl; have hcz14_1 : w13.cell? ⟨gb225, 1, none⟩ = some (.string a0_1) := (blk_cell BK225.out 1).trans rfl; have hfz14_0 := blk_frozen BK225.out 0; have hfz14_1 := blk_frozen BK225.out 1) | ((with_reducible refine gate_callee (f := 12) rfl ?_); refine goesL_ (some 18) rfl rfl Try.func12 (by kernel_rfl) rfl #[.agg #[.string t227, .string t228]] rfl (by (try simp only [List.map_toArray, List.map_cons, List.map_nil]); first | done | rfl | (simp only [List.length_drop, List.length_take]; rfl)) ?_; (with_reducible refine (disk_Read.calls k t227 t228 t229 t230 t231 t232 t233 t234 _ A5.out).mono ?_); rintro e w15 ⟨rfl, hb⟩; refine ⟨_, rfl, ?_⟩; have n0_ := Aside0.mk (blk_below (g := gb225) (o := .cells #[.string t227, .string t228] 23 (0, 0)) (by (with_reducible repeat (first | refine blk_drewN ?_ _ | refine blk_drew ?_ | refine blk_alloc ?_ _)); refine blk_put (cs := #[.string t227, .string a0_1]) ?_ 1 _ rfl; (with_reducible repeat (first | refine blk_drewN ?_ _ | refine blk_drew ?_ | refine blk_alloc ?_ _)); refine blk_put (cs := #[.string a0_0, .string a0_1]) ?_ 0 _ rfl; (with_reducible repeat (first | refine blk_drewN ?_ _ | refine blk_drew ?_ | refine blk_alloc ?_ _)); exact BK225.out) hb); have n1_ := Aside0.mk (blk_below (g := gb226) (o := .cells #[.int .u64 a1_0, .int .u64 a1_1, .int .u64 a1_2, .int .u64 a1_3, .int .i64 a1_4] 26 (0, 0)) (by (with_reducible repeat (first | refine blk_drewN ?_ _ | refine blk_drew ?_ | refine blk_alloc ?_ _)); refine blk_far ?_ NB226_225.out _; (with_reducible repeat (first | refine blk_drewN ?_ _ | refine blk_drew ?_ | refine blk_alloc ?_ _)); refine blk_far ?_ NB226_225.out _; (with_reducible repeat (first | refine blk_drewN ?_ _ | refine blk_drew ?_ | refine blk_alloc ?_ _)); exact BK226.out) hb); have n2_ := Aside0.mk (below_step (by repeat (first | (with_reducible first | exact HB.out | apply below_alloc | apply pw_below_drewN | apply below_drew1 | refine below_set ?_ GE225.out | refine below_set ?_ GE226.out) | exact HB.out)) hb); clear BK225; clear BK226; clear HB; have BK225 := n0_; have BK226 := n1_; have HB := n2_; clear n0_ n1_ n2_; (try clear hb); (try clear hb2); (try clear hk); (try clear hi)) | ((with_reducible refine gate_dst (N := 7) rfl ?_); refine box_event ?hg (N := 7) ?hd (cs := #[.int .u64 0, .int .u64 0, .int .u64 0, .int .u64 0, .int .i64 0]) (t := 26) ?hr ?_; (case hd => rfl); (case hg => rfl); (case hr => first | (go_simp; done) | (go_simp; rfl)); intro gb235 hg w16 hbox hb; have n0_ := Aside0.mk (blk_below (g := gb225) (o := .cells #[.string t227, .string t228] 23 (0, 0)) (by (with_reducible repeat (first | refine blk_drewN ?_ _ | refine blk_drew ?_ | refine blk_alloc ?_ _)); exact BK225.out) hb); have n1_ := Aside0.mk (blk_below (g := gb226) (o := .cells #[.int .u64 a1_0, .int .u64 a1_1, .int .u64 a1_2, .int .u64 a1_3, .int .i64 a1_4] 26 (0, 0)) (by (with_reducible repeat (first | refine blk_drewN ?_ _ | refine blk_drew ?_ | refine blk_alloc ?_ _)); exact BK226.out) hb); have n2_ := Aside0.mk (below_step (by repeat (first | (with_reducible first | exact HB.out | apply below_alloc | apply pw_below_drewN | apply below_drew1 | refine below_set ?_ GE225.out | refine below_set ?_ GE226.out) | exact HB.out)) hb); have n3_ := Aside0.mk (hbox); have n4_ := Aside0.mk ((by rw [hg]; exact (below_size (by repeat (first | (with_reducible first | exact HB.out | apply below_alloc | apply pw_below_drewN | apply below_drew1 | refine below_set ?_ GE225.out | refine below_set ?_ GE226.out) | exact HB.out))) : w.heap.size ≤ gb235)); have n5_ := Aside0.mk ((by rw [hg]; exact (below_size (by repeat (first | (with_reducible first | exact HB.out | apply below_alloc | apply pw_below_drewN | apply below_drew1 | refine below_set ?_ GE225.out | refine below_set ?_ GE226.out) | exact HB.out))) : w.heap.size ≤ gb235)); have n6_ := Aside0.mk ((by rw [hg]; exact Nat.ne_of_lt (blk_lt (g := gb225) (o := .cells #[.string t227, .string t228] 23 (0, 0)) (by (with_reducible repeat (first | refine blk_drewN ?_ _ | refine blk_drew ?_ | refine blk_alloc ?_ _)); exact BK225.out)) : gb225 ≠ gb235)); have n7_ := Aside0.mk ((by rw [hg]; exact Nat.ne_of_gt (blk_lt (g := gb225) (o := .cells #[.string t227, .string t228] 23 (0, 0)) (by (with_reducible repeat (first | refine blk_drewN ?_ _ | refine blk_drew ?_ | refine blk_alloc ?_ _)); exact BK225.out)) : gb235 ≠ gb225)); have n8_ := Aside0.mk ((by rw [hg]; exact Nat.ne_of_lt (blk_lt (g := gb226) (o := .cells #[.int .u64 a1_0, .int .u64 a1_1, .int .u64 a1_2, .int .u64 a1_3, .int .i64 a1_4] 26 (0, 0)) (by (with_reducible repeat (first | refine blk_drewN ?_ _ | refine blk_drew ?_ | refine blk_alloc ?_ _)); exact BK226.out)) : gb226 ≠ gb235)); have n9_ := Aside0.mk ((by rw [hg]; exact Nat.ne_of_gt (blk_lt (g := gb226) (o := .cells #[.int .u64 a1_0, .int .u64 a1_1, .int .u64 a1_2, .int .u64 a1_3, .int .i64 a1_4] 26 (0, 0)) (by (with_reducible repeat (first | refine blk_drewN ?_ _ | refine blk_drew ?_ | refine blk_alloc ?_ _)); exact BK226.out)) : gb235 ≠ gb226)); clear BK225; clear BK226; clear HB; have BK225 := n0_; have BK226 := n1_; have HB := n2_; have BK235 := n3_; have GW235 := n4_; have GE235 := n5_; have NB225_235 := n6_; have NB235_225 := n7_; have NB226_235 := n8_; have NB235_226 := n9_; clear n0_ n1_ n2_ n3_ n4_ n5_ n6_ n7_ n8_ n9_; clear hb hbox hg; have hnb17 := NB235_225.out; have hnc17 := NB225_235.out; have hnb18 := NB235_226.out; have hnc18 := NB226_235.out; have hcz19_0 : w16.cell? ⟨gb235, 0, none⟩ = some (.int .u64 0) := (blk_cell BK235.out 0).trans rfl; have hcz19_1 : w16.cell? ⟨gb235, 1, none⟩ = some (.int .u64 0) := (blk_cell BK235.out 1).trans rfl; have hcz19_2 : w16.cell? ⟨gb235, 2, none⟩ = some (.int .u64 0) := (blk_cell BK235.out 2).trans rfl; have hcz19_3 : w16.cell? ⟨gb235, 3, none⟩ = some (.int .u64 0) := (blk_cell BK235.out 3).trans rfl; have hcz19_4 : w16.cell? ⟨gb235, 4, none⟩ = some (.int .i64 0) := (blk_cell BK235.out 4).trans rfl; have hfz19_0 := blk_frozen BK235.out 0; have hfz19_1 := blk_frozen BK235.out 1; have hfz19_2 := blk_frozen BK235.out 2; have hfz19_3 := blk_frozen BK235.out 3; have hfz19_4 := blk_frozen BK235.out 4; have hcz20_0 : w16.cell? ⟨gb225, 0, none⟩ = some (.string t227) := (blk_cell BK225.out 0).trans rfl; have hcz20_1 : w16.cell? ⟨gb225, 1, none⟩ = some (.string t228) := (blk_cell BK225.out 1).trans rfl; have hfz20_0 := blk_frozen BK225.out 0; have hfz20_1 := blk_frozen BK225.out 1; have hcz21_0 : w16.cell? ⟨gb226, 0, none⟩ = some (.int .u64 a1_0) := (blk_cell BK226.out 0).trans rfl; have hcz21_1 : w16.cell? ⟨gb226, 1, none⟩ = some (.int .u64 a1_1) := (blk_cell BK226.out 1).trans rfl; have hcz21_2 : w16.cell? ⟨gb226, 2, none⟩ = some (.int .u64 a1_2) := (blk_cell BK226.out 2).trans rfl; have hcz21_3 : w16.cell? ⟨gb226, 3, none⟩ = some (.int .u64 a1_3) := (blk_cell BK226.out 3).trans rfl; have hcz21_4 : w16.cell? ⟨gb226, 4, none⟩ = some (.int .i64 a1_4) := (blk_cell BK226.out 4).trans rfl; have hfz21_0 := blk_frozen BK226.out 0; have hfz21_1 := blk_frozen BK226.out 1; have hfz21_2 := blk_frozen BK226.out 2; have hfz21_3 := blk_frozen BK226.out 3; have hfz21_4 := blk_frozen BK226.out 4) | ((with_reducible refine gate_callee (f := 20) rfl ?_); refine goesL_ (some 26) rfl rfl Try.func20 (by kernel_rfl) rfl #[.agg #[.string t227, .string t228], .agg #[.int .u64 a1_0, .int .u64 a1_1, .int .u64 a1_2, .int .u64 a1_3, .int .i64 a1_4], .int .i64 (wrap64 (a2))] rfl (by (try simp only [List.map_toArray, List.map_cons, List.map_nil]); first | done | rfl | (simp only [List.length_drop, List.length_take]; rfl)) ?_; (with_reducible refine (disk_Tear.calls k t227 t228 a1_0 a1_1 a1_2 a1_3 a1_4 (wrap64 (a2)) t236 t237 t238 _ A6.out).mono ?_); rintro e w22 ⟨rfl, hb⟩; refine ⟨_, rfl, ?_⟩; have n0_ := Aside0.mk (blk_below (g := gb225) (o := .cells #[.string t227, .string t228] 23 (0, 0)) (by (with_reducible repeat (first | refine blk_drewN ?_ _ | refine blk_drew ?_ | refine blk_alloc ?_ _)); refine blk_far ?_ NB225_235.out _; (with_reducible repeat (first | refine blk_drewN ?_ _ | refine blk_drew ?_ | refine blk_alloc ?_ _)); refine blk_far ?_ NB225_235.out _; (with_reducible repeat (first | refine blk_drewN ?_ _ | refine blk_drew ?_ | refine blk_alloc ?_ _)); refine blk_far ?_ NB225_235.out _; (with_reducible repeat (first | refine blk_drewN ?_ _ | refine blk_drew ?_ | refine blk_alloc ?_ _)); refine blk_far ?_ NB225_235.out _; (with_reducible repeat (first | refine blk_drewN ?_ _ | refine blk_drew ?_ | refine blk_alloc ?_ _)); refine blk_far ?_ NB225_235.out _; (with_reducible repeat (first | refine blk_drewN ?_ _ | refine blk_drew ?_ | refine blk_alloc ?_ _)); exact BK225.out) hb); have n1_ := Aside0.mk (blk_below (g := gb226) (o := .cells #[.int .u64 a1_0, .int .u64 a1_1, .int .u64 a1_2, .int .u64 a1_3, .int .i64 a1_4] 26 (0, 0)) (by (with_reducible repeat (first | refine blk_drewN ?_ _ | refine blk_drew ?_ | refine blk_alloc ?_ _)); refine blk_far ?_ NB226_235.out _; (with_reducible repeat (first | refine blk_drewN ?_ _ | refine blk_drew ?_ | refine blk_alloc ?_ _)); refine blk_far ?_ NB226_235.out _; (with_reducible repeat (first | refine blk_drewN ?_ _ | refine blk_drew ?_ | refine blk_alloc ?_ _)); refine blk_far ?_ NB226_235.out _; (with_reducible repeat (first | refine blk_drewN ?_ _ | refine blk_drew ?_ | refine blk_alloc ?_ _)); refine blk_far ?_ NB226_235.out _; (with_reducible repeat (first | refine blk_drewN ?_ _ | refine blk_drew ?_ | refine blk_alloc ?_ _)); refine blk_far ?_ NB226_235.out _; (with_reducible repeat (first | refine blk_drewN ?_ _ | refine blk_drew ?_ | refine blk_alloc ?_ _)); exact BK226.out) hb); have n2_ := Aside0.mk (blk_below (g := gb235) (o := .cells #[.int .u64 t229, .int .u64 t230, .int .u64 t231, .int .u64 t232, .int .i64 t233] 26 (0, 0)) (by (with_reducible repeat (first | refine blk_drewN ?_ _ | refine blk_drew ?_ | refine blk_alloc ?_ _)); refine blk_put (cs := #[.int .u64 t229, .int .u64 t230, .int .u64 t231, .int .u64 t232, .int .i64 0]) ?_ 4 _ rfl; (with_reducible repeat (first | refine blk_drewN ?_ _ | refine blk_drew ?_ | refine blk_alloc ?_ _)); refine blk_put (cs := #[.int .u64 t229, .int .u64 t230, .int .u64 t231, .int .u64 0, .int .i64 0]) ?_ 3 _ rfl; (with_reducible repeat (first | refine blk_drewN ?_ _ | refine blk_drew ?_ | refine blk_alloc ?_ _)); refine blk_put (cs := #[.int .u64 t229, .int .u64 t230, .int .u64 0, .int .u64 0, .int .i64 0]) ?_ 2 _ rfl; (with_reducible repeat (first | refine blk_drewN ?_ _ | refine blk_drew ?_ | refine blk_alloc ?_ _)); refine blk_put (cs := #[.int .u64 t229, .int .u64 0, .int .u64 0, .int .u64 0, .int .i64 0]) ?_ 1 _ rfl; (with_reducible repeat (first | refine blk_drewN ?_ _ | refine blk_drew ?_ | refine blk_alloc ?_ _)); refine blk_put (cs := #[.int .u64 0, .int .u64 0, .int .u64 0, .int .u64 0, .int .i64 0]) ?_ 0 _ rfl; (with_reducible repeat (first | refine blk_drewN ?_ _ | refine blk_drew ?_ | refine blk_alloc ?_ _)); exact BK235.out) hb); have n3_ := Aside0.mk (below_step (by repeat (first | (with_reducible first | exact HB.out | apply below_alloc | apply pw_below_drewN | apply below_drew1 | refine below_set ?_ GE225.out | refine below_set ?_ GE226.out | refine below_set ?_ GE235.out) | exact HB.out)) hb); clear BK225; clear BK226; clear BK235; clear HB; have BK225 := n0_; have BK226 := n1_; have BK235 := n2_; have HB := n3_; clear n0_ n1_ n2_ n3_; (try clear hb); (try clear hb2); (try clear hk); (try clear hi)) | ((with_reducible refine gate_dst (N := 9) rfl ?_); refine box_event ?hg (N := 9) ?hd (cs := #[.string (⟨#[]⟩ : ByteArray), .string (⟨#[]⟩ : ByteArray)]) (t := 23) ?hr ?_; (case hd => rfl); (case hg => rfl); (case hr => first | (go_simp; done) | (go_simp; rfl)); intro gb239 hg w23 hbox hb; have n0_ := Aside0.mk (blk_below (g := gb225) (o := .cells #[.string t227, .string t228] 23 (0, 0)) (by (with_reducible repeat (first | refine blk_drewN ?_ _ | refine blk_drew ?_ | refine blk_alloc ?_ _)); exact BK225.out) hb); have n1_ := Aside0.mk (blk_below (g := gb226) (o := .cells #[.int .u64 a1_0, .int .u64 a1_1, .int .u64 a1_2, .int .u64 a1_3, .int .i64 a1_4] 26 (0, 0)) (by (with_reducible repeat (first | refine blk_drewN ?_ _ | refine blk_drew ?_ | refine blk_alloc ?_ _)); exact BK226.out) hb); have n2_ := Aside0.mk (blk_below (g := gb235) (o := .cells #[.int .u64 t229, .int .u64 t230, .int .u64 t231, .int .u64 t232, .int .i64 t233] 26 (0, 0)) (by (with_reducible repeat (first | refine blk_drewN ?_ _ | refine blk_drew ?_ | refine blk_alloc ?_ _)); exact BK235.out) hb); have n3_ := Aside0.mk (below_step (by repeat (first | (with_reducible first | exact HB.out | apply below_alloc | apply pw_below_drewN | apply below_drew1 | refine below_set ?_ GE225.out | refine below_set ?_ GE226.out | refine below_set ?_ GE235.out) | exact HB.out)) hb); have n4_ := Aside0.mk (hbox); have n5_ := Aside0.mk ((by rw [hg]; exact (below_size (by repeat (first | (with_reducible first | exact HB.out | apply below_alloc | apply pw_below_drewN | apply below_drew1 | refine below_set ?_ GE225.out | refine below_set ?_ GE226.out | refine below_set ?_ GE235.out) | exact HB.out))) : w.heap.size ≤ gb239)); have n6_ := Aside0.mk ((by rw [hg]; exact (below_size (by repeat (first | (with_reducible first | exact HB.out | apply below_alloc | apply pw_below_drewN | apply below_drew1 | refine below_set ?_ GE225.out | refine below_set ?_ GE226.out | refine below_set ?_ GE235.out) | exact HB.out))) : w.heap.size ≤ gb239)); have n7_ := Aside0.mk ((by rw [hg]; exact Nat.ne_of_lt (blk_lt (g := gb225) (o := .cells #[.string t227, .string t228] 23 (0, 0)) (by (with_reducible repeat (first | refine blk_drewN ?_ _ | refine blk_drew ?_ | refine blk_alloc ?_ _)); exact BK225.out)) : gb225 ≠ gb239)); have n8_ := Aside0.mk ((by rw [hg]; exact Nat.ne_of_gt (blk_lt (g := gb225) (o := .cells #[.string t227, .string t228] 23 (0, 0)) (by (with_reducible repeat (first | refine blk_drewN ?_ _ | refine blk_drew ?_ | refine blk_alloc ?_ _)); exact BK225.out)) : gb239 ≠ gb225)); have n9_ := Aside0.mk ((by rw [hg]; exact Nat.ne_of_lt (blk_lt (g := gb226) (o := .cells #[.int .u64 a1_0, .int .u64 a1_1, .int .u64 a1_2, .int .u64 a1_3, .int .i64 a1_4] 26 (0, 0)) (by (with_reducible repeat (first | refine blk_drewN ?_ _ | refine blk_drew ?_ | refine blk_alloc ?_ _)); exact BK226.out)) : gb226 ≠ gb239)); have n10_ := Aside0.mk ((by rw [hg]; exact Nat.ne_of_gt (blk_lt (g := gb226) (o := .cells #[.int .u64 a1_0, .int .u64 a1_1, .int .u64 a1_2, .int .u64 a1_3, .int .i64 a1_4] 26 (0, 0)) (by (with_reducible repeat (first | refine blk_drewN ?_ _ | refine blk_drew ?_ | refine blk_alloc ?_ _)); exact BK226.out)) : gb239 ≠ gb226)); have n11_ := Aside0.mk ((by rw [hg]; exact Nat.ne_of_lt (blk_lt (g := gb235) (o := .cells #[.int .u64 t229, .int .u64 t230, .int .u64 t231, .int .u64 t232, .int .i64 t233] 26 (0, 0)) (by (with_reducible repeat (first | refine blk_drewN ?_ _ | refine blk_drew ?_ | refine blk_alloc ?_ _)); exact BK235.out)) : gb235 ≠ gb239)); have n12_ := Aside0.mk ((by rw [hg]; exact Nat.ne_of_gt (blk_lt (g := gb235) (o := .cells #[.int .u64 t229, .int .u64 t230, .int .u64 t231, .int .u64 t232, .int .i64 t233] 26 (0, 0)) (by (with_reducible repeat (first | refine blk_drewN ?_ _ | refine blk_drew ?_ | refine blk_alloc ?_ _)); exact BK235.out)) : gb239 ≠ gb235)); clear BK225; clear BK226; clear BK235; clear HB; have BK225 := n0_; have BK226 := n1_; have BK235 := n2_; have HB := n3_; have BK239 := n4_; have GW239 := n5_; have GE239 := n6_; have NB225_239 := n7_; have NB239_225 := n8_; have NB226_239 := n9_; have NB239_226 := n10_; have NB235_239 := n11_; have NB239_235 := n12_; clear n0_ n1_ n2_ n3_ n4_ n5_ n6_ n7_ n8_ n9_ n10_ n11_ n12_; clear hb hbox hg; have hnb24 := NB239_225.out; have hnc24 := NB225_239.out; have hnb25 := NB239_226.out; have hnc25 := NB226_239.out; have hnb26 := NB239_235.out; have hnc26 := NB235_239.out; have hcz27_0 : w23.cell? ⟨gb239, 0, none⟩ = some (.string (⟨#[]⟩ : ByteArray)) := (blk_cell BK239.out 0).trans rfl; have hcz27_1 : w23.cell? ⟨gb239, 1, none⟩ = some (.string (⟨#[]⟩ : ByteArray)) := (blk_cell BK239.out 1).trans rfl; have hfz27_0 := blk_frozen BK239.out 0; have hfz27_1 := blk_frozen BK239.out 1))
    (try simp only [Act.put, List.setIfInBounds_toArray, List.set_cons_zero, List.set_cons_succ])
    go_cut [48] (fun v48 wc => ∃ (kq : Nat) (x48_7 : Bool), v48 = .bool x48_7 ∧ Aside0 (tattlelaw16_DiskTurnsAbout.j0 kq t234 x48_7 t227 t228 t229 t230 t231 t232 t233 t236 t237 = some r) ∧ Aside0 (kq ≤ k) ∧ Aside0 (wc.heap[gb225]? = some (.cells #[.string t227, .string t228] 23 (0, 0))) ∧ Aside0 (wc.heap[gb226]? = some (.cells #[.int .u64 a1_0, .int .u64 a1_1, .int .u64 a1_2, .int .u64 a1_3, .int .i64 a1_4] 26 (0, 0))) ∧ Aside0 (wc.heap[gb235]? = some (.cells #[.int .u64 t229, .int .u64 t230, .int .u64 t231, .int .u64 t232, .int .i64 t233] 26 (0, 0))) ∧ Aside0 (wc.heap[gb239]? = some (.cells #[.string t236, .string t237] 23 (0, 0))) ∧ Aside0 (Below w.heap.size w wc))
    case first =>
      have H := HC8.out
      clear HC8
      by_cases c28 : t236.toList = t227.toList
      · rw [if_pos c28] at H
        have c28b0 : (t236.toList == t227.toList) = true := beq_iff_eq.mpr c28
        have c28b1 : (t236.toList != t227.toList) = false := bne_eq_false_iff_eq.mpr c28
        clear c28
        (first | rw [c28b0] | (simp only [i64_w, i32_w]; rw [c28b0]) | skip)
        have H' := Aside0.mk H
        clear H
        have hnb29 := NB239_225.out
        have hnc29 := NB225_239.out
        have hnb30 := NB239_226.out
        have hnc30 := NB226_239.out
        have hnb31 := NB239_235.out
        have hnc31 := NB235_239.out
        have hcz32_0 : w23.cell? ⟨gb239, 0, none⟩ = some (.string (⟨#[]⟩ : ByteArray)) := (blk_cell BK239.out 0).trans rfl
        have hcz32_1 : w23.cell? ⟨gb239, 1, none⟩ = some (.string (⟨#[]⟩ : ByteArray)) := (blk_cell BK239.out 1).trans rfl
        have hfz32_0 := blk_frozen BK239.out 0
        have hfz32_1 := blk_frozen BK239.out 1
        have hnb33 := NB225_226.out
        have hnc33 := NB226_225.out
        have hnb34 := NB225_235.out
        have hnc34 := NB235_225.out
        have hcz35_0 : w23.cell? ⟨gb225, 0, none⟩ = some (.string t227) := (blk_cell BK225.out 0).trans rfl
        have hcz35_1 : w23.cell? ⟨gb225, 1, none⟩ = some (.string t228) := (blk_cell BK225.out 1).trans rfl
        have hfz35_0 := blk_frozen BK225.out 0
        have hfz35_1 := blk_frozen BK225.out 1
        go_wp2
        go_meet
        case rel => exact ⟨_, (false), (by first | rfl | (simp; done) | (simp [*]; done)), H', ⟨by first | omega | exact Nat.le_refl _⟩, ⟨by (with_reducible repeat (first | refine blk_drewN ?_ _ | refine blk_drew ?_ | refine blk_alloc ?_ _)); refine blk_far ?_ NB225_239.out _; (with_reducible repeat (first | refine blk_drewN ?_ _ | refine blk_drew ?_ | refine blk_alloc ?_ _)); refine blk_far ?_ NB225_239.out _; (with_reducible repeat (first | refine blk_drewN ?_ _ | refine blk_drew ?_ | refine blk_alloc ?_ _)); exact BK225.out⟩, ⟨by (with_reducible repeat (first | refine blk_drewN ?_ _ | refine blk_drew ?_ | refine blk_alloc ?_ _)); refine blk_far ?_ NB226_239.out _; (with_reducible repeat (first | refine blk_drewN ?_ _ | refine blk_drew ?_ | refine blk_alloc ?_ _)); refine blk_far ?_ NB226_239.out _; (with_reducible repeat (first | refine blk_drewN ?_ _ | refine blk_drew ?_ | refine blk_alloc ?_ _)); exact BK226.out⟩, ⟨by (with_reducible repeat (first | refine blk_drewN ?_ _ | refine blk_drew ?_ | refine blk_alloc ?_ _)); refine blk_far ?_ NB235_239.out _; (with_reducible repeat (first | refine blk_drewN ?_ _ | refine blk_drew ?_ | refine blk_alloc ?_ _)); refine blk_far ?_ NB235_239.out _; (with_reducible repeat (first | refine blk_drewN ?_ _ | refine blk_drew ?_ | refine blk_alloc ?_ _)); exact BK235.out⟩, ⟨by (with_reducible repeat (first | refine blk_drewN ?_ _ | refine blk_drew ?_ | refine blk_alloc ?_ _)); refine blk_put (cs := #[.string t236, .string (⟨#[]⟩ : ByteArray)]) ?_ 1 _ rfl; (with_reducible repeat (first | refine blk_drewN ?_ _ | refine blk_drew ?_ | refine blk_alloc ?_ _)); refine blk_put (cs := #[.string (⟨#[]⟩ : ByteArray), .string (⟨#[]⟩ : ByteArray)]) ?_ 0 _ rfl; (with_reducible repeat (first | refine blk_drewN ?_ _ | refine blk_drew ?_ | refine blk_alloc ?_ _)); exact BK239.out⟩, ⟨by repeat (first | (with_reducible first | exact HB.out | apply below_alloc | apply pw_below_drewN | apply below_drew1 | refine below_set ?_ GE225.out | refine below_set ?_ GE226.out | refine below_set ?_ GE235.out | refine below_set ?_ GE239.out) | exact HB.out)⟩⟩
      · rw [if_neg c28] at H
        have c28b0 : (t236.toList == t227.toList) = false := beq_eq_false_iff_ne.mpr c28
        have c28b1 : (t236.toList != t227.toList) = true := bne_iff_ne.mpr c28
        (first | rw [c28b0] | (simp only [i64_w, i32_w]; rw [c28b0]) | skip)
        have H' := Aside0.mk H
        clear H
        have hnb36 := NB239_225.out
        have hnc36 := NB225_239.out
        have hnb37 := NB239_226.out
        have hnc37 := NB226_239.out
        have hnb38 := NB239_235.out
        have hnc38 := NB235_239.out
        have hcz39_0 : w23.cell? ⟨gb239, 0, none⟩ = some (.string (⟨#[]⟩ : ByteArray)) := (blk_cell BK239.out 0).trans rfl
        have hcz39_1 : w23.cell? ⟨gb239, 1, none⟩ = some (.string (⟨#[]⟩ : ByteArray)) := (blk_cell BK239.out 1).trans rfl
        have hfz39_0 := blk_frozen BK239.out 0
        have hfz39_1 := blk_frozen BK239.out 1
        have hnb40 := NB225_226.out
        have hnc40 := NB226_225.out
        have hnb41 := NB225_235.out
        have hnc41 := NB235_225.out
        have hcz42_0 : w23.cell? ⟨gb225, 0, none⟩ = some (.string t227) := (blk_cell BK225.out 0).trans rfl
        have hcz42_1 : w23.cell? ⟨gb225, 1, none⟩ = some (.string t228) := (blk_cell BK225.out 1).trans rfl
        have hfz42_0 := blk_frozen BK225.out 0
        have hfz42_1 := blk_frozen BK225.out 1
        go_wp2
        go_meet
        case rel => exact ⟨_, ((t237.toList != t228.toList)), (by first | rfl | (simp; done) | (simp [*]; done)), H', ⟨by first | omega | exact Nat.le_refl _⟩, ⟨by (with_reducible repeat (first | refine blk_drewN ?_ _ | refine blk_drew ?_ | refine blk_alloc ?_ _)); refine blk_far ?_ NB225_239.out _; (with_reducible repeat (first | refine blk_drewN ?_ _ | refine blk_drew ?_ | refine blk_alloc ?_ _)); refine blk_far ?_ NB225_239.out _; (with_reducible repeat (first | refine blk_drewN ?_ _ | refine blk_drew ?_ | refine blk_alloc ?_ _)); exact BK225.out⟩, ⟨by (with_reducible repeat (first | refine blk_drewN ?_ _ | refine blk_drew ?_ | refine blk_alloc ?_ _)); refine blk_far ?_ NB226_239.out _; (with_reducible repeat (first | refine blk_drewN ?_ _ | refine blk_drew ?_ | refine blk_alloc ?_ _)); refine blk_far ?_ NB226_239.out _; (with_reducible repeat (first | refine blk_drewN ?_ _ | refine blk_drew ?_ | refine blk_alloc ?_ _)); exact BK226.out⟩, ⟨by (with_reducible repeat (first | refine blk_drewN ?_ _ | refine blk_drew ?_ | refine blk_alloc ?_ _)); refine blk_far ?_ NB235_239.out _; (with_reducible repeat (first | refine blk_drewN ?_ _ | refine blk_drew ?_ | refine blk_alloc ?_ _)); refine blk_far ?_ NB235_239.out _; (with_reducible repeat (first | refine blk_drewN ?_ _ | refine blk_drew ?_ | refine blk_alloc ?_ _)); exact BK235.out⟩, ⟨by (with_reducible repeat (first | refine blk_drewN ?_ _ | refine blk_drew ?_ | refine blk_alloc ?_ _)); refine blk_put (cs := #[.string t236, .string (⟨#[]⟩ : ByteArray)]) ?_ 1 _ rfl; (with_reducible repeat (first | refine blk_drewN ?_ _ | refine blk_drew ?_ | refine blk_alloc ?_ _)); refine blk_put (cs := #[.string (⟨#[]⟩ : ByteArray), .string (⟨#[]⟩ : ByteArray)]) ?_ 0 _ rfl; (with_reducible repeat (first | refine blk_drewN ?_ _ | refine blk_drew ?_ | refine blk_alloc ?_ _)); exact BK239.out⟩, ⟨by repeat (first | (with_reducible first | exact HB.out | apply below_alloc | apply pw_below_drewN | apply below_drew1 | refine below_set ?_ GE225.out | refine below_set ?_ GE226.out | refine below_set ?_ GE235.out | refine below_set ?_ GE239.out) | exact HB.out)⟩⟩
    case rest =>
      clear HC8
      try clear c1
      try clear c2
      try clear p2
      try clear c3
      try clear c4
      try clear p6
      try clear c7
      try clear c7b0
      try clear c7b1
      try clear c8
      try clear c9
      try clear c11
      try clear c12
      try clear c17
      try clear c18
      try clear c20
      try clear c24
      try clear c25
      try clear c26
      try clear c28
      try clear c28b0
      try clear c28b1
      try clear c29
      try clear c30
      try clear c31
      try clear c33
      try clear c34
      try clear c36
      try clear c37
      try clear c38
      try clear c40
      try clear c41
      try clear hcz12_0
      try clear hcz12_1
      try clear hcz14_0
      try clear hcz14_1
      try clear hcz19_0
      try clear hcz19_1
      try clear hcz19_2
      try clear hcz19_3
      try clear hcz19_4
      try clear hcz20_0
      try clear hcz20_1
      try clear hcz21_0
      try clear hcz21_1
      try clear hcz21_2
      try clear hcz21_3
      try clear hcz21_4
      try clear hcz27_0
      try clear hcz27_1
      try clear hcz32_0
      try clear hcz32_1
      try clear hcz35_0
      try clear hcz35_1
      try clear hcz39_0
      try clear hcz39_1
      try clear hcz42_0
      try clear hcz42_1
      try clear hfz12_0
      try clear hfz12_1
      try clear hfz14_0
      try clear hfz14_1
      try clear hfz19_0
      try clear hfz19_1
      try clear hfz19_2
      try clear hfz19_3
      try clear hfz19_4
      try clear hfz20_0
      try clear hfz20_1
      try clear hfz21_0
      try clear hfz21_1
      try clear hfz21_2
      try clear hfz21_3
      try clear hfz21_4
      try clear hfz27_0
      try clear hfz27_1
      try clear hfz32_0
      try clear hfz32_1
      try clear hfz35_0
      try clear hfz35_1
      try clear hfz39_0
      try clear hfz39_1
      try clear hfz42_0
      try clear hfz42_1
      obtain ⟨kq, x48_7, rfl, HA, HJ7, BK225, BK226, BK235, BK239, HB⟩ := hcut
      cases kq with
      | zero => exact absurd HA.out (by simp [tattlelaw16_DiskTurnsAbout.j0])
      | succ kj7 =>
        have H := HA.out
        clear HA
        simp only [tattlelaw16_DiskTurnsAbout.j0] at H
        by_cases c43 : x48_7 = true
        · subst c43
          have H1 : (none) = some r := by rw [if_pos rfl] at H; exact H
          clear H
          have H := H1
          clear H1
          exact absurd H (by simp)
        · replace c43 := Bool.eq_false_iff.mpr c43
          subst c43
          have H1 : (if t234 = 0 then (if t236.toList = t227.toList then (tattlelaw16_DiskTurnsAbout.j1 kj7 t236 t227 t228 t229 t230 t231 t232 t233 t236 t237) else (tattlelaw16_DiskTurnsAbout.j1 kj7 t237 t227 t228 t229 t230 t231 t232 t233 t236 t237)) else (if t237.toList = t228.toList then ((tattlelaw16_awake.f kj7).bind fun t241 => (some t241)) else (none))) = some r := by rw [if_neg (show ¬ (false = true) by decide)] at H; exact H
          clear H
          have H := H1
          clear H1
          by_cases c44 : t234 = 0
          · rw [if_pos c44] at H
            have c44b0 : (t234 == 0) = true := beq_iff_eq.mpr c44
            have c44b1 : (t234 != 0) = false := bne_eq_false_iff_eq.mpr c44
            clear c44
            have HC45 := Aside0.mk H
            clear H
            have hnb46 := NB239_225.out
            have hnc46 := NB225_239.out
            have hnb47 := NB239_226.out
            have hnc47 := NB226_239.out
            have hnb48 := NB239_235.out
            have hnc48 := NB235_239.out
            have hcz49_0 : wc.cell? ⟨gb239, 0, none⟩ = some (.string t236) := (blk_cell BK239.out 0).trans rfl
            have hcz49_1 : wc.cell? ⟨gb239, 1, none⟩ = some (.string t237) := (blk_cell BK239.out 1).trans rfl
            have hfz49_0 := blk_frozen BK239.out 0
            have hfz49_1 := blk_frozen BK239.out 1
            have hnb50 := NB225_226.out
            have hnc50 := NB226_225.out
            have hnb51 := NB225_235.out
            have hnc51 := NB235_225.out
            have hcz52_0 : wc.cell? ⟨gb225, 0, none⟩ = some (.string t227) := (blk_cell BK225.out 0).trans rfl
            have hcz52_1 : wc.cell? ⟨gb225, 1, none⟩ = some (.string t228) := (blk_cell BK225.out 1).trans rfl
            have hfz52_0 := blk_frozen BK225.out 0
            have hfz52_1 := blk_frozen BK225.out 1
            go_upto_if 65 with (fail)
            go_cut [11] (fun v11 wc => ∃ (kq : Nat) (x11_44 : ByteArray), v11 = .string x11_44 ∧ Aside0 (tattlelaw16_DiskTurnsAbout.j1 kq x11_44 t227 t228 t229 t230 t231 t232 t233 t236 t237 = some r) ∧ Aside0 (kq ≤ kj7) ∧ Aside0 (wc.heap[gb225]? = some (.cells #[.string t227, .string t228] 23 (0, 0))) ∧ Aside0 (wc.heap[gb226]? = some (.cells #[.int .u64 a1_0, .int .u64 a1_1, .int .u64 a1_2, .int .u64 a1_3, .int .i64 a1_4] 26 (0, 0))) ∧ Aside0 (wc.heap[gb235]? = some (.cells #[.int .u64 t229, .int .u64 t230, .int .u64 t231, .int .u64 t232, .int .i64 t233] 26 (0, 0))) ∧ Aside0 (wc.heap[gb239]? = some (.cells #[.string t236, .string t237] 23 (0, 0))) ∧ Aside0 (Below w.heap.size w wc))
            case first =>
              have H := HC45.out
              clear HC45
              by_cases c53 : t236.toList = t227.toList
              · rw [if_pos c53] at H
                have c53b0 : (t236.toList == t227.toList) = true := beq_iff_eq.mpr c53
                have c53b1 : (t236.toList != t227.toList) = false := bne_eq_false_iff_eq.mpr c53
                clear c53
                (first | rw [c53b0] | (simp only [i64_w, i32_w]; rw [c53b0]) | skip)
                have H' := Aside0.mk H
                clear H
                go_wp2
                go_meet
                case rel => exact ⟨_, (t236), (by first | rfl | (simp; done) | (simp [*]; done)), H', ⟨by have := HJ7.out; first | omega | exact Nat.le_refl _⟩, ⟨by (with_reducible repeat (first | refine blk_drewN ?_ _ | refine blk_drew ?_ | refine blk_alloc ?_ _)); exact BK225.out⟩, ⟨by (with_reducible repeat (first | refine blk_drewN ?_ _ | refine blk_drew ?_ | refine blk_alloc ?_ _)); exact BK226.out⟩, ⟨by (with_reducible repeat (first | refine blk_drewN ?_ _ | refine blk_drew ?_ | refine blk_alloc ?_ _)); exact BK235.out⟩, ⟨by (with_reducible repeat (first | refine blk_drewN ?_ _ | refine blk_drew ?_ | refine blk_alloc ?_ _)); exact BK239.out⟩, ⟨by repeat (first | (with_reducible first | exact HB.out | apply below_alloc | apply pw_below_drewN | apply below_drew1 | refine below_set ?_ GE225.out | refine below_set ?_ GE226.out | refine below_set ?_ GE235.out | refine below_set ?_ GE239.out) | exact HB.out)⟩⟩
              · rw [if_neg c53] at H
                have c53b0 : (t236.toList == t227.toList) = false := beq_eq_false_iff_ne.mpr c53
                have c53b1 : (t236.toList != t227.toList) = true := bne_iff_ne.mpr c53
                (first | rw [c53b0] | (simp only [i64_w, i32_w]; rw [c53b0]) | skip)
                have H' := Aside0.mk H
                clear H
                have hnb54 := NB239_225.out
                have hnc54 := NB225_239.out
                have hnb55 := NB239_226.out
                have hnc55 := NB226_239.out
                have hnb56 := NB239_235.out
                have hnc56 := NB235_239.out
                have hcz57_0 : wc.cell? ⟨gb239, 0, none⟩ = some (.string t236) := (blk_cell BK239.out 0).trans rfl
                have hcz57_1 : wc.cell? ⟨gb239, 1, none⟩ = some (.string t237) := (blk_cell BK239.out 1).trans rfl
                have hfz57_0 := blk_frozen BK239.out 0
                have hfz57_1 := blk_frozen BK239.out 1
                go_wp2
                go_meet
                case rel => exact ⟨_, (t237), (by first | rfl | (simp; done) | (simp [*]; done)), H', ⟨by have := HJ7.out; first | omega | exact Nat.le_refl _⟩, ⟨by (with_reducible repeat (first | refine blk_drewN ?_ _ | refine blk_drew ?_ | refine blk_alloc ?_ _)); exact BK225.out⟩, ⟨by (with_reducible repeat (first | refine blk_drewN ?_ _ | refine blk_drew ?_ | refine blk_alloc ?_ _)); exact BK226.out⟩, ⟨by (with_reducible repeat (first | refine blk_drewN ?_ _ | refine blk_drew ?_ | refine blk_alloc ?_ _)); exact BK235.out⟩, ⟨by (with_reducible repeat (first | refine blk_drewN ?_ _ | refine blk_drew ?_ | refine blk_alloc ?_ _)); exact BK239.out⟩, ⟨by repeat (first | (with_reducible first | exact HB.out | apply below_alloc | apply pw_below_drewN | apply below_drew1 | refine below_set ?_ GE225.out | refine below_set ?_ GE226.out | refine below_set ?_ GE235.out | refine below_set ?_ GE239.out) | exact HB.out)⟩⟩
            case rest =>
              clear HC45
              try clear c1
              try clear c2
              try clear p2
              try clear c3
              try clear c4
              try clear c5
              try clear p6
              try clear c7
              try clear c7b0
              try clear c7b1
              try clear c8
              try clear c9
              try clear c11
              try clear c12
              try clear c17
              try clear c18
              try clear c20
              try clear c24
              try clear c25
              try clear c26
              try clear c28
              try clear c28b0
              try clear c28b1
              try clear c29
              try clear c30
              try clear c31
              try clear c33
              try clear c34
              try clear c36
              try clear c37
              try clear c38
              try clear c40
              try clear c41
              try clear c43
              try clear c44
              try clear c44b0
              try clear c44b1
              try clear c46
              try clear c47
              try clear c48
              try clear c50
              try clear c51
              try clear c53
              try clear c53b0
              try clear c53b1
              try clear c54
              try clear c55
              try clear c56
              try clear hcz12_0
              try clear hcz12_1
              try clear hcz14_0
              try clear hcz14_1
              try clear hcz19_0
              try clear hcz19_1
              try clear hcz19_2
              try clear hcz19_3
              try clear hcz19_4
              try clear hcz20_0
              try clear hcz20_1
              try clear hcz21_0
              try clear hcz21_1
              try clear hcz21_2
              try clear hcz21_3
              try clear hcz21_4
              try clear hcz27_0
              try clear hcz27_1
              try clear hcz32_0
              try clear hcz32_1
              try clear hcz35_0
              try clear hcz35_1
              try clear hcz39_0
              try clear hcz39_1
              try clear hcz42_0
              try clear hcz42_1
              try clear hcz49_0
              try clear hcz49_1
              try clear hcz52_0
              try clear hcz52_1
              try clear hcz57_0
              try clear hcz57_1
              try clear hfz12_0
              try clear hfz12_1
              try clear hfz14_0
              try clear hfz14_1
              try clear hfz19_0
              try clear hfz19_1
              try clear hfz19_2
              try clear hfz19_3
              try clear hfz19_4
              try clear hfz20_0
              try clear hfz20_1
              try clear hfz21_0
              try clear hfz21_1
              try clear hfz21_2
              try clear hfz21_3
              try clear hfz21_4
              try clear hfz27_0
              try clear hfz27_1
              try clear hfz32_0
              try clear hfz32_1
              try clear hfz35_0
              try clear hfz35_1
              try clear hfz39_0
              try clear hfz39_1
              try clear hfz42_0
              try clear hfz42_1
              try clear hfz49_0
              try clear hfz49_1
              try clear hfz52_0
              try clear hfz52_1
              try clear hfz57_0
              try clear hfz57_1
              try clear p2
              try clear p6
              obtain ⟨kq, x11_44, rfl, HA, HJ44, BK225, BK226, BK235, BK239, HB⟩ := hcut
              cases kq with
              | zero => exact absurd HA.out (by simp [tattlelaw16_DiskTurnsAbout.j1])
              | succ kj44 =>
                have H := HA.out
                clear HA
                simp only [tattlelaw16_DiskTurnsAbout.j1] at H
                by_cases c58 : (t236.toList == t227.toList && (t237.toList == t228.toList)) = true
                · rw [if_pos c58] at H
                  have c58b0 : (t236.toList == t227.toList && (t237.toList == t228.toList)) = true := c58
                  (try (have c58b1 : decide (t236.toList = t227.toList && (t237.toList == t228.toList)) = true := by simpa using c58))
                  (try (have c58b2 : (t236.toList == t227.toList && (t237.toList == t228.toList)) = true := by simpa using c58))
                  clear c58
                  replace H := Option.bind_eq_some_iff.mp H
                  obtain ⟨t242, A590, H⟩ := H
                  replace H : (some t242) = some r := H
                  have A59 := Aside0.mk A590
                  clear A590
                  obtain rfl := Option.some.inj H
                  have hnb60 := NB239_225.out
                  have hnc60 := NB225_239.out
                  have hnb61 := NB239_226.out
                  have hnc61 := NB226_239.out
                  have hnb62 := NB239_235.out
                  have hnc62 := NB235_239.out
                  have hcz63_0 : wc.cell? ⟨gb239, 0, none⟩ = some (.string t236) := (blk_cell BK239.out 0).trans rfl
                  have hcz63_1 : wc.cell? ⟨gb239, 1, none⟩ = some (.string t237) := (blk_cell BK239.out 1).trans rfl
                  have hfz63_0 := blk_frozen BK239.out 0
                  have hfz63_1 := blk_frozen BK239.out 1
                  have hnb64 := NB225_226.out
                  have hnc64 := NB226_225.out
                  have hnb65 := NB225_235.out
                  have hnc65 := NB235_225.out
                  have hcz66_0 : wc.cell? ⟨gb225, 0, none⟩ = some (.string t227) := (blk_cell BK225.out 0).trans rfl
                  have hcz66_1 : wc.cell? ⟨gb225, 1, none⟩ = some (.string t228) := (blk_cell BK225.out 1).trans rfl
                  have hfz66_0 := blk_frozen BK225.out 0
                  have hfz66_1 := blk_frozen BK225.out 1
                  go_wp2_with (first | ((with_reducible refine gate_callee (f := 16) rfl ?_); refine goesL_ (some 71) rfl rfl Try.func16 (by kernel_rfl) rfl #[] rfl (by (try simp only [List.map_toArray, List.map_cons, List.map_nil]); first | done | rfl | (simp only [List.length_drop, List.length_take]; rfl)) ?_; (with_reducible refine (tattlelaw16_awake.calls kj44  t242 _ A59.out).mono ?_); rintro e w67 ⟨rfl, hb⟩; refine ⟨_, rfl, ?_⟩; have n0_ := Aside0.mk (blk_below (g := gb225) (o := .cells #[.string t227, .string t228] 23 (0, 0)) (by (with_reducible repeat (first | refine blk_drewN ?_ _ | refine blk_drew ?_ | refine blk_alloc ?_ _)); exact BK225.out) hb); have n1_ := Aside0.mk (blk_below (g := gb226) (o := .cells #[.int .u64 a1_0, .int .u64 a1_1, .int .u64 a1_2, .int .u64 a1_3, .int .i64 a1_4] 26 (0, 0)) (by (with_reducible repeat (first | refine blk_drewN ?_ _ | refine blk_drew ?_ | refine blk_alloc ?_ _)); exact BK226.out) hb); have n2_ := Aside0.mk (blk_below (g := gb235) (o := .cells #[.int .u64 t229, .int .u64 t230, .int .u64 t231, .int .u64 t232, .int .i64 t233] 26 (0, 0)) (by (with_reducible repeat (first | refine blk_drewN ?_ _ | refine blk_drew ?_ | refine blk_alloc ?_ _)); exact BK235.out) hb); have n3_ := Aside0.mk (blk_below (g := gb239) (o := .cells #[.string t236, .string t237] 23 (0, 0)) (by (with_reducible repeat (first | refine blk_drewN ?_ _ | refine blk_drew ?_ | refine blk_alloc ?_ _)); exact BK239.out) hb); have n4_ := Aside0.mk (below_step (by repeat (first | (with_reducible first | exact HB.out | apply below_alloc | apply pw_below_drewN | apply below_drew1 | refine below_set ?_ GE225.out | refine below_set ?_ GE226.out | refine below_set ?_ GE235.out | refine below_set ?_ GE239.out) | exact HB.out)) hb); clear BK225; clear BK226; clear BK235; clear BK239; clear HB; have BK225 := n0_; have BK226 := n1_; have BK235 := n2_; have BK239 := n3_; have HB := n4_; clear n0_ n1_ n2_ n3_ n4_; (try clear hb); (try clear hb2); (try clear hk); (try clear hi)))
                  go_ret
                  exact ⟨by first | rfl | (simp [errW_none, errW_some] <;> rfl) | (simp [*, errW_none, errW_some] <;> rfl), by repeat (first | (with_reducible first | exact HB.out | apply below_alloc | apply pw_below_drewN | apply below_drew1 | refine below_set ?_ GE225.out | refine below_set ?_ GE226.out | refine below_set ?_ GE235.out | refine below_set ?_ GE239.out) | exact HB.out)⟩
                · rw [if_neg c58] at H
                  have c58b0 : (t236.toList == t227.toList && (t237.toList == t228.toList)) = false := by simpa using c58
                  (try (have c58b1 : decide (t236.toList = t227.toList && (t237.toList == t228.toList)) = false := by simpa using c58))
                  (try (have c58b2 : (t236.toList == t227.toList && (t237.toList == t228.toList)) = false := by simpa using c58))
                  (try (have c58b3 : ¬ (t236.toList = t227.toList && (t237.toList == t228.toList)) := by simpa using c58))
                  clear c58
                  replace H := Option.bind_eq_some_iff.mp H
                  obtain ⟨⟨t243, t244, t245, t246, t247, t248⟩, A680, H⟩ := H
                  replace H : (if (t243 == t229 && (t244 == t230 && (t245 == t231 && (t246 == t232 && (t247 == t233))))) = true then (if t248 = 0 then ((tattlelaw16_awake.f kj44).bind fun t250 => (some t250)) else (none)) else (none)) = some r := H
                  have A68 := Aside0.mk A680
                  clear A680
                  by_cases c69 : (t243 == t229 && (t244 == t230 && (t245 == t231 && (t246 == t232 && (t247 == t233))))) = true
                  · rw [if_pos c69] at H
                    have c69b0 : (t243 == t229 && (t244 == t230 && (t245 == t231 && (t246 == t232 && (t247 == t233))))) = true := c69
                    (try (have c69b1 : decide (t243 = t229 && (t244 == t230 && (t245 == t231 && (t246 == t232 && (t247 == t233))))) = true := by simpa using c69))
                    (try (have c69b2 : (t243 == t229 && (t244 == t230 && (t245 == t231 && (t246 == t232 && (t247 == t233))))) = true := by simpa using c69))
                    clear c69
                    by_cases c70 : t248 = 0
                    · rw [if_pos c70] at H
                      have c70b0 : (t248 == 0) = true := beq_iff_eq.mpr c70
                      have c70b1 : (t248 != 0) = false := bne_eq_false_iff_eq.mpr c70
                      clear c70
                      replace H := Option.bind_eq_some_iff.mp H
                      obtain ⟨t250, A710, H⟩ := H
                      replace H : (some t250) = some r := H
                      have A71 := Aside0.mk A710
                      clear A710
                      obtain rfl := Option.some.inj H
                      have hnb72 := NB239_225.out
                      have hnc72 := NB225_239.out
                      have hnb73 := NB239_226.out
                      have hnc73 := NB226_239.out
                      have hnb74 := NB239_235.out
                      have hnc74 := NB235_239.out
                      have hcz75_0 : wc.cell? ⟨gb239, 0, none⟩ = some (.string t236) := (blk_cell BK239.out 0).trans rfl
                      have hcz75_1 : wc.cell? ⟨gb239, 1, none⟩ = some (.string t237) := (blk_cell BK239.out 1).trans rfl
                      have hfz75_0 := blk_frozen BK239.out 0
                      have hfz75_1 := blk_frozen BK239.out 1
                      have hnb76 := NB225_226.out
                      have hnc76 := NB226_225.out
                      have hnb77 := NB225_235.out
                      have hnc77 := NB235_225.out
                      have hcz78_0 : wc.cell? ⟨gb225, 0, none⟩ = some (.string t227) := (blk_cell BK225.out 0).trans rfl
                      have hcz78_1 : wc.cell? ⟨gb225, 1, none⟩ = some (.string t228) := (blk_cell BK225.out 1).trans rfl
                      have hfz78_0 := blk_frozen BK225.out 0
                      have hfz78_1 := blk_frozen BK225.out 1
                      go_wp2_with (first | ((with_reducible refine gate_callee (f := 10) rfl ?_); refine goesL_ (some 74) rfl rfl Try.func10 (by kernel_rfl) rfl #[.string x11_44] rfl (by (try simp only [List.map_toArray, List.map_cons, List.map_nil]); first | done | rfl | (simp only [List.length_drop, List.length_take]; rfl)) ?_; (with_reducible refine (disk_Parse.calls kj44 x11_44 t243 t244 t245 t246 t247 t248 _ A68.out).mono ?_); rintro e w79 ⟨rfl, hb⟩; refine ⟨_, rfl, ?_⟩; have n0_ := Aside0.mk (blk_below (g := gb225) (o := .cells #[.string t227, .string t228] 23 (0, 0)) (by (with_reducible repeat (first | refine blk_drewN ?_ _ | refine blk_drew ?_ | refine blk_alloc ?_ _)); exact BK225.out) hb); have n1_ := Aside0.mk (blk_below (g := gb226) (o := .cells #[.int .u64 a1_0, .int .u64 a1_1, .int .u64 a1_2, .int .u64 a1_3, .int .i64 a1_4] 26 (0, 0)) (by (with_reducible repeat (first | refine blk_drewN ?_ _ | refine blk_drew ?_ | refine blk_alloc ?_ _)); exact BK226.out) hb); have n2_ := Aside0.mk (blk_below (g := gb235) (o := .cells #[.int .u64 t229, .int .u64 t230, .int .u64 t231, .int .u64 t232, .int .i64 t233] 26 (0, 0)) (by (with_reducible repeat (first | refine blk_drewN ?_ _ | refine blk_drew ?_ | refine blk_alloc ?_ _)); exact BK235.out) hb); have n3_ := Aside0.mk (blk_below (g := gb239) (o := .cells #[.string t236, .string t237] 23 (0, 0)) (by (with_reducible repeat (first | refine blk_drewN ?_ _ | refine blk_drew ?_ | refine blk_alloc ?_ _)); exact BK239.out) hb); have n4_ := Aside0.mk (below_step (by repeat (first | (with_reducible first | exact HB.out | apply below_alloc | apply pw_below_drewN | apply below_drew1 | refine below_set ?_ GE225.out | refine below_set ?_ GE226.out | refine below_set ?_ GE235.out | refine below_set ?_ GE239.out) | exact HB.out)) hb); clear BK225; clear BK226; clear BK235; clear BK239; clear HB; have BK225 := n0_; have BK226 := n1_; have BK235 := n2_; have BK239 := n3_; have HB := n4_; clear n0_ n1_ n2_ n3_ n4_; (try clear hb); (try clear hb2); (try clear hk); (try clear hi)) | ((with_reducible refine gate_dst (N := 12) rfl ?_); refine box_event ?hg (N := 12) ?hd (cs := #[.int .u64 0, .int .u64 0, .int .u64 0, .int .u64 0, .int .i64 0]) (t := 26) ?hr ?_; (case hd => rfl); (case hg => rfl); (case hr => first | (go_simp; done) | (go_simp; rfl)); intro gb249 hg w80 hbox hb; have n0_ := Aside0.mk (blk_below (g := gb225) (o := .cells #[.string t227, .string t228] 23 (0, 0)) (by (with_reducible repeat (first | refine blk_drewN ?_ _ | refine blk_drew ?_ | refine blk_alloc ?_ _)); exact BK225.out) hb); have n1_ := Aside0.mk (blk_below (g := gb226) (o := .cells #[.int .u64 a1_0, .int .u64 a1_1, .int .u64 a1_2, .int .u64 a1_3, .int .i64 a1_4] 26 (0, 0)) (by (with_reducible repeat (first | refine blk_drewN ?_ _ | refine blk_drew ?_ | refine blk_alloc ?_ _)); exact BK226.out) hb); have n2_ := Aside0.mk (blk_below (g := gb235) (o := .cells #[.int .u64 t229, .int .u64 t230, .int .u64 t231, .int .u64 t232, .int .i64 t233] 26 (0, 0)) (by (with_reducible repeat (first | refine blk_drewN ?_ _ | refine blk_drew ?_ | refine blk_alloc ?_ _)); exact BK235.out) hb); have n3_ := Aside0.mk (blk_below (g := gb239) (o := .cells #[.string t236, .string t237] 23 (0, 0)) (by (with_reducible repeat (first | refine blk_drewN ?_ _ | refine blk_drew ?_ | refine blk_alloc ?_ _)); exact BK239.out) hb); have n4_ := Aside0.mk (below_step (by repeat (first | (with_reducible first | exact HB.out | apply below_alloc | apply pw_below_drewN | apply below_drew1 | refine below_set ?_ GE225.out | refine below_set ?_ GE226.out | refine below_set ?_ GE235.out | refine below_set ?_ GE239.out) | exact HB.out)) hb); have n5_ := Aside0.mk (hbox); have n6_ := Aside0.mk ((by rw [hg]; exact (below_size (by repeat (first | (with_reducible first | exact HB.out | apply below_alloc | apply pw_below_drewN | apply below_drew1 | refine below_set ?_ GE225.out | refine below_set ?_ GE226.out | refine below_set ?_ GE235.out | refine below_set ?_ GE239.out) | exact HB.out))) : w.heap.size ≤ gb249)); have n7_ := Aside0.mk ((by rw [hg]; exact (below_size (by repeat (first | (with_reducible first | exact HB.out | apply below_alloc | apply pw_below_drewN | apply below_drew1 | refine below_set ?_ GE225.out | refine below_set ?_ GE226.out | refine below_set ?_ GE235.out | refine below_set ?_ GE239.out) | exact HB.out))) : w.heap.size ≤ gb249)); have n8_ := Aside0.mk ((by rw [hg]; exact Nat.ne_of_lt (blk_lt (g := gb225) (o := .cells #[.string t227, .string t228] 23 (0, 0)) (by (with_reducible repeat (first | refine blk_drewN ?_ _ | refine blk_drew ?_ | refine blk_alloc ?_ _)); exact BK225.out)) : gb225 ≠ gb249)); have n9_ := Aside0.mk ((by rw [hg]; exact Nat.ne_of_gt (blk_lt (g := gb225) (o := .cells #[.string t227, .string t228] 23 (0, 0)) (by (with_reducible repeat (first | refine blk_drewN ?_ _ | refine blk_drew ?_ | refine blk_alloc ?_ _)); exact BK225.out)) : gb249 ≠ gb225)); have n10_ := Aside0.mk ((by rw [hg]; exact Nat.ne_of_lt (blk_lt (g := gb226) (o := .cells #[.int .u64 a1_0, .int .u64 a1_1, .int .u64 a1_2, .int .u64 a1_3, .int .i64 a1_4] 26 (0, 0)) (by (with_reducible repeat (first | refine blk_drewN ?_ _ | refine blk_drew ?_ | refine blk_alloc ?_ _)); exact BK226.out)) : gb226 ≠ gb249)); have n11_ := Aside0.mk ((by rw [hg]; exact Nat.ne_of_gt (blk_lt (g := gb226) (o := .cells #[.int .u64 a1_0, .int .u64 a1_1, .int .u64 a1_2, .int .u64 a1_3, .int .i64 a1_4] 26 (0, 0)) (by (with_reducible repeat (first | refine blk_drewN ?_ _ | refine blk_drew ?_ | refine blk_alloc ?_ _)); exact BK226.out)) : gb249 ≠ gb226)); have n12_ := Aside0.mk ((by rw [hg]; exact Nat.ne_of_lt (blk_lt (g := gb235) (o := .cells #[.int .u64 t229, .int .u64 t230, .int .u64 t231, .int .u64 t232, .int .i64 t233] 26 (0, 0)) (by (with_reducible repeat (first | refine blk_drewN ?_ _ | refine blk_drew ?_ | refine blk_alloc ?_ _)); exact BK235.out)) : gb235 ≠ gb249)); have n13_ := Aside0.mk ((by rw [hg]; exact Nat.ne_of_gt (blk_lt (g := gb235) (o := .cells #[.int .u64 t229, .int .u64 t230, .int .u64 t231, .int .u64 t232, .int .i64 t233] 26 (0, 0)) (by (with_reducible repeat (first | refine blk_drewN ?_ _ | refine blk_drew ?_ | refine blk_alloc ?_ _)); exact BK235.out)) : gb249 ≠ gb235)); have n14_ := Aside0.mk ((by rw [hg]; exact Nat.ne_of_lt (blk_lt (g := gb239) (o := .cells #[.string t236, .string t237] 23 (0, 0)) (by (with_reducible repeat (first | refine blk_drewN ?_ _ | refine blk_drew ?_ | refine blk_alloc ?_ _)); exact BK239.out)) : gb239 ≠ gb249)); have n15_ := Aside0.mk ((by rw [hg]; exact Nat.ne_of_gt (blk_lt (g := gb239) (o := .cells #[.string t236, .string t237] 23 (0, 0)) (by (with_reducible repeat (first | refine blk_drewN ?_ _ | refine blk_drew ?_ | refine blk_alloc ?_ _)); exact BK239.out)) : gb249 ≠ gb239)); clear BK225; clear BK226; clear BK235; clear BK239; clear HB; have BK225 := n0_; have BK226 := n1_; have BK235 := n2_; have BK239 := n3_; have HB := n4_; have BK249 := n5_; have GW249 := n6_; have GE249 := n7_; have NB225_249 := n8_; have NB249_225 := n9_; have NB226_249 := n10_; have NB249_226 := n11_; have NB235_249 := n12_; have NB249_235 := n13_; have NB239_249 := n14_; have NB249_239 := n15_; clear n0_ n1_ n2_ n3_ n4_ n5_ n6_ n7_ n8_ n9_ n10_ n11_ n12_ n13_ n14_ n15_; clear hb hbox hg; have hnb81 := NB249_225.out; have hnc81 := NB225_249.out; have hnb82 := NB249_226.out; have hnc82 := NB226_249.out; have hnb83 := NB249_235.out; have hnc83 := NB235_249.out; have hnb84 := NB249_239.out; have hnc84 := NB239_249.out; have hcz85_0 : w80.cell? ⟨gb249, 0, none⟩ = some (.int .u64 0) := (blk_cell BK249.out 0).trans rfl; have hcz85_1 : w80.cell? ⟨gb249, 1, none⟩ = some (.int .u64 0) := (blk_cell BK249.out 1).trans rfl; have hcz85_2 : w80.cell? ⟨gb249, 2, none⟩ = some (.int .u64 0) := (blk_cell BK249.out 2).trans rfl; have hcz85_3 : w80.cell? ⟨gb249, 3, none⟩ = some (.int .u64 0) := (blk_cell BK249.out 3).trans rfl; have hcz85_4 : w80.cell? ⟨gb249, 4, none⟩ = some (.int .i64 0) := (blk_cell BK249.out 4).trans rfl; have hfz85_0 := blk_frozen BK249.out 0; have hfz85_1 := blk_frozen BK249.out 1; have hfz85_2 := blk_frozen BK249.out 2; have hfz85_3 := blk_frozen BK249.out 3; have hfz85_4 := blk_frozen BK249.out 4; have hnb86 := NB235_226.out; have hnc86 := NB226_235.out; have hcz87_0 : w80.cell? ⟨gb235, 0, none⟩ = some (.int .u64 t229) := (blk_cell BK235.out 0).trans rfl; have hcz87_1 : w80.cell? ⟨gb235, 1, none⟩ = some (.int .u64 t230) := (blk_cell BK235.out 1).trans rfl; have hcz87_2 : w80.cell? ⟨gb235, 2, none⟩ = some (.int .u64 t231) := (blk_cell BK235.out 2).trans rfl; have hcz87_3 : w80.cell? ⟨gb235, 3, none⟩ = some (.int .u64 t232) := (blk_cell BK235.out 3).trans rfl; have hcz87_4 : w80.cell? ⟨gb235, 4, none⟩ = some (.int .i64 t233) := (blk_cell BK235.out 4).trans rfl; have hfz87_0 := blk_frozen BK235.out 0; have hfz87_1 := blk_frozen BK235.out 1; have hfz87_2 := blk_frozen BK235.out 2; have hfz87_3 := blk_frozen BK235.out 3; have hfz87_4 := blk_frozen BK235.out 4) | (go_at_call 16; (with_reducible refine (tattlelaw16_awake.calls kj44  t250 _ A71.out).mono ?_); rintro e w88 ⟨rfl, hb⟩; have n0_ := Aside0.mk (blk_below (g := gb225) (o := .cells #[.string t227, .string t228] 23 (0, 0)) (by (with_reducible repeat (first | refine blk_drewN ?_ _ | refine blk_drew ?_ | refine blk_alloc ?_ _)); refine blk_far ?_ NB225_249.out _; (with_reducible repeat (first | refine blk_drewN ?_ _ | refine blk_drew ?_ | refine blk_alloc ?_ _)); refine blk_far ?_ NB225_249.out _; (with_reducible repeat (first | refine blk_drewN ?_ _ | refine blk_drew ?_ | refine blk_alloc ?_ _)); refine blk_far ?_ NB225_249.out _; (with_reducible repeat (first | refine blk_drewN ?_ _ | refine blk_drew ?_ | refine blk_alloc ?_ _)); refine blk_far ?_ NB225_249.out _; (with_reducible repeat (first | refine blk_drewN ?_ _ | refine blk_drew ?_ | refine blk_alloc ?_ _)); refine blk_far ?_ NB225_249.out _; (with_reducible repeat (first | refine blk_drewN ?_ _ | refine blk_drew ?_ | refine blk_alloc ?_ _)); exact BK225.out) hb); have n1_ := Aside0.mk (blk_below (g := gb226) (o := .cells #[.int .u64 a1_0, .int .u64 a1_1, .int .u64 a1_2, .int .u64 a1_3, .int .i64 a1_4] 26 (0, 0)) (by (with_reducible repeat (first | refine blk_drewN ?_ _ | refine blk_drew ?_ | refine blk_alloc ?_ _)); refine blk_far ?_ NB226_249.out _; (with_reducible repeat (first | refine blk_drewN ?_ _ | refine blk_drew ?_ | refine blk_alloc ?_ _)); refine blk_far ?_ NB226_249.out _; (with_reducible repeat (first | refine blk_drewN ?_ _ | refine blk_drew ?_ | refine blk_alloc ?_ _)); refine blk_far ?_ NB226_249.out _; (with_reducible repeat (first | refine blk_drewN ?_ _ | refine blk_drew ?_ | refine blk_alloc ?_ _)); refine blk_far ?_ NB226_249.out _; (with_reducible repeat (first | refine blk_drewN ?_ _ | refine blk_drew ?_ | refine blk_alloc ?_ _)); refine blk_far ?_ NB226_249.out _; (with_reducible repeat (first | refine blk_drewN ?_ _ | refine blk_drew ?_ | refine blk_alloc ?_ _)); exact BK226.out) hb); have n2_ := Aside0.mk (blk_below (g := gb235) (o := .cells #[.int .u64 t229, .int .u64 t230, .int .u64 t231, .int .u64 t232, .int .i64 t233] 26 (0, 0)) (by (with_reducible repeat (first | refine blk_drewN ?_ _ | refine blk_drew ?_ | refine blk_alloc ?_ _)); refine blk_far ?_ NB235_249.out _; (with_reducible repeat (first | refine blk_drewN ?_ _ | refine blk_drew ?_ | refine blk_alloc ?_ _)); refine blk_far ?_ NB235_249.out _; (with_reducible repeat (first | refine blk_drewN ?_ _ | refine blk_drew ?_ | refine blk_alloc ?_ _)); refine blk_far ?_ NB235_249.out _; (with_reducible repeat (first | refine blk_drewN ?_ _ | refine blk_drew ?_ | refine blk_alloc ?_ _)); refine blk_far ?_ NB235_249.out _; (with_reducible repeat (first | refine blk_drewN ?_ _ | refine blk_drew ?_ | refine blk_alloc ?_ _)); refine blk_far ?_ NB235_249.out _; (with_reducible repeat (first | refine blk_drewN ?_ _ | refine blk_drew ?_ | refine blk_alloc ?_ _)); exact BK235.out) hb); have n3_ := Aside0.mk (blk_below (g := gb239) (o := .cells #[.string t236, .string t237] 23 (0, 0)) (by (with_reducible repeat (first | refine blk_drewN ?_ _ | refine blk_drew ?_ | refine blk_alloc ?_ _)); refine blk_far ?_ NB239_249.out _; (with_reducible repeat (first | refine blk_drewN ?_ _ | refine blk_drew ?_ | refine blk_alloc ?_ _)); refine blk_far ?_ NB239_249.out _; (with_reducible repeat (first | refine blk_drewN ?_ _ | refine blk_drew ?_ | refine blk_alloc ?_ _)); refine blk_far ?_ NB239_249.out _; (with_reducible repeat (first | refine blk_drewN ?_ _ | refine blk_drew ?_ | refine blk_alloc ?_ _)); refine blk_far ?_ NB239_249.out _; (with_reducible repeat (first | refine blk_drewN ?_ _ | refine blk_drew ?_ | refine blk_alloc ?_ _)); refine blk_far ?_ NB239_249.out _; (with_reducible repeat (first | refine blk_drewN ?_ _ | refine blk_drew ?_ | refine blk_alloc ?_ _)); exact BK239.out) hb); have n4_ := Aside0.mk (blk_below (g := gb249) (o := .cells #[.int .u64 t243, .int .u64 t244, .int .u64 t245, .int .u64 t246, .int .i64 t247] 26 (0, 0)) (by (with_reducible repeat (first | refine blk_drewN ?_ _ | refine blk_drew ?_ | refine blk_alloc ?_ _)); refine blk_put (cs := #[.int .u64 t243, .int .u64 t244, .int .u64 t245, .int .u64 t246, .int .i64 0]) ?_ 4 _ rfl; (with_reducible repeat (first | refine blk_drewN ?_ _ | refine blk_drew ?_ | refine blk_alloc ?_ _)); refine blk_put (cs := #[.int .u64 t243, .int .u64 t244, .int .u64 t245, .int .u64 0, .int .i64 0]) ?_ 3 _ rfl; (with_reducible repeat (first | refine blk_drewN ?_ _ | refine blk_drew ?_ | refine blk_alloc ?_ _)); refine blk_put (cs := #[.int .u64 t243, .int .u64 t244, .int .u64 0, .int .u64 0, .int .i64 0]) ?_ 2 _ rfl; (with_reducible repeat (first | refine blk_drewN ?_ _ | refine blk_drew ?_ | refine blk_alloc ?_ _)); refine blk_put (cs := #[.int .u64 t243, .int .u64 0, .int .u64 0, .int .u64 0, .int .i64 0]) ?_ 1 _ rfl; (with_reducible repeat (first | refine blk_drewN ?_ _ | refine blk_drew ?_ | refine blk_alloc ?_ _)); refine blk_put (cs := #[.int .u64 0, .int .u64 0, .int .u64 0, .int .u64 0, .int .i64 0]) ?_ 0 _ rfl; (with_reducible repeat (first | refine blk_drewN ?_ _ | refine blk_drew ?_ | refine blk_alloc ?_ _)); exact BK249.out) hb); have n5_ := Aside0.mk (below_step (by repeat (first | (with_reducible first | exact HB.out | apply below_alloc | apply pw_below_drewN | apply below_drew1 | refine below_set ?_ GE225.out | refine below_set ?_ GE226.out | refine below_set ?_ GE235.out | refine below_set ?_ GE239.out | refine below_set ?_ GE249.out) | exact HB.out)) hb); clear BK225; clear BK226; clear BK235; clear BK239; clear BK249; clear HB; have BK225 := n0_; have BK226 := n1_; have BK235 := n2_; have BK239 := n3_; have BK249 := n4_; have HB := n5_; clear n0_ n1_ n2_ n3_ n4_ n5_; (try clear hb); (try clear hb2); (try clear hk); (try clear hi)))
                      go_ret
                      exact ⟨by first | rfl | (simp [errW_none, errW_some] <;> rfl) | (simp [*, errW_none, errW_some] <;> rfl), by repeat (first | (with_reducible first | exact HB.out | apply below_alloc | apply pw_below_drewN | apply below_drew1 | refine below_set ?_ GE225.out | refine below_set ?_ GE226.out | refine below_set ?_ GE235.out | refine below_set ?_ GE239.out | refine below_set ?_ GE249.out) | exact HB.out)⟩
                    · rw [if_neg c70] at H
                      exact absurd H (by simp)
                  · rw [if_neg c69] at H
                    exact absurd H (by simp)
          · rw [if_neg c44] at H
            have c44b0 : (t234 == 0) = false := beq_eq_false_iff_ne.mpr c44
            have c44b1 : (t234 != 0) = true := bne_iff_ne.mpr c44
            by_cases c89 : t237.toList = t228.toList
            · rw [if_pos c89] at H
              have c89b0 : (t237.toList == t228.toList) = true := beq_iff_eq.mpr c89
              have c89b1 : (t237.toList != t228.toList) = false := bne_eq_false_iff_eq.mpr c89
              clear c89
              replace H := Option.bind_eq_some_iff.mp H
              obtain ⟨t241, A900, H⟩ := H
              replace H : (some t241) = some r := H
              have A90 := Aside0.mk A900
              clear A900
              obtain rfl := Option.some.inj H
              have hnb91 := NB239_225.out
              have hnc91 := NB225_239.out
              have hnb92 := NB239_226.out
              have hnc92 := NB226_239.out
              have hnb93 := NB239_235.out
              have hnc93 := NB235_239.out
              have hcz94_0 : wc.cell? ⟨gb239, 0, none⟩ = some (.string t236) := (blk_cell BK239.out 0).trans rfl
              have hcz94_1 : wc.cell? ⟨gb239, 1, none⟩ = some (.string t237) := (blk_cell BK239.out 1).trans rfl
              have hfz94_0 := blk_frozen BK239.out 0
              have hfz94_1 := blk_frozen BK239.out 1
              have hnb95 := NB225_226.out
              have hnc95 := NB226_225.out
              have hnb96 := NB225_235.out
              have hnc96 := NB235_225.out
              have hcz97_0 : wc.cell? ⟨gb225, 0, none⟩ = some (.string t227) := (blk_cell BK225.out 0).trans rfl
              have hcz97_1 : wc.cell? ⟨gb225, 1, none⟩ = some (.string t228) := (blk_cell BK225.out 1).trans rfl
              have hfz97_0 := blk_frozen BK225.out 0
              have hfz97_1 := blk_frozen BK225.out 1
              go_wp2_with (first | (go_at_call 16; (with_reducible refine (tattlelaw16_awake.calls kj7  t241 _ A90.out).mono ?_); rintro e w98 ⟨rfl, hb⟩; have n0_ := Aside0.mk (blk_below (g := gb225) (o := .cells #[.string t227, .string t228] 23 (0, 0)) (by (with_reducible repeat (first | refine blk_drewN ?_ _ | refine blk_drew ?_ | refine blk_alloc ?_ _)); exact BK225.out) hb); have n1_ := Aside0.mk (blk_below (g := gb226) (o := .cells #[.int .u64 a1_0, .int .u64 a1_1, .int .u64 a1_2, .int .u64 a1_3, .int .i64 a1_4] 26 (0, 0)) (by (with_reducible repeat (first | refine blk_drewN ?_ _ | refine blk_drew ?_ | refine blk_alloc ?_ _)); exact BK226.out) hb); have n2_ := Aside0.mk (blk_below (g := gb235) (o := .cells #[.int .u64 t229, .int .u64 t230, .int .u64 t231, .int .u64 t232, .int .i64 t233] 26 (0, 0)) (by (with_reducible repeat (first | refine blk_drewN ?_ _ | refine blk_drew ?_ | refine blk_alloc ?_ _)); exact BK235.out) hb); have n3_ := Aside0.mk (blk_below (g := gb239) (o := .cells #[.string t236, .string t237] 23 (0, 0)) (by (with_reducible repeat (first | refine blk_drewN ?_ _ | refine blk_drew ?_ | refine blk_alloc ?_ _)); exact BK239.out) hb); have n4_ := Aside0.mk (below_step (by repeat (first | (with_reducible first | exact HB.out | apply below_alloc | apply pw_below_drewN | apply below_drew1 | refine below_set ?_ GE225.out | refine below_set ?_ GE226.out | refine below_set ?_ GE235.out | refine below_set ?_ GE239.out) | exact HB.out)) hb); clear BK225; clear BK226; clear BK235; clear BK239; clear HB; have BK225 := n0_; have BK226 := n1_; have BK235 := n2_; have BK239 := n3_; have HB := n4_; clear n0_ n1_ n2_ n3_ n4_; (try clear hb); (try clear hb2); (try clear hk); (try clear hi)))
              go_ret
              exact ⟨by first | rfl | (simp [errW_none, errW_some] <;> rfl) | (simp [*, errW_none, errW_some] <;> rfl), by repeat (first | (with_reducible first | exact HB.out | apply below_alloc | apply pw_below_drewN | apply below_drew1 | refine below_set ?_ GE225.out | refine below_set ?_ GE226.out | refine below_set ?_ GE235.out | refine below_set ?_ GE239.out) | exact HB.out)⟩
            · rw [if_neg c89] at H
              exact absurd H (by simp)
  · rw [if_neg c7] at H
    have c7b0 : (t238 == 0) = false := beq_eq_false_iff_ne.mpr c7
    have c7b1 : (t238 != 0) = true := bne_iff_ne.mpr c7
    by_cases c99 : (t236.toList == t227.toList && (t237.toList == t228.toList)) = true
    · rw [if_pos c99] at H
      have c99b0 : (t236.toList == t227.toList && (t237.toList == t228.toList)) = true := c99
      (try (have c99b1 : decide (t236.toList = t227.toList && (t237.toList == t228.toList)) = true := by simpa using c99))
      (try (have c99b2 : (t236.toList == t227.toList && (t237.toList == t228.toList)) = true := by simpa using c99))
      clear c99
      replace H := Option.bind_eq_some_iff.mp H
      obtain ⟨t240, A1000, H⟩ := H
      replace H : (some t240) = some r := H
      have A100 := Aside0.mk A1000
      clear A1000
      obtain rfl := Option.some.inj H
      go_enter Try.func8, Try.ntmps8
      go_wp2_with (first | ((with_reducible refine gate_dst (N := 3) rfl ?_); refine box_event ?hg (N := 3) ?hd (cs := #[.string a0_0, .string a0_1]) (t := 23) ?hr ?_; (case hd => rfl); (case hg => rfl); (case hr => first | (go_simp; done) | (go_simp; rfl)); intro gb225 hg w101 hbox hb; have n0_ := Aside0.mk (below_step (by repeat (first | (with_reducible first | exact HB.out | apply below_alloc | apply pw_below_drewN | apply below_drew1) | exact HB.out)) hb); have n1_ := Aside0.mk (hbox); have n2_ := Aside0.mk ((by rw [hg]; exact (below_size (by repeat (first | (with_reducible first | exact HB.out | apply below_alloc | apply pw_below_drewN | apply below_drew1) | exact HB.out))) : w.heap.size ≤ gb225)); have n3_ := Aside0.mk ((by rw [hg]; exact (below_size (by repeat (first | (with_reducible first | exact HB.out | apply below_alloc | apply pw_below_drewN | apply below_drew1) | exact HB.out))) : w.heap.size ≤ gb225)); clear HB; have HB := n0_; have BK225 := n1_; have GW225 := n2_; have GE225 := n3_; clear n0_ n1_ n2_ n3_; clear hb hbox hg) | ((with_reducible refine gate_dst (N := 4) rfl ?_); refine box_event ?hg (N := 4) ?hd (cs := #[.int .u64 a1_0, .int .u64 a1_1, .int .u64 a1_2, .int .u64 a1_3, .int .i64 a1_4]) (t := 26) ?hr ?_; (case hd => rfl); (case hg => rfl); (case hr => first | (go_simp; done) | (go_simp; rfl)); intro gb226 hg w102 hbox hb; have n0_ := Aside0.mk (blk_below (g := gb225) (o := .cells #[.string a0_0, .string a0_1] 23 (0, 0)) (by (with_reducible repeat (first | refine blk_drewN ?_ _ | refine blk_drew ?_ | refine blk_alloc ?_ _)); exact BK225.out) hb); have n1_ := Aside0.mk (below_step (by repeat (first | (with_reducible first | exact HB.out | apply below_alloc | apply pw_below_drewN | apply below_drew1 | refine below_set ?_ GE225.out) | exact HB.out)) hb); have n2_ := Aside0.mk (hbox); have n3_ := Aside0.mk ((by rw [hg]; exact (below_size (by repeat (first | (with_reducible first | exact HB.out | apply below_alloc | apply pw_below_drewN | apply below_drew1 | refine below_set ?_ GE225.out) | exact HB.out))) : w.heap.size ≤ gb226)); have n4_ := Aside0.mk ((by rw [hg]; exact (below_size (by repeat (first | (with_reducible first | exact HB.out | apply below_alloc | apply pw_below_drewN | apply below_drew1 | refine below_set ?_ GE225.out) | exact HB.out))) : w.heap.size ≤ gb226)); have n5_ := Aside0.mk ((by rw [hg]; exact Nat.ne_of_lt (blk_lt (g := gb225) (o := .cells #[.string a0_0, .string a0_1] 23 (0, 0)) (by (with_reducible repeat (first | refine blk_drewN ?_ _ | refine blk_drew ?_ | refine blk_alloc ?_ _)); exact BK225.out)) : gb225 ≠ gb226)); have n6_ := Aside0.mk ((by rw [hg]; exact Nat.ne_of_gt (blk_lt (g := gb225) (o := .cells #[.string a0_0, .string a0_1] 23 (0, 0)) (by (with_reducible repeat (first | refine blk_drewN ?_ _ | refine blk_drew ?_ | refine blk_alloc ?_ _)); exact BK225.out)) : gb226 ≠ gb225)); clear BK225; clear HB; have BK225 := n0_; have HB := n1_; have BK226 := n2_; have GW226 := n3_; have GE226 := n4_; have NB225_226 := n5_; have NB226_225 := n6_; clear n0_ n1_ n2_ n3_ n4_ n5_ n6_; clear hb hbox hg; have hnb103 := NB225_226.out; have hnc103 := NB226_225.out; have hcz104_0 : w102.cell? ⟨gb225, 0, none⟩ = some (.string a0_0) := (blk_cell BK225.out 0).trans rfl; have hcz104_1 : w102.cell? ⟨gb225, 1, none⟩ = some (.string a0_1) := (blk_cell BK225.out 1).trans rfl; have hfz104_0 := blk_frozen BK225.out 0; have hfz104_1 := blk_frozen BK225.out 1) | ((with_reducible refine gate_callee (f := 9) rfl ?_); refine goesL_ (some 15) rfl rfl Try.func9 (by kernel_rfl) rfl #[.agg #[.string a0_0, .string a0_1]] rfl (by (try simp only [List.map_toArray, List.map_cons, List.map_nil]); first | done | rfl | (simp only [List.length_drop, List.length_take]; rfl)) ?_; (with_reducible refine (tattlelaw16_Few.calls a0_0 a0_1 t227 t228 _ A4.out).mono ?_); rintro e w105 ⟨rfl, hb⟩; refine ⟨_, rfl, ?_⟩; have n0_ := Aside0.mk (blk_below (g := gb225) (o := .cells #[.string a0_0, .string a0_1] 23 (0, 0)) (by (with_reducible repeat (first | refine blk_drewN ?_ _ | refine blk_drew ?_ | refine blk_alloc ?_ _)); exact BK225.out) hb); have n1_ := Aside0.mk (blk_below (g := gb226) (o := .cells #[.int .u64 a1_0, .int .u64 a1_1, .int .u64 a1_2, .int .u64 a1_3, .int .i64 a1_4] 26 (0, 0)) (by (with_reducible repeat (first | refine blk_drewN ?_ _ | refine blk_drew ?_ | refine blk_alloc ?_ _)); exact BK226.out) hb); have n2_ := Aside0.mk (below_step (by repeat (first | (with_reducible first | exact HB.out | apply below_alloc | apply pw_below_drewN | apply below_drew1 | refine below_set ?_ GE225.out | refine below_set ?_ GE226.out) | exact HB.out)) hb); clear BK225; clear BK226; clear HB; have BK225 := n0_; have BK226 := n1_; have HB := n2_; clear n0_ n1_ n2_; (try clear hb); (try clear hb2); (try clear hk); (try clear hi); have hcz106_0 : w105.cell? ⟨gb225, 0, none⟩ = some (.string a0_0) := (blk_cell BK225.out 0).trans rfl; have hcz106_1 : w105.cell? ⟨gb225, 1, none⟩ = some (.string a0_1) := (blk_cell BK225.out 1).trans rfl; have hfz106_0 := blk_frozen BK225.out 0; have hfz106_1 := blk_frozen BK225.out 1) | ((with_reducible refine gate_callee (f := 12) rfl ?_); refine goesL_ (some 18) rfl rfl Try.func12 (by kernel_rfl) rfl #[.agg #[.string t227, .string t228]] rfl (by (try simp only [List.map_toArray, List.map_cons, List.map_nil]); first | done | rfl | (simp only [List.length_drop, List.length_take]; rfl)) ?_; (with_reducible refine (disk_Read.calls k t227 t228 t229 t230 t231 t232 t233 t234 _ A5.out).mono ?_); rintro e w107 ⟨rfl, hb⟩; refine ⟨_, rfl, ?_⟩; have n0_ := Aside0.mk (blk_below (g := gb225) (o := .cells #[.string t227, .string t228] 23 (0, 0)) (by (with_reducible repeat (first | refine blk_drewN ?_ _ | refine blk_drew ?_ | refine blk_alloc ?_ _)); refine blk_put (cs := #[.string t227, .string a0_1]) ?_ 1 _ rfl; (with_reducible repeat (first | refine blk_drewN ?_ _ | refine blk_drew ?_ | refine blk_alloc ?_ _)); refine blk_put (cs := #[.string a0_0, .string a0_1]) ?_ 0 _ rfl; (with_reducible repeat (first | refine blk_drewN ?_ _ | refine blk_drew ?_ | refine blk_alloc ?_ _)); exact BK225.out) hb); have n1_ := Aside0.mk (blk_below (g := gb226) (o := .cells #[.int .u64 a1_0, .int .u64 a1_1, .int .u64 a1_2, .int .u64 a1_3, .int .i64 a1_4] 26 (0, 0)) (by (with_reducible repeat (first | refine blk_drewN ?_ _ | refine blk_drew ?_ | refine blk_alloc ?_ _)); refine blk_far ?_ NB226_225.out _; (with_reducible repeat (first | refine blk_drewN ?_ _ | refine blk_drew ?_ | refine blk_alloc ?_ _)); refine blk_far ?_ NB226_225.out _; (with_reducible repeat (first | refine blk_drewN ?_ _ | refine blk_drew ?_ | refine blk_alloc ?_ _)); exact BK226.out) hb); have n2_ := Aside0.mk (below_step (by repeat (first | (with_reducible first | exact HB.out | apply below_alloc | apply pw_below_drewN | apply below_drew1 | refine below_set ?_ GE225.out | refine below_set ?_ GE226.out) | exact HB.out)) hb); clear BK225; clear BK226; clear HB; have BK225 := n0_; have BK226 := n1_; have HB := n2_; clear n0_ n1_ n2_; (try clear hb); (try clear hb2); (try clear hk); (try clear hi)) | ((with_reducible refine gate_dst (N := 7) rfl ?_); refine box_event ?hg (N := 7) ?hd (cs := #[.int .u64 0, .int .u64 0, .int .u64 0, .int .u64 0, .int .i64 0]) (t := 26) ?hr ?_; (case hd => rfl); (case hg => rfl); (case hr => first | (go_simp; done) | (go_simp; rfl)); intro gb235 hg w108 hbox hb; have n0_ := Aside0.mk (blk_below (g := gb225) (o := .cells #[.string t227, .string t228] 23 (0, 0)) (by (with_reducible repeat (first | refine blk_drewN ?_ _ | refine blk_drew ?_ | refine blk_alloc ?_ _)); exact BK225.out) hb); have n1_ := Aside0.mk (blk_below (g := gb226) (o := .cells #[.int .u64 a1_0, .int .u64 a1_1, .int .u64 a1_2, .int .u64 a1_3, .int .i64 a1_4] 26 (0, 0)) (by (with_reducible repeat (first | refine blk_drewN ?_ _ | refine blk_drew ?_ | refine blk_alloc ?_ _)); exact BK226.out) hb); have n2_ := Aside0.mk (below_step (by repeat (first | (with_reducible first | exact HB.out | apply below_alloc | apply pw_below_drewN | apply below_drew1 | refine below_set ?_ GE225.out | refine below_set ?_ GE226.out) | exact HB.out)) hb); have n3_ := Aside0.mk (hbox); have n4_ := Aside0.mk ((by rw [hg]; exact (below_size (by repeat (first | (with_reducible first | exact HB.out | apply below_alloc | apply pw_below_drewN | apply below_drew1 | refine below_set ?_ GE225.out | refine below_set ?_ GE226.out) | exact HB.out))) : w.heap.size ≤ gb235)); have n5_ := Aside0.mk ((by rw [hg]; exact (below_size (by repeat (first | (with_reducible first | exact HB.out | apply below_alloc | apply pw_below_drewN | apply below_drew1 | refine below_set ?_ GE225.out | refine below_set ?_ GE226.out) | exact HB.out))) : w.heap.size ≤ gb235)); have n6_ := Aside0.mk ((by rw [hg]; exact Nat.ne_of_lt (blk_lt (g := gb225) (o := .cells #[.string t227, .string t228] 23 (0, 0)) (by (with_reducible repeat (first | refine blk_drewN ?_ _ | refine blk_drew ?_ | refine blk_alloc ?_ _)); exact BK225.out)) : gb225 ≠ gb235)); have n7_ := Aside0.mk ((by rw [hg]; exact Nat.ne_of_gt (blk_lt (g := gb225) (o := .cells #[.string t227, .string t228] 23 (0, 0)) (by (with_reducible repeat (first | refine blk_drewN ?_ _ | refine blk_drew ?_ | refine blk_alloc ?_ _)); exact BK225.out)) : gb235 ≠ gb225)); have n8_ := Aside0.mk ((by rw [hg]; exact Nat.ne_of_lt (blk_lt (g := gb226) (o := .cells #[.int .u64 a1_0, .int .u64 a1_1, .int .u64 a1_2, .int .u64 a1_3, .int .i64 a1_4] 26 (0, 0)) (by (with_reducible repeat (first | refine blk_drewN ?_ _ | refine blk_drew ?_ | refine blk_alloc ?_ _)); exact BK226.out)) : gb226 ≠ gb235)); have n9_ := Aside0.mk ((by rw [hg]; exact Nat.ne_of_gt (blk_lt (g := gb226) (o := .cells #[.int .u64 a1_0, .int .u64 a1_1, .int .u64 a1_2, .int .u64 a1_3, .int .i64 a1_4] 26 (0, 0)) (by (with_reducible repeat (first | refine blk_drewN ?_ _ | refine blk_drew ?_ | refine blk_alloc ?_ _)); exact BK226.out)) : gb235 ≠ gb226)); clear BK225; clear BK226; clear HB; have BK225 := n0_; have BK226 := n1_; have HB := n2_; have BK235 := n3_; have GW235 := n4_; have GE235 := n5_; have NB225_235 := n6_; have NB235_225 := n7_; have NB226_235 := n8_; have NB235_226 := n9_; clear n0_ n1_ n2_ n3_ n4_ n5_ n6_ n7_ n8_ n9_; clear hb hbox hg; have hnb109 := NB235_225.out; have hnc109 := NB225_235.out; have hnb110 := NB235_226.out; have hnc110 := NB226_235.out; have hcz111_0 : w108.cell? ⟨gb235, 0, none⟩ = some (.int .u64 0) := (blk_cell BK235.out 0).trans rfl; have hcz111_1 : w108.cell? ⟨gb235, 1, none⟩ = some (.int .u64 0) := (blk_cell BK235.out 1).trans rfl; have hcz111_2 : w108.cell? ⟨gb235, 2, none⟩ = some (.int .u64 0) := (blk_cell BK235.out 2).trans rfl; have hcz111_3 : w108.cell? ⟨gb235, 3, none⟩ = some (.int .u64 0) := (blk_cell BK235.out 3).trans rfl; have hcz111_4 : w108.cell? ⟨gb235, 4, none⟩ = some (.int .i64 0) := (blk_cell BK235.out 4).trans rfl; have hfz111_0 := blk_frozen BK235.out 0; have hfz111_1 := blk_frozen BK235.out 1; have hfz111_2 := blk_frozen BK235.out 2; have hfz111_3 := blk_frozen BK235.out 3; have hfz111_4 := blk_frozen BK235.out 4; have hcz112_0 : w108.cell? ⟨gb225, 0, none⟩ = some (.string t227) := (blk_cell BK225.out 0).trans rfl; have hcz112_1 : w108.cell? ⟨gb225, 1, none⟩ = some (.string t228) := (blk_cell BK225.out 1).trans rfl; have hfz112_0 := blk_frozen BK225.out 0; have hfz112_1 := blk_frozen BK225.out 1; have hcz113_0 : w108.cell? ⟨gb226, 0, none⟩ = some (.int .u64 a1_0) := (blk_cell BK226.out 0).trans rfl; have hcz113_1 : w108.cell? ⟨gb226, 1, none⟩ = some (.int .u64 a1_1) := (blk_cell BK226.out 1).trans rfl; have hcz113_2 : w108.cell? ⟨gb226, 2, none⟩ = some (.int .u64 a1_2) := (blk_cell BK226.out 2).trans rfl; have hcz113_3 : w108.cell? ⟨gb226, 3, none⟩ = some (.int .u64 a1_3) := (blk_cell BK226.out 3).trans rfl; have hcz113_4 : w108.cell? ⟨gb226, 4, none⟩ = some (.int .i64 a1_4) := (blk_cell BK226.out 4).trans rfl; have hfz113_0 := blk_frozen BK226.out 0; have hfz113_1 := blk_frozen BK226.out 1; have hfz113_2 := blk_frozen BK226.out 2; have hfz113_3 := blk_frozen BK226.out 3; have hfz113_4 := blk_frozen BK226.out 4) | ((with_reducible refine gate_callee (f := 20) rfl ?_); refine goesL_ (some 26) rfl rfl Try.func20 (by kernel_rfl) rfl #[.agg #[.string t227, .string t228], .agg #[.int .u64 a1_0, .int .u64 a1_1, .int .u64 a1_2, .int .u64 a1_3, .int .i64 a1_4], .int .i64 (wrap64 (a2))] rfl (by (try simp only [List.map_toArray, List.map_cons, List.map_nil]); first | done | rfl | (simp only [List.length_drop, List.length_take]; rfl)) ?_; (with_reducible refine (disk_Tear.calls k t227 t228 a1_0 a1_1 a1_2 a1_3 a1_4 (wrap64 (a2)) t236 t237 t238 _ A6.out).mono ?_); rintro e w114 ⟨rfl, hb⟩; refine ⟨_, rfl, ?_⟩; have n0_ := Aside0.mk (blk_below (g := gb225) (o := .cells #[.string t227, .string t228] 23 (0, 0)) (by (with_reducible repeat (first | refine blk_drewN ?_ _ | refine blk_drew ?_ | refine blk_alloc ?_ _)); refine blk_far ?_ NB225_235.out _; (with_reducible repeat (first | refine blk_drewN ?_ _ | refine blk_drew ?_ | refine blk_alloc ?_ _)); refine blk_far ?_ NB225_235.out _; (with_reducible repeat (first | refine blk_drewN ?_ _ | refine blk_drew ?_ | refine blk_alloc ?_ _)); refine blk_far ?_ NB225_235.out _; (with_reducible repeat (first | refine blk_drewN ?_ _ | refine blk_drew ?_ | refine blk_alloc ?_ _)); refine blk_far ?_ NB225_235.out _; (with_reducible repeat (first | refine blk_drewN ?_ _ | refine blk_drew ?_ | refine blk_alloc ?_ _)); refine blk_far ?_ NB225_235.out _; (with_reducible repeat (first | refine blk_drewN ?_ _ | refine blk_drew ?_ | refine blk_alloc ?_ _)); exact BK225.out) hb); have n1_ := Aside0.mk (blk_below (g := gb226) (o := .cells #[.int .u64 a1_0, .int .u64 a1_1, .int .u64 a1_2, .int .u64 a1_3, .int .i64 a1_4] 26 (0, 0)) (by (with_reducible repeat (first | refine blk_drewN ?_ _ | refine blk_drew ?_ | refine blk_alloc ?_ _)); refine blk_far ?_ NB226_235.out _; (with_reducible repeat (first | refine blk_drewN ?_ _ | refine blk_drew ?_ | refine blk_alloc ?_ _)); refine blk_far ?_ NB226_235.out _; (with_reducible repeat (first | refine blk_drewN ?_ _ | refine blk_drew ?_ | refine blk_alloc ?_ _)); refine blk_far ?_ NB226_235.out _; (with_reducible repeat (first | refine blk_drewN ?_ _ | refine blk_drew ?_ | refine blk_alloc ?_ _)); refine blk_far ?_ NB226_235.out _; (with_reducible repeat (first | refine blk_drewN ?_ _ | refine blk_drew ?_ | refine blk_alloc ?_ _)); refine blk_far ?_ NB226_235.out _; (with_reducible repeat (first | refine blk_drewN ?_ _ | refine blk_drew ?_ | refine blk_alloc ?_ _)); exact BK226.out) hb); have n2_ := Aside0.mk (blk_below (g := gb235) (o := .cells #[.int .u64 t229, .int .u64 t230, .int .u64 t231, .int .u64 t232, .int .i64 t233] 26 (0, 0)) (by (with_reducible repeat (first | refine blk_drewN ?_ _ | refine blk_drew ?_ | refine blk_alloc ?_ _)); refine blk_put (cs := #[.int .u64 t229, .int .u64 t230, .int .u64 t231, .int .u64 t232, .int .i64 0]) ?_ 4 _ rfl; (with_reducible repeat (first | refine blk_drewN ?_ _ | refine blk_drew ?_ | refine blk_alloc ?_ _)); refine blk_put (cs := #[.int .u64 t229, .int .u64 t230, .int .u64 t231, .int .u64 0, .int .i64 0]) ?_ 3 _ rfl; (with_reducible repeat (first | refine blk_drewN ?_ _ | refine blk_drew ?_ | refine blk_alloc ?_ _)); refine blk_put (cs := #[.int .u64 t229, .int .u64 t230, .int .u64 0, .int .u64 0, .int .i64 0]) ?_ 2 _ rfl; (with_reducible repeat (first | refine blk_drewN ?_ _ | refine blk_drew ?_ | refine blk_alloc ?_ _)); refine blk_put (cs := #[.int .u64 t229, .int .u64 0, .int .u64 0, .int .u64 0, .int .i64 0]) ?_ 1 _ rfl; (with_reducible repeat (first | refine blk_drewN ?_ _ | refine blk_drew ?_ | refine blk_alloc ?_ _)); refine blk_put (cs := #[.int .u64 0, .int .u64 0, .int .u64 0, .int .u64 0, .int .i64 0]) ?_ 0 _ rfl; (with_reducible repeat (first | refine blk_drewN ?_ _ | refine blk_drew ?_ | refine blk_alloc ?_ _)); exact BK235.out) hb); have n3_ := Aside0.mk (below_step (by repeat (first | (with_reducible first | exact HB.out | apply below_alloc | apply pw_below_drewN | apply below_drew1 | refine below_set ?_ GE225.out | refine below_set ?_ GE226.out | refine below_set ?_ GE235.out) | exact HB.out)) hb); clear BK225; clear BK226; clear BK235; clear HB; have BK225 := n0_; have BK226 := n1_; have BK235 := n2_; have HB := n3_; clear n0_ n1_ n2_ n3_; (try clear hb); (try clear hb2); (try clear hk); (try clear hi)) | ((with_reducible refine gate_dst (N := 9) rfl ?_); refine box_event ?hg (N := 9) ?hd (cs := #[.string (⟨#[]⟩ : ByteArray), .string (⟨#[]⟩ : ByteArray)]) (t := 23) ?hr ?_; (case hd => rfl); (case hg => rfl); (case hr => first | (go_simp; done) | (go_simp; rfl)); intro gb239 hg w115 hbox hb; have n0_ := Aside0.mk (blk_below (g := gb225) (o := .cells #[.string t227, .string t228] 23 (0, 0)) (by (with_reducible repeat (first | refine blk_drewN ?_ _ | refine blk_drew ?_ | refine blk_alloc ?_ _)); exact BK225.out) hb); have n1_ := Aside0.mk (blk_below (g := gb226) (o := .cells #[.int .u64 a1_0, .int .u64 a1_1, .int .u64 a1_2, .int .u64 a1_3, .int .i64 a1_4] 26 (0, 0)) (by (with_reducible repeat (first | refine blk_drewN ?_ _ | refine blk_drew ?_ | refine blk_alloc ?_ _)); exact BK226.out) hb); have n2_ := Aside0.mk (blk_below (g := gb235) (o := .cells #[.int .u64 t229, .int .u64 t230, .int .u64 t231, .int .u64 t232, .int .i64 t233] 26 (0, 0)) (by (with_reducible repeat (first | refine blk_drewN ?_ _ | refine blk_drew ?_ | refine blk_alloc ?_ _)); exact BK235.out) hb); have n3_ := Aside0.mk (below_step (by repeat (first | (with_reducible first | exact HB.out | apply below_alloc | apply pw_below_drewN | apply below_drew1 | refine below_set ?_ GE225.out | refine below_set ?_ GE226.out | refine below_set ?_ GE235.out) | exact HB.out)) hb); have n4_ := Aside0.mk (hbox); have n5_ := Aside0.mk ((by rw [hg]; exact (below_size (by repeat (first | (with_reducible first | exact HB.out | apply below_alloc | apply pw_below_drewN | apply below_drew1 | refine below_set ?_ GE225.out | refine below_set ?_ GE226.out | refine below_set ?_ GE235.out) | exact HB.out))) : w.heap.size ≤ gb239)); have n6_ := Aside0.mk ((by rw [hg]; exact (below_size (by repeat (first | (with_reducible first | exact HB.out | apply below_alloc | apply pw_below_drewN | apply below_drew1 | refine below_set ?_ GE225.out | refine below_set ?_ GE226.out | refine below_set ?_ GE235.out) | exact HB.out))) : w.heap.size ≤ gb239)); have n7_ := Aside0.mk ((by rw [hg]; exact Nat.ne_of_lt (blk_lt (g := gb225) (o := .cells #[.string t227, .string t228] 23 (0, 0)) (by (with_reducible repeat (first | refine blk_drewN ?_ _ | refine blk_drew ?_ | refine blk_alloc ?_ _)); exact BK225.out)) : gb225 ≠ gb239)); have n8_ := Aside0.mk ((by rw [hg]; exact Nat.ne_of_gt (blk_lt (g := gb225) (o := .cells #[.string t227, .string t228] 23 (0, 0)) (by (with_reducible repeat (first | refine blk_drewN ?_ _ | refine blk_drew ?_ | refine blk_alloc ?_ _)); exact BK225.out)) : gb239 ≠ gb225)); have n9_ := Aside0.mk ((by rw [hg]; exact Nat.ne_of_lt (blk_lt (g := gb226) (o := .cells #[.int .u64 a1_0, .int .u64 a1_1, .int .u64 a1_2, .int .u64 a1_3, .int .i64 a1_4] 26 (0, 0)) (by (with_reducible repeat (first | refine blk_drewN ?_ _ | refine blk_drew ?_ | refine blk_alloc ?_ _)); exact BK226.out)) : gb226 ≠ gb239)); have n10_ := Aside0.mk ((by rw [hg]; exact Nat.ne_of_gt (blk_lt (g := gb226) (o := .cells #[.int .u64 a1_0, .int .u64 a1_1, .int .u64 a1_2, .int .u64 a1_3, .int .i64 a1_4] 26 (0, 0)) (by (with_reducible repeat (first | refine blk_drewN ?_ _ | refine blk_drew ?_ | refine blk_alloc ?_ _)); exact BK226.out)) : gb239 ≠ gb226)); have n11_ := Aside0.mk ((by rw [hg]; exact Nat.ne_of_lt (blk_lt (g := gb235) (o := .cells #[.int .u64 t229, .int .u64 t230, .int .u64 t231, .int .u64 t232, .int .i64 t233] 26 (0, 0)) (by (with_reducible repeat (first | refine blk_drewN ?_ _ | refine blk_drew ?_ | refine blk_alloc ?_ _)); exact BK235.out)) : gb235 ≠ gb239)); have n12_ := Aside0.mk ((by rw [hg]; exact Nat.ne_of_gt (blk_lt (g := gb235) (o := .cells #[.int .u64 t229, .int .u64 t230, .int .u64 t231, .int .u64 t232, .int .i64 t233] 26 (0, 0)) (by (with_reducible repeat (first | refine blk_drewN ?_ _ | refine blk_drew ?_ | refine blk_alloc ?_ _)); exact BK235.out)) : gb239 ≠ gb235)); clear BK225; clear BK226; clear BK235; clear HB; have BK225 := n0_; have BK226 := n1_; have BK235 := n2_; have HB := n3_; have BK239 := n4_; have GW239 := n5_; have GE239 := n6_; have NB225_239 := n7_; have NB239_225 := n8_; have NB226_239 := n9_; have NB239_226 := n10_; have NB235_239 := n11_; have NB239_235 := n12_; clear n0_ n1_ n2_ n3_ n4_ n5_ n6_ n7_ n8_ n9_ n10_ n11_ n12_; clear hb hbox hg; have hnb116 := NB239_225.out; have hnc116 := NB225_239.out; have hnb117 := NB239_226.out; have hnc117 := NB226_239.out; have hnb118 := NB239_235.out; have hnc118 := NB235_239.out; have hcz119_0 : w115.cell? ⟨gb239, 0, none⟩ = some (.string (⟨#[]⟩ : ByteArray)) := (blk_cell BK239.out 0).trans rfl; have hcz119_1 : w115.cell? ⟨gb239, 1, none⟩ = some (.string (⟨#[]⟩ : ByteArray)) := (blk_cell BK239.out 1).trans rfl; have hfz119_0 := blk_frozen BK239.out 0; have hfz119_1 := blk_frozen BK239.out 1; have hcz120_0 : w115.cell? ⟨gb225, 0, none⟩ = some (.string t227) := (blk_cell BK225.out 0).trans rfl; have hcz120_1 : w115.cell? ⟨gb225, 1, none⟩ = some (.string t228) := (blk_cell BK225.out 1).trans rfl; have hfz120_0 := blk_frozen BK225.out 0; have hfz120_1 := blk_frozen BK225.out 1) | (go_at_call 16; (with_reducible refine (tattlelaw16_awake.calls k  t240 _ A100.out).mono ?_); rintro e w121 ⟨rfl, hb⟩; have n0_ := Aside0.mk (blk_below (g := gb225) (o := .cells #[.string t227, .string t228] 23 (0, 0)) (by (with_reducible repeat (first | refine blk_drewN ?_ _ | refine blk_drew ?_ | refine blk_alloc ?_ _)); refine blk_far ?_ NB225_239.out _; (with_reducible repeat (first | refine blk_drewN ?_ _ | refine blk_drew ?_ | refine blk_alloc ?_ _)); refine blk_far ?_ NB225_239.out _; (with_reducible repeat (first | refine blk_drewN ?_ _ | refine blk_drew ?_ | refine blk_alloc ?_ _)); exact BK225.out) hb); have n1_ := Aside0.mk (blk_below (g := gb226) (o := .cells #[.int .u64 a1_0, .int .u64 a1_1, .int .u64 a1_2, .int .u64 a1_3, .int .i64 a1_4] 26 (0, 0)) (by (with_reducible repeat (first | refine blk_drewN ?_ _ | refine blk_drew ?_ | refine blk_alloc ?_ _)); refine blk_far ?_ NB226_239.out _; (with_reducible repeat (first | refine blk_drewN ?_ _ | refine blk_drew ?_ | refine blk_alloc ?_ _)); refine blk_far ?_ NB226_239.out _; (with_reducible repeat (first | refine blk_drewN ?_ _ | refine blk_drew ?_ | refine blk_alloc ?_ _)); exact BK226.out) hb); have n2_ := Aside0.mk (blk_below (g := gb235) (o := .cells #[.int .u64 t229, .int .u64 t230, .int .u64 t231, .int .u64 t232, .int .i64 t233] 26 (0, 0)) (by (with_reducible repeat (first | refine blk_drewN ?_ _ | refine blk_drew ?_ | refine blk_alloc ?_ _)); refine blk_far ?_ NB235_239.out _; (with_reducible repeat (first | refine blk_drewN ?_ _ | refine blk_drew ?_ | refine blk_alloc ?_ _)); refine blk_far ?_ NB235_239.out _; (with_reducible repeat (first | refine blk_drewN ?_ _ | refine blk_drew ?_ | refine blk_alloc ?_ _)); exact BK235.out) hb); have n3_ := Aside0.mk (blk_below (g := gb239) (o := .cells #[.string t236, .string t237] 23 (0, 0)) (by (with_reducible repeat (first | refine blk_drewN ?_ _ | refine blk_drew ?_ | refine blk_alloc ?_ _)); refine blk_put (cs := #[.string t236, .string (⟨#[]⟩ : ByteArray)]) ?_ 1 _ rfl; (with_reducible repeat (first | refine blk_drewN ?_ _ | refine blk_drew ?_ | refine blk_alloc ?_ _)); refine blk_put (cs := #[.string (⟨#[]⟩ : ByteArray), .string (⟨#[]⟩ : ByteArray)]) ?_ 0 _ rfl; (with_reducible repeat (first | refine blk_drewN ?_ _ | refine blk_drew ?_ | refine blk_alloc ?_ _)); exact BK239.out) hb); have n4_ := Aside0.mk (below_step (by repeat (first | (with_reducible first | exact HB.out | apply below_alloc | apply pw_below_drewN | apply below_drew1 | refine below_set ?_ GE225.out | refine below_set ?_ GE226.out | refine below_set ?_ GE235.out | refine below_set ?_ GE239.out) | exact HB.out)) hb); clear BK225; clear BK226; clear BK235; clear BK239; clear HB; have BK225 := n0_; have BK226 := n1_; have BK235 := n2_; have BK239 := n3_; have HB := n4_; clear n0_ n1_ n2_ n3_ n4_; (try clear hb); (try clear hb2); (try clear hk); (try clear hi)))
      go_ret
      exact ⟨by first | rfl | (simp [errW_none, errW_some] <;> rfl) | (simp [*, errW_none, errW_some] <;> rfl), by repeat (first | (with_reducible first | exact HB.out | apply below_alloc | apply pw_below_drewN | apply below_drew1 | refine below_set ?_ GE225.out | refine below_set ?_ GE226.out | refine below_set ?_ GE235.out | refine below_set ?_ GE239.out) | exact HB.out)⟩
    · rw [if_neg c99] at H
      exact absurd H (by simp)

end Go.Proofs.Ytldeanlnfhgjfaa.PDiskTurnsAbout
