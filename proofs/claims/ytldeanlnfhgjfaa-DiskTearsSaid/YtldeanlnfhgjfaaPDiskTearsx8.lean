-- Written by a program of this session (see NOTES.md) out of the print of Lean's own loaded functions; Lean checks it.
import Derived.Test.YtldeanlnfhgjfaaPDiskTearsx0
import Derived.Test.YtldeanlnfhgjfaaPDiskTearsx1
import Derived.Test.YtldeanlnfhgjfaaPDiskTearsx2
import Derived.Test.YtldeanlnfhgjfaaPDiskTearsx3
import Derived.Test.YtldeanlnfhgjfaaPDiskTearsx6
import Derived.Test.YtldeanlnfhgjfaaPDiskTearsx7
namespace Go.Proofs.Ytldeanlnfhgjfaa.PDiskTears
open Go.RowKit Go.Proofs.YtldeanlnfhgjfaaW.PrintWords Go.Proofs.YtldeanlnfhgjfaaW.PrintLast Go.Proofs.YtldeanlnfhgjfaaW.PrintMore
attribute [local go_sem] max2_int min2_int max_two min_two max_three min_three max_four min_four   -- for this text's walks alone
set_option linter.unusedVariables false
set_option linter.unusedSimpArgs false

attribute [local go_sem high] eqA23 eqA26
/-! ### tattlelaw16_DiskTears: function 5 -/
mutual
def tattlelaw16_DiskTears.j0 : Nat → Int → Int → Int → Bool → ByteArray → ByteArray → Int → Int → Int → Int → Int → Int → Int → Int → Int → Int → ByteArray → ByteArray → ByteArray → ByteArray → Option (Bool)
  | 0, _, _, _, _, _, _, _, _, _, _, _, _, _, _, _, _, _, _, _, _ => none
  | k + 1, x8, x10, x12, x44, x226000, x226001, x227000, x227001, x227002, x227003, x227004, x236000, x236001, x236002, x236003, x236004, x240000, x240001, x244000, x244001 => if x44 = true then (if x10 = x12 then (if (x240000.toList == x226000.toList && (x240001.toList == x226001.toList)) = true then (if (x244000.toList == x226000.toList && (x244001.toList == x226001.toList)) = true then ((tattlelaw16_awake.f k).bind fun t244 => (some t244)) else (none)) else (none)) else (none)) else ((disk_Read.f k x240000 x240001).bind fun bt245 => ((disk_Read.f k x244000 x244001).bind fun bt252 => (if (!(bt252.1 == (IntKind.u64.wrap (x236000 + 1))) || (!(bt252.2.1 == x227001) || (!(bt252.2.2.1 == x227002) || (!(bt252.2.2.2.1 == x227003) || (!(bt252.2.2.2.2.1 == x227004)))))) = true then (tattlelaw16_DiskTears.j1 k x8 bt245.2.2.2.2.2 true x236000 x236001 x236002 x236003 x236004 x240000 x240001 x244000 x244001 bt245.1 bt245.2.1 bt245.2.2.1 bt245.2.2.2.1 bt245.2.2.2.2.1 (IntKind.u64.wrap (x236000 + 1)) x227001 x227002 x227003 x227004) else (tattlelaw16_DiskTears.j1 k x8 bt245.2.2.2.2.2 (bt252.2.2.2.2.2 != 0) x236000 x236001 x236002 x236003 x236004 x240000 x240001 x244000 x244001 bt245.1 bt245.2.1 bt245.2.2.1 bt245.2.2.2.1 bt245.2.2.2.2.1 (IntKind.u64.wrap (x236000 + 1)) x227001 x227002 x227003 x227004))))
def tattlelaw16_DiskTears.j1 : Nat → Int → Int → Bool → Int → Int → Int → Int → Int → ByteArray → ByteArray → ByteArray → ByteArray → Int → Int → Int → Int → Int → Int → Int → Int → Int → Int → Option (Bool)
  | 0, _, _, _, _, _, _, _, _, _, _, _, _, _, _, _, _, _, _, _, _, _, _ => none
  | k + 1, x8, x14, x82, x236000, x236001, x236002, x236003, x236004, x240000, x240001, x244000, x244001, x252000, x252001, x252002, x252003, x252004, x260000, x260001, x260002, x260003, x260004 => if x82 = true then (none) else (if (x240000.toList == x244000.toList && (x240001.toList == x244001.toList)) = true then (if (x252000 == x260000 && (x252001 == x260001 && (x252002 == x260002 && (x252003 == x260003 && (x252004 == x260004))))) = true then (if x14 = 0 then ((tattlelaw16_awake.f k).bind fun t260 => (some t260)) else (none)) else (none)) else (if (x252000 == x236000 && (x252001 == x236001 && (x252002 == x236002 && (x252003 == x236003 && (x252004 == x236004))))) = true then (if x14 = x8 then ((tattlelaw16_awake.f k).bind fun t261 => (some t261)) else (none)) else (none)))
end
def tattlelaw16_DiskTears.f (k : Nat) (a0_0 : ByteArray) (a0_1 : ByteArray) (a1_0 : Int) (a1_1 : Int) (a1_2 : Int) (a1_3 : Int) (a1_4 : Int) (a2 : Int) : Option (Bool) := (tattlelaw16_Few.f a0_0 a0_1).bind fun bt227 => ((disk_Read.f k bt227.1 bt227.2).bind fun bt229 => ((disk_Tear.f k bt227.1 bt227.2 a1_0 a1_1 a1_2 a1_3 a1_4 (wrap64 (a2))).bind fun bt236 => ((disk_Write.f k bt227.1 bt227.2 a1_0 a1_1 a1_2 a1_3 a1_4).bind fun bt240 => (if bt236.2.2 = 0 then (tattlelaw16_DiskTears.j0 k bt229.2.2.2.2.2 bt236.2.2 bt240.2.2 (bt240.2.2 != 0) bt227.1 bt227.2 a1_0 a1_1 a1_2 a1_3 a1_4 bt229.1 bt229.2.1 bt229.2.2.1 bt229.2.2.2.1 bt229.2.2.2.2.1 bt236.1 bt236.2.1 bt240.1 bt240.2.1) else (tattlelaw16_DiskTears.j0 k bt229.2.2.2.2.2 bt236.2.2 bt240.2.2 true bt227.1 bt227.2 a1_0 a1_1 a1_2 a1_3 a1_4 bt229.1 bt229.2.1 bt229.2.2.1 bt229.2.2.2.1 bt229.2.2.2.2.1 bt236.1 bt236.2.1 bt240.1 bt240.2.1)))))
theorem tattlelaw16_DiskTears.mono_l : ∀ k, (∀ y0 y1 y2 y3 y4 y5 y6 y7 y8 y9 y10 y11 y12 y13 y14 y15 y16 y17 y18 y19, LeO (tattlelaw16_DiskTears.j0 k y0 y1 y2 y3 y4 y5 y6 y7 y8 y9 y10 y11 y12 y13 y14 y15 y16 y17 y18 y19) (tattlelaw16_DiskTears.j0 (k + 1) y0 y1 y2 y3 y4 y5 y6 y7 y8 y9 y10 y11 y12 y13 y14 y15 y16 y17 y18 y19)) ∧ (∀ y0 y1 y2 y3 y4 y5 y6 y7 y8 y9 y10 y11 y12 y13 y14 y15 y16 y17 y18 y19 y20 y21, LeO (tattlelaw16_DiskTears.j1 k y0 y1 y2 y3 y4 y5 y6 y7 y8 y9 y10 y11 y12 y13 y14 y15 y16 y17 y18 y19 y20 y21) (tattlelaw16_DiskTears.j1 (k + 1) y0 y1 y2 y3 y4 y5 y6 y7 y8 y9 y10 y11 y12 y13 y14 y15 y16 y17 y18 y19 y20 y21))
  | 0 => ⟨fun _ _ _ _ _ _ _ _ _ _ _ _ _ _ _ _ _ _ _ _ r h => by simp [tattlelaw16_DiskTears.j0] at h, fun _ _ _ _ _ _ _ _ _ _ _ _ _ _ _ _ _ _ _ _ _ _ r h => by simp [tattlelaw16_DiskTears.j1] at h⟩
  | k + 1 => by
    obtain ⟨ih0, ih1⟩ := tattlelaw16_DiskTears.mono_l k
    refine ⟨?_, ?_⟩
    · intro y0 y1 y2 y3 y4 y5 y6 y7 y8 y9 y10 y11 y12 y13 y14 y15 y16 y17 y18 y19
      unfold tattlelaw16_DiskTears.j0
      repeat' first
      | (with_reducible exact ih0 _ _ _ _ _ _ _ _ _ _ _ _ _ _ _ _ _ _ _ _)
      | (with_reducible exact ih1 _ _ _ _ _ _ _ _ _ _ _ _ _ _ _ _ _ _ _ _ _ _)
      | (with_reducible exact disk_Read.mono _ _ _)
      | (with_reducible exact disk_Tear.mono _ _ _ _ _ _ _ _ _)
      | (with_reducible exact disk_Write.mono _ _ _ _ _ _ _ _)
      | (with_reducible exact tattlelaw16_awake.mono _)
      | (with_reducible exact LeO.refl _)
      | (with_reducible exact LeO.none _)
      | (with_reducible refine LeO.ite ?_ ?_)
      | (with_reducible refine LeO.bind ?_ (fun _ => ?_))
      | exact ih0 _ _ _ _ _ _ _ _ _ _ _ _ _ _ _ _ _ _ _ _
      | exact ih1 _ _ _ _ _ _ _ _ _ _ _ _ _ _ _ _ _ _ _ _ _ _
      | exact disk_Read.mono _ _ _
      | exact disk_Tear.mono _ _ _ _ _ _ _ _ _
      | exact disk_Write.mono _ _ _ _ _ _ _ _
      | exact tattlelaw16_awake.mono _
      | exact LeO.none _
      | refine LeO.ite ?_ ?_
      | refine LeO.bind ?_ (fun _ => ?_)
    · intro y0 y1 y2 y3 y4 y5 y6 y7 y8 y9 y10 y11 y12 y13 y14 y15 y16 y17 y18 y19 y20 y21
      unfold tattlelaw16_DiskTears.j1
      repeat' first
      | (with_reducible exact ih0 _ _ _ _ _ _ _ _ _ _ _ _ _ _ _ _ _ _ _ _)
      | (with_reducible exact ih1 _ _ _ _ _ _ _ _ _ _ _ _ _ _ _ _ _ _ _ _ _ _)
      | (with_reducible exact disk_Read.mono _ _ _)
      | (with_reducible exact disk_Tear.mono _ _ _ _ _ _ _ _ _)
      | (with_reducible exact disk_Write.mono _ _ _ _ _ _ _ _)
      | (with_reducible exact tattlelaw16_awake.mono _)
      | (with_reducible exact LeO.refl _)
      | (with_reducible exact LeO.none _)
      | (with_reducible refine LeO.ite ?_ ?_)
      | (with_reducible refine LeO.bind ?_ (fun _ => ?_))
      | exact ih0 _ _ _ _ _ _ _ _ _ _ _ _ _ _ _ _ _ _ _ _
      | exact ih1 _ _ _ _ _ _ _ _ _ _ _ _ _ _ _ _ _ _ _ _ _ _
      | exact disk_Read.mono _ _ _
      | exact disk_Tear.mono _ _ _ _ _ _ _ _ _
      | exact disk_Write.mono _ _ _ _ _ _ _ _
      | exact tattlelaw16_awake.mono _
      | exact LeO.none _
      | refine LeO.ite ?_ ?_
      | refine LeO.bind ?_ (fun _ => ?_)
theorem tattlelaw16_DiskTears.mono : ∀ a0 a1 a2 a3 a4 a5 a6 a7 k, LeO (tattlelaw16_DiskTears.f k a0 a1 a2 a3 a4 a5 a6 a7) (tattlelaw16_DiskTears.f (k + 1) a0 a1 a2 a3 a4 a5 a6 a7) := by
  intro a0 a1 a2 a3 a4 a5 a6 a7 k
  obtain ⟨ih0, ih1⟩ := tattlelaw16_DiskTears.mono_l k
  unfold tattlelaw16_DiskTears.f
  repeat' first
      | (with_reducible exact ih0 _ _ _ _ _ _ _ _ _ _ _ _ _ _ _ _ _ _ _ _)
      | (with_reducible exact ih1 _ _ _ _ _ _ _ _ _ _ _ _ _ _ _ _ _ _ _ _ _ _)
      | (with_reducible exact disk_Read.mono _ _ _)
      | (with_reducible exact disk_Tear.mono _ _ _ _ _ _ _ _ _)
      | (with_reducible exact disk_Write.mono _ _ _ _ _ _ _ _)
      | (with_reducible exact tattlelaw16_awake.mono _)
      | (with_reducible exact LeO.refl _)
      | (with_reducible exact LeO.none _)
      | (with_reducible refine LeO.ite ?_ ?_)
      | (with_reducible refine LeO.bind ?_ (fun _ => ?_))
      | exact ih0 _ _ _ _ _ _ _ _ _ _ _ _ _ _ _ _ _ _ _ _
      | exact ih1 _ _ _ _ _ _ _ _ _ _ _ _ _ _ _ _ _ _ _ _ _ _
      | exact disk_Read.mono _ _ _
      | exact disk_Tear.mono _ _ _ _ _ _ _ _ _
      | exact disk_Write.mono _ _ _ _ _ _ _ _
      | exact tattlelaw16_awake.mono _
      | exact LeO.none _
      | refine LeO.ite ?_ ?_
      | refine LeO.bind ?_ (fun _ => ?_)
set_option maxHeartbeats 8000000 in
set_option maxRecDepth 100000 in
theorem tattlelaw16_DiskTears.calls (k : Nat) (a0_0 : ByteArray) (a0_1 : ByteArray) (a1_0 : Int) (a1_1 : Int) (a1_2 : Int) (a1_3 : Int) (a1_4 : Int) (a2 : Int) (r : Bool) (w : World) (h : tattlelaw16_DiskTears.f k a0_0 a0_1 a1_0 a1_1 a1_2 a1_3 a1_4 a2 = some r) :
    Calls Try.prog 5 #[.agg #[.string a0_0, .string a0_1], .agg #[.int .u64 a1_0, .int .u64 a1_1, .int .u64 a1_2, .int .u64 a1_3, .int .i64 a1_4], .int .u8 a2] w fun e w' => e = .returned (.bool r) ∧ Below w.heap.size w w' := by
  have hu23 := Try.underlying23
  have hu26 := Try.underlying26
  have HB := Aside0.mk (Below.refl w.heap.size w)
  have H : ((tattlelaw16_Few.f a0_0 a0_1).bind fun bt227 => ((disk_Read.f k bt227.1 bt227.2).bind fun bt229 => ((disk_Tear.f k bt227.1 bt227.2 a1_0 a1_1 a1_2 a1_3 a1_4 (wrap64 (a2))).bind fun bt236 => ((disk_Write.f k bt227.1 bt227.2 a1_0 a1_1 a1_2 a1_3 a1_4).bind fun bt240 => (if bt236.2.2 = 0 then (tattlelaw16_DiskTears.j0 k bt229.2.2.2.2.2 bt236.2.2 bt240.2.2 (bt240.2.2 != 0) bt227.1 bt227.2 a1_0 a1_1 a1_2 a1_3 a1_4 bt229.1 bt229.2.1 bt229.2.2.1 bt229.2.2.2.1 bt229.2.2.2.2.1 bt236.1 bt236.2.1 bt240.1 bt240.2.1) else (tattlelaw16_DiskTears.j0 k bt229.2.2.2.2.2 bt236.2.2 bt240.2.2 true bt227.1 bt227.2 a1_0 a1_1 a1_2 a1_3 a1_4 bt229.1 bt229.2.1 bt229.2.2.1 bt229.2.2.2.1 bt229.2.2.2.2.1 bt236.1 bt236.2.1 bt240.1 bt240.2.1)))))) = some r := h
  clear h
  replace H := Option.bind_eq_some_iff.mp H
  obtain ⟨⟨t227, t228⟩, A40, H⟩ := H
  replace H : ((disk_Read.f k t227 t228).bind fun bt229 => ((disk_Tear.f k t227 t228 a1_0 a1_1 a1_2 a1_3 a1_4 (wrap64 (a2))).bind fun bt236 => ((disk_Write.f k t227 t228 a1_0 a1_1 a1_2 a1_3 a1_4).bind fun bt240 => (if bt236.2.2 = 0 then (tattlelaw16_DiskTears.j0 k bt229.2.2.2.2.2 bt236.2.2 bt240.2.2 (bt240.2.2 != 0) t227 t228 a1_0 a1_1 a1_2 a1_3 a1_4 bt229.1 bt229.2.1 bt229.2.2.1 bt229.2.2.2.1 bt229.2.2.2.2.1 bt236.1 bt236.2.1 bt240.1 bt240.2.1) else (tattlelaw16_DiskTears.j0 k bt229.2.2.2.2.2 bt236.2.2 bt240.2.2 true t227 t228 a1_0 a1_1 a1_2 a1_3 a1_4 bt229.1 bt229.2.1 bt229.2.2.1 bt229.2.2.2.1 bt229.2.2.2.2.1 bt236.1 bt236.2.1 bt240.1 bt240.2.1))))) = some r := H
  have A4 := Aside0.mk A40
  clear A40
  replace H := Option.bind_eq_some_iff.mp H
  obtain ⟨⟨t229, t230, t231, t232, t233, t234⟩, A50, H⟩ := H
  replace H : ((disk_Tear.f k t227 t228 a1_0 a1_1 a1_2 a1_3 a1_4 (wrap64 (a2))).bind fun bt236 => ((disk_Write.f k t227 t228 a1_0 a1_1 a1_2 a1_3 a1_4).bind fun bt240 => (if bt236.2.2 = 0 then (tattlelaw16_DiskTears.j0 k t234 bt236.2.2 bt240.2.2 (bt240.2.2 != 0) t227 t228 a1_0 a1_1 a1_2 a1_3 a1_4 t229 t230 t231 t232 t233 bt236.1 bt236.2.1 bt240.1 bt240.2.1) else (tattlelaw16_DiskTears.j0 k t234 bt236.2.2 bt240.2.2 true t227 t228 a1_0 a1_1 a1_2 a1_3 a1_4 t229 t230 t231 t232 t233 bt236.1 bt236.2.1 bt240.1 bt240.2.1)))) = some r := H
  have A5 := Aside0.mk A50
  clear A50
  replace H := Option.bind_eq_some_iff.mp H
  obtain ⟨⟨t236, t237, t238⟩, A60, H⟩ := H
  replace H : ((disk_Write.f k t227 t228 a1_0 a1_1 a1_2 a1_3 a1_4).bind fun bt240 => (if t238 = 0 then (tattlelaw16_DiskTears.j0 k t234 t238 bt240.2.2 (bt240.2.2 != 0) t227 t228 a1_0 a1_1 a1_2 a1_3 a1_4 t229 t230 t231 t232 t233 t236 t237 bt240.1 bt240.2.1) else (tattlelaw16_DiskTears.j0 k t234 t238 bt240.2.2 true t227 t228 a1_0 a1_1 a1_2 a1_3 a1_4 t229 t230 t231 t232 t233 t236 t237 bt240.1 bt240.2.1))) = some r := H
  have A6 := Aside0.mk A60
  clear A60
  replace H := Option.bind_eq_some_iff.mp H
  obtain ⟨⟨t240, t241, t242⟩, A70, H⟩ := H
  replace H : (if t238 = 0 then (tattlelaw16_DiskTears.j0 k t234 t238 t242 (t242 != 0) t227 t228 a1_0 a1_1 a1_2 a1_3 a1_4 t229 t230 t231 t232 t233 t236 t237 t240 t241) else (tattlelaw16_DiskTears.j0 k t234 t238 t242 true t227 t228 a1_0 a1_1 a1_2 a1_3 a1_4 t229 t230 t231 t232 t233 t236 t237 t240 t241)) = some r := H
  have A7 := Aside0.mk A70
  clear A70
  have HC8 := Aside0.mk H
  clear H
  go_enter Try.func5, Try.ntmps5
  go_upto_region 5 with (first | ((with_reducible refine gate_dst (N := 3) rfl ?_); refine box_event ?hg (N := 3) ?hd (cs := #[.string a0_0, .string a0_1]) (t := 23) ?hr ?_; (case hd => rfl); (case hg => rfl); (case hr => first | (go_simp; done) | (go_simp; rfl)); intro gb225 hg w9 hbox hb; have n0_ := Aside0.mk (below_step (by repeat (first | (with_reducible first | exact HB.out | apply below_alloc | apply pw_below_drewN | apply below_drew1) | exact HB.out)) hb); have n1_ := Aside0.mk (hbox); have n2_ := Aside0.mk ((by rw [hg]; exact (below_size (by repeat (first | (with_reducible first | exact HB.out | apply below_alloc | apply pw_below_drewN | apply below_drew1) | exact HB.out))) : w.heap.size ≤ gb225)); have n3_ := Aside0.mk ((by rw [hg]; exact (below_size (by repeat (first | (with_reducible first | exact HB.out | apply below_alloc | apply pw_below_drewN | apply below_drew1) | exact HB.out))) : w.heap.size ≤ gb225)); clear HB; have HB := n0_; have BK225 := n1_; have GW225 := n2_; have GE225 := n3_; clear n0_ n1_ n2_ n3_; clear hb hbox hg) | ((with_reducible refine gate_dst (N := 4) rfl ?_); refine box_event ?hg (N := 4) ?hd (cs := #[.int .u64 a1_0, .int .u64 a1_1, .int .u64 a1_2, .int .u64 a1_3, .int .i64 a1_4]) (t := 26) ?hr ?_; (case hd => rfl); (case hg => rfl); (case hr => first | (go_simp; done) | (go_simp; rfl)); intro gb226 hg w10 hbox hb; have n0_ := Aside0.mk (blk_below (g := gb225) (o := .cells #[.string a0_0, .string a0_1] 23 (0, 0)) (by (with_reducible repeat (first | refine blk_drewN ?_ _ | refine blk_drew ?_ | refine blk_alloc ?_ _)); exact BK225.out) hb); have n1_ := Aside0.mk (below_step (by repeat (first | (with_reducible first | exact HB.out | apply below_alloc | apply pw_below_drewN | apply below_drew1 | refine below_set ?_ GE225.out) | exact HB.out)) hb); have n2_ := Aside0.mk (hbox); have n3_ := Aside0.mk ((by rw [hg]; exact (below_size (by repeat (first | (with_reducible first | exact HB.out | apply below_alloc | apply pw_below_drewN | apply below_drew1 | refine below_set ?_ GE225.out) | exact HB.out))) : w.heap.size ≤ gb226)); have n4_ := Aside0.mk ((by rw [hg]; exact (below_size (by repeat (first | (with_reducible first | exact HB.out | apply below_alloc | apply pw_below_drewN | apply below_drew1 | refine below_set ?_ GE225.out) | exact HB.out))) : w.heap.size ≤ gb226)); have n5_ := Aside0.mk ((by rw [hg]; exact Nat.ne_of_lt (blk_lt (g := gb225) (o := .cells #[.string a0_0, .string a0_1] 23 (0, 0)) (by (with_reducible repeat (first | refine blk_drewN ?_ _ | refine blk_drew ?_ | refine blk_alloc ?_ _)); exact BK225.out)) : gb225 ≠ gb226)); have n6_ := Aside0.mk ((by rw [hg]; exact Nat.ne_of_gt (blk_lt (g := gb225) (o := .cells #[.string a0_0, .string a0_1] 23 (0, 0)) (by (with_reducible repeat (first | refine blk_drewN ?_ _ | refine blk_drew ?_ | refine blk_alloc ?_ _)); exact BK225.out)) : gb226 ≠ gb225)); clear BK225; clear HB; have BK225 := n0_; have HB := n1_; have BK226 := n2_; have GW226 := n3_; have GE226 := n4_; have NB225_226 := n5_; have NB226_225 := n6_; clear n0_ n1_ n2_ n3_ n4_ n5_ n6_; clear hb hbox hg; have hnb11 := NB225_226.out; have hnc11 := NB226_225.out; have hcz12_0 : w10.cell? ⟨gb225, 0, none⟩ = some (.string a0_0) := (blk_cell BK225.out 0).trans rfl; have hcz12_1 : w10.cell? ⟨gb225, 1, none⟩ = some (.string a0_1) := (blk_cell BK225.out 1).trans rfl; have hfz12_0 := blk_frozen BK225.out 0; have hfz12_1 := blk_frozen BK225.out 1) | ((with_reducible refine gate_callee (f := 9) rfl ?_); refine goesL_ (some 19) rfl rfl Try.func9 (by kernel_rfl) rfl #[.agg #[.string a0_0, .string a0_1]] rfl (by (try simp only [List.map_toArray, List.map_cons, List.map_nil]); first | done | rfl | (simp only [List.length_drop, List.length_take]; rfl)) ?_; (with_reducible refine (tattlelaw16_Few.calls a0_0 a0_1 t227 t228 _ A4.out).mono ?_); rintro e w13 ⟨rfl, hb⟩; refine ⟨_, rfl, ?_⟩; have n0_ := Aside0.mk (blk_below (g := gb225) (o := .cells #[.string a0_0, .string a0_1] 23 (0, 0)) (by (with_reducible repeat (first | refine blk_drewN ?_ _ | refine blk_drew ?_ | refine blk_alloc ?_ _)); exact BK225.out) hb); have n1_ := Aside0.mk (blk_below (g := gb226) (o := .cells #[.int .u64 a1_0, .int .u64 a1_1, .int .u64 a1_2, .int .u64 a1_3, .int .i64 a1_4] 26 (0, 0)) (by (with_reducible repeat (first | refine blk_drewN ?_ _ | refine blk_drew ?_ | refine blk_alloc ?_ _)); exact BK226.out) hb); have n2_ := Aside0.mk (below_step (by repeat (first | (with_reducible first | exact HB.out | apply below_alloc | apply pw_below_drewN | apply below_drew1 | refine below_set ?_ GE225.out | refine below_set ?_ GE226.out) | exact HB.out)) hb); clear BK225; clear BK226; clear HB; have BK225 := n0_; have BK226 := n1_; have HB := n2_; clear n0_ n1_ n2_; (try clear hb); (try clear hb2); (try clear hk); (try clear hi); have hcz14_0 : w13.cell? ⟨gb225, 0, none⟩ = some (.string a0_0) := (blk_cell BK225.out 0).trans rfl; have hcz14_1 : w13.cell? ⟨gb225, 1, none⟩ = some (.string a0_1) := (blk_cell BK225.out 1).trans rfl; have hfz14_0 := blk_frozen BK225.out 0; have hfz14_1 := blk_frozen BK225.out 1) | ((with_reducible refine gate_callee (f := 12) rfl ?_); refine goesL_ (some 22) rfl rfl Try.func12 (by kernel_rfl) rfl #[.agg #[.string t227, .string t228]] rfl (by (try simp only [List.map_toArray, List.map_cons, List.map_nil]); first | done | rfl | (simp only [List.length_drop, List.length_take]; rfl)) ?_; (with_reducible refine (disk_Read.calls k t227 t228 t229 t230 t231 t232 t233 t234 _ A5.out).mono ?_); rintro e w15 ⟨rfl, hb⟩; refine ⟨_, rfl, ?_⟩; have n0_ := Aside0.mk (blk_below (g := gb225) (o := .cells #[.string t227, .string t228] 23 (0, 0)) (by (with_reducible repeat (first | refine blk_drewN ?_ _ | refine blk_drew ?_ | refine blk_alloc ?_ _)); refine blk_put (cs := #[.string t227, .string a0_1]) ?_ 1 _ rfl; (with_reducible repeat (first | refine blk_drewN ?_ _ | refine blk_drew ?_ | refine blk_alloc ?_ _)); refine blk_put (cs := #[.string a0_0, .string a0_1]) ?_ 0 _ rfl; (with_reducible repeat (first | refine blk_drewN ?_ _ | refine blk_drew ?_ | refine blk_alloc ?_ _)); exact BK225.out) hb); have n1_ := Aside0.mk (blk_below (g := gb226) (o := .cells #[.int .u64 a1_0, .int .u64 a1_1, .int .u64 a1_2, .int .u64 a1_3, .int .i64 a1_4] 26 (0, 0)) (by (with_reducible repeat (first | refine blk_drewN ?_ _ | refine blk_drew ?_ | refine blk_alloc ?_ _)); refine blk_far ?_ NB226_225.out _; (with_reducible repeat (first | refine blk_drewN ?_ _ | refine blk_drew ?_ | refine blk_alloc ?_ _)); refine blk_far ?_ NB226_225.out _; (with_reducible repeat (first | refine blk_drewN ?_ _ | refine blk_drew ?_ | refine blk_alloc ?_ _)); exact BK226.out) hb); have n2_ := Aside0.mk (below_step (by repeat (first | (with_reducible first | exact HB.out | apply below_alloc | apply pw_below_drewN | apply below_drew1 | refine below_set ?_ GE225.out | refine below_set ?_ GE226.out) | exact HB.out)) hb); clear BK225; clear BK226; clear HB; have BK225 := n0_; have BK226 := n1_; have HB := n2_; clear n0_ n1_ n2_; (try clear hb); (try clear hb2); (try clear hk); (try clear hi)) | ((with_reducible refine gate_dst (N := 7) rfl ?_); refine box_event ?hg (N := 7) ?hd (cs := #[.int .u64 0, .int .u64 0, .int .u64 0, .int .u64 0, .int .i64 0]) (t := 26) ?hr ?_; (case hd => rfl); (case hg => rfl); (case hr => first | (go_simp; done) | (go_simp; rfl)); intro gb235 hg w16 hbox hb; have n0_ := Aside0.mk (blk_below (g := gb225) (o := .cells #[.string t227, .string t228] 23 (0, 0)) (by (with_reducible repeat (first | refine blk_drewN ?_ _ | refine blk_drew ?_ | refine blk_alloc ?_ _)); exact BK225.out) hb); have n1_ := Aside0.mk (blk_below (g := gb226) (o := .cells #[.int .u64 a1_0, .int .u64 a1_1, .int .u64 a1_2, .int .u64 a1_3, .int .i64 a1_4] 26 (0, 0)) (by (with_reducible repeat (first | refine blk_drewN ?_ _ | refine blk_drew ?_ | refine blk_alloc ?_ _)); exact BK226.out) hb); have n2_ := Aside0.mk (below_step (by repeat (first | (with_reducible first | exact HB.out | apply below_alloc | apply pw_below_drewN | apply below_drew1 | refine below_set ?_ GE225.out | refine below_set ?_ GE226.out) | exact HB.out)) hb); have n3_ := Aside0.mk (hbox); have n4_ := Aside0.mk ((by rw [hg]; exact (below_size (by repeat (first | (with_reducible first | exact HB.out | apply below_alloc | apply pw_below_drewN | apply below_drew1 | refine below_set ?_ GE225.out | refine below_set ?_ GE226.out) | exact HB.out))) : w.heap.size ≤ gb235)); have n5_ := Aside0.mk ((by rw [hg]; exact (below_size (by repeat (first | (with_reducible first | exact HB.out | apply below_alloc | apply pw_below_drewN | apply below_drew1 | refine below_set ?_ GE225.out | refine below_set ?_ GE226.out) | exact HB.out))) : w.heap.size ≤ gb235)); have n6_ := Aside0.mk ((by rw [hg]; exact Nat.ne_of_lt (blk_lt (g := gb225) (o := .cells #[.string t227, .string t228] 23 (0, 0)) (by (with_reducible repeat (first | refine blk_drewN ?_ _ | refine blk_drew ?_ | refine blk_alloc ?_ _)); exact BK225.out)) : gb225 ≠ gb235)); have n7_ := Aside0.mk ((by rw [hg]; exact Nat.ne_of_gt (blk_lt (g := gb225) (o := .cells #[.string t227, .string t228] 23 (0, 0)) (by (with_reducible repeat (first | refine blk_drewN ?_ _ | refine blk_drew ?_ | refine blk_alloc ?_ _)); exact BK225.out)) : gb235 ≠ gb225)); have n8_ := Aside0.mk ((by rw [hg]; exact Nat.ne_of_lt (blk_lt (g := gb226) (o := .cells #[.int .u64 a1_0, .int .u64 a1_1, .int .u64 a1_2, .int .u64 a1_3, .int .i64 a1_4] 26 (0, 0)) (by (with_reducible repeat (first | refine blk_drewN ?_ _ | refine blk_drew ?_ | refine blk_alloc ?_ _)); exact BK226.out)) : gb226 ≠ gb235)); have n9_ := Aside0.mk ((by rw [hg]; exact Nat.ne_of_gt (blk_lt (g := gb226) (o := .cells #[.int .u64 a1_0, .int .u64 a1_1, .int .u64 a1_2, .int .u64 a1_3, .int .i64 a1_4] 26 (0, 0)) (by (with_reducible repeat (first | refine blk_drewN ?_ _ | refine blk_drew ?_ | refine blk_alloc ?_ _)); exact BK226.out)) : gb235 ≠ gb226)); clear BK225; clear BK226; clear HB; have BK225 := n0_; have BK226 := n1_; have HB := n2_; have BK235 := n3_; have GW235 := n4_; have GE235 := n5_; have NB225_235 := n6_; have NB235_225 := n7_; have NB226_235 := n8_; have NB235_226 := n9_; clear n0_ n1_ n2_ n3_ n4_ n5_ n6_ n7_ n8_ n9_; clear hb hbox hg; have hnb17 := NB235_225.out; have hnc17 := NB225_235.out; have hnb18 := NB235_226.out; have hnc18 := NB226_235.out; have hcz19_0 : w16.cell? ⟨gb235, 0, none⟩ = some (.int .u64 0) := (blk_cell BK235.out 0).trans rfl; have hcz19_1 : w16.cell? ⟨gb235, 1, none⟩ = some (.int .u64 0) := (blk_cell BK235.out 1).trans rfl; have hcz19_2 : w16.cell? ⟨gb235, 2, none⟩ = some (.int .u64 0) := (blk_cell BK235.out 2).trans rfl; have hcz19_3 : w16.cell? ⟨gb235, 3, none⟩ = some (.int .u64 0) := (blk_cell BK235.out 3).trans rfl; have hcz19_4 : w16.cell? ⟨gb235, 4, none⟩ = some (.int .i64 0) := (blk_cell BK235.out 4).trans rfl; have hfz19_0 := blk_frozen BK235.out 0; have hfz19_1 := blk_frozen BK235.out 1; have hfz19_2 := blk_frozen BK235.out 2; have hfz19_3 := blk_frozen BK235.out 3; have hfz19_4 := blk_frozen BK235.out 4; have hcz20_0 : w16.cell? ⟨gb225, 0, none⟩ = some (.string t227) := (blk_cell BK225.out 0).trans rfl; have hcz20_1 : w16.cell? ⟨gb225, 1, none⟩ = some (.string t228) := (blk_cell BK225.out 1).trans rfl; have hfz20_0 := blk_frozen BK225.out 0; have hfz20_1 := blk_frozen BK225.out 1; have hcz21_0 : w16.cell? ⟨gb226, 0, none⟩ = some (.int .u64 a1_0) := (blk_cell BK226.out 0).trans rfl; have hcz21_1 : w16.cell? ⟨gb226, 1, none⟩ = some (.int .u64 a1_1) := (blk_cell BK226.out 1).trans rfl; have hcz21_2 : w16.cell? ⟨gb226, 2, none⟩ = some (.int .u64 a1_2) := (blk_cell BK226.out 2).trans rfl; have hcz21_3 : w16.cell? ⟨gb226, 3, none⟩ = some (.int .u64 a1_3) := (blk_cell BK226.out 3).trans rfl; have hcz21_4 : w16.cell? ⟨gb226, 4, none⟩ = some (.int .i64 a1_4) := (blk_cell BK226.out 4).trans rfl; have hfz21_0 := blk_frozen BK226.out 0; have hfz21_1 := blk_frozen BK226.out 1; have hfz21_2 := blk_frozen BK226.out 2; have hfz21_3 := blk_frozen BK226.out 3; have hfz21_4 := blk_frozen BK226.out 4) | ((with_reducible refine gate_callee (f := 20) rfl ?_); refine goesL_ (some 30) rfl rfl Try.func20 (by kernel_rfl) rfl #[.agg #[.string t227, .string t228], .agg #[.int .u64 a1_0, .int .u64 a1_1, .int .u64 a1_2, .int .u64 a1_3, .int .i64 a1_4], .int .i64 (wrap64 (a2))] rfl (by (try simp only [List.map_toArray, List.map_cons, List.map_nil]); first | done | rfl | (simp only [List.length_drop, List.length_take]; rfl)) ?_; (with_reducible refine (disk_Tear.calls k t227 t228 a1_0 a1_1 a1_2 a1_3 a1_4 (wrap64 (a2)) t236 t237 t238 _ A6.out).mono ?_); rintro e w22 ⟨rfl, hb⟩; refine ⟨_, rfl, ?_⟩; have n0_ := Aside0.mk (blk_below (g := gb225) (o := .cells #[.string t227, .string t228] 23 (0, 0)) (by (with_reducible repeat (first | refine blk_drewN ?_ _ | refine blk_drew ?_ | refine blk_alloc ?_ _)); refine blk_far ?_ NB225_235.out _; (with_reducible repeat (first | refine blk_drewN ?_ _ | refine blk_drew ?_ | refine blk_alloc ?_ _)); refine blk_far ?_ NB225_235.out _; (with_reducible repeat (first | refine blk_drewN ?_ _ | refine blk_drew ?_ | refine blk_alloc ?_ _)); refine blk_far ?_ NB225_235.out _; (with_reducible repeat (first | refine blk_drewN ?_ _ | refine blk_drew ?_ | refine blk_alloc ?_ _)); refine blk_far ?_ NB225_235.out _; (with_reducible repeat (first | refine blk_drewN ?_ _ | refine blk_drew ?_ | refine blk_alloc ?_ _)); refine blk_far ?_ NB225_235.out _; (with_reducible repeat (first | refine blk_drewN ?_ _ | refine blk_drew ?_ | refine blk_alloc ?_ _)); exact BK225.out) hb); have n1_ := Aside0.mk (blk_below (g := gb226) (o := .cells #[.int .u64 a1_0, .int .u64 a1_1, .int .u64 a1_2, .int .u64 a1_3, .int .i64 a1_4] 26 (0, 0)) (by (with_reducible repeat (first | refine blk_drewN ?_ _ | refine blk_drew ?_ | refine blk_alloc ?_ _)); refine blk_far ?_ NB226_235.out _; (with_reducible repeat (first | refine blk_drewN ?_ _ | refine blk_drew ?_ | refine blk_alloc ?_ _)); refine blk_far ?_ NB226_235.out _; (with_reducible repeat (first | refine blk_drewN ?_ _ | refine blk_drew ?_ | refine blk_alloc ?_ _)); refine blk_far ?_ NB226_235.out _; (with_reducible repeat (first | refine blk_drewN ?_ _ | refine blk_drew ?_ | refine blk_alloc ?_ _)); refine blk_far ?_ NB226_235.out _; (with_reducible repeat (first | refine blk_drewN ?_ _ | refine blk_drew ?_ | refine blk_alloc ?_ _)); refine blk_far ?_ NB226_235.out _; (with_reducible repeat (first | refine blk_drewN ?_ _ | refine blk_drew ?_ | refine blk_alloc ?_ _)); exact BK226.out) hb); have n2_ := Aside0.mk (blk_below (g := gb235) (o := .cells #[.int .u64 t229, .int .u64 t230, .int .u64 t231, .int .u64 t232, .int .i64 t233] 26 (0, 0)) (by (with_reducible repeat (first | refine blk_drewN ?_ _ | refine blk_drew ?_ | refine blk_alloc ?_ _)); refine blk_put (cs := #[.int .u64 t229, .int .u64 t230, .int .u64 t231, .int .u64 t232, .int .i64 0]) ?_ 4 _ rfl; (with_reducible repeat (first | refine blk_drewN ?_ _ | refine blk_drew ?_ | refine blk_alloc ?_ _)); refine blk_put (cs := #[.int .u64 t229, .int .u64 t230, .int .u64 t231, .int .u64 0, .int .i64 0]) ?_ 3 _ rfl; (with_reducible repeat (first | refine blk_drewN ?_ _ | refine blk_drew ?_ | refine blk_alloc ?_ _)); refine blk_put (cs := #[.int .u64 t229, .int .u64 t230, .int .u64 0, .int .u64 0, .int .i64 0]) ?_ 2 _ rfl; (with_reducible repeat (first | refine blk_drewN ?_ _ | refine blk_drew ?_ | refine blk_alloc ?_ _)); refine blk_put (cs := #[.int .u64 t229, .int .u64 0, .int .u64 0, .int .u64 0, .int .i64 0]) ?_ 1 _ rfl; (with_reducible repeat (first | refine blk_drewN ?_ _ | refine blk_drew ?_ | refine blk_alloc ?_ _)); refine blk_put (cs := #[.int .u64 0, .int .u64 0, .int .u64 0, .int .u64 0, .int .i64 0]) ?_ 0 _ rfl; (with_reducible repeat (first | refine blk_drewN ?_ _ | refine blk_drew ?_ | refine blk_alloc ?_ _)); exact BK235.out) hb); have n3_ := Aside0.mk (below_step (by repeat (first | (with_reducible first | exact HB.out | apply below_alloc | apply pw_below_drewN | apply below_drew1 | refine below_set ?_ GE225.out | refine below_set ?_ GE226.out | refine below_set ?_ GE235.out) | exact HB.out)) hb); clear BK225; clear BK226; clear BK235; clear HB; have BK225 := n0_; have BK226 := n1_; have BK235 := n2_; have HB := n3_; clear n0_ n1_ n2_ n3_; (try clear hb); (try clear hb2); (try clear hk); (try clear hi)) | ((with_reducible refine gate_dst (N := 9) rfl ?_); refine box_event ?hg (N := 9) ?hd (cs := #[.string (⟨#[]⟩ : ByteArray), .string (⟨#[]⟩ : ByteArray)]) (t := 23) ?hr ?_; (case hd => rfl); (case hg => rfl); (case hr => first | (go_simp; done) | (go_simp; rfl)); intro gb239 hg w23 hbox hb; have n0_ := Aside0.mk (blk_below (g := gb225) (o := .cells #[.string t227, .string t228] 23 (0, 0)) (by (with_reducible repeat (first | refine blk_drewN ?_ _ | refine blk_drew ?_ | refine blk_alloc ?_ _)); exact BK225.out) hb); have n1_ := Aside0.mk (blk_below (g := gb226) (o := .cells #[.int .u64 a1_0, .int .u64 a1_1, .int .u64 a1_2, .int .u64 a1_3, .int .i64 a1_4] 26 (0, 0)) (by (with_reducible repeat (first | refine blk_drewN ?_ _ | refine blk_drew ?_ | refine blk_alloc ?_ _)); exact BK226.out) hb); have n2_ := Aside0.mk (blk_below (g := gb235) (o := .cells #[.int .u64 t229, .int .u64 t230, .int .u64 t231, .int .u64 t232, .int .i64 t233] 26 (0, 0)) (by (with_reducible repeat (first | refine blk_drewN ?_ _ | refine blk_drew ?_ | refine blk_alloc ?_ _)); exact BK235.out) hb); have n3_ := Aside0.mk (below_step (by repeat (first | (with_reducible first | exact HB.out | apply below_alloc | apply pw_below_drewN | apply below_drew1 | refine below_set ?_ GE225.out | refine below_set ?_ GE226.out | refine below_set ?_ GE235.out) | exact HB.out)) hb); have n4_ := Aside0.mk (hbox); have n5_ := Aside0.mk ((by rw [hg]; exact (below_size (by repeat (first | (with_reducible first | exact HB.out | apply below_alloc | apply pw_below_drewN | apply below_drew1 | refine below_set ?_ GE225.out | refine below_set ?_ GE226.out | refine below_set ?_ GE235.out) | exact HB.out))) : w.heap.size ≤ gb239)); have n6_ := Aside0.mk ((by rw [hg]; exact (below_size (by repeat (first | (with_reducible first | exact HB.out | apply below_alloc | apply pw_below_drewN | apply below_drew1 | refine below_set ?_ GE225.out | refine below_set ?_ GE226.out | refine below_set ?_ GE235.out) | exact HB.out))) : w.heap.size ≤ gb239)); have n7_ := Aside0.mk ((by rw [hg]; exact Nat.ne_of_lt (blk_lt (g := gb225) (o := .cells #[.string t227, .string t228] 23 (0, 0)) (by (with_reducible repeat (first | refine blk_drewN ?_ _ | refine blk_drew ?_ | refine blk_alloc ?_ _)); exact BK225.out)) : gb225 ≠ gb239)); have n8_ := Aside0.mk ((by rw [hg]; exact Nat.ne_of_gt (blk_lt (g := gb225) (o := .cells #[.string t227, .string t228] 23 (0, 0)) (by (with_reducible repeat (first | refine blk_drewN ?_ _ | refine blk_drew ?_ | refine blk_alloc ?_ _)); exact BK225.out)) : gb239 ≠ gb225)); have n9_ := Aside0.mk ((by rw [hg]; exact Nat.ne_of_lt (blk_lt (g := gb226) (o := .cells #[.int .u64 a1_0, .int .u64 a1_1, .int .u64 a1_2, .int .u64 a1_3, .int .i64 a1_4] 26 (0, 0)) (by (with_reducible repeat (first | refine blk_drewN ?_ _ | refine blk_drew ?_ | refine blk_alloc ?_ _)); exact BK226.out)) : gb226 ≠ gb239)); have n10_ := Aside0.mk ((by rw [hg]; exact Nat.ne_of_gt (blk_lt (g := gb226) (o := .cells #[.int .u64 a1_0, .int .u64 a1_1, .int .u64 a1_2, .int .u64 a1_3, .int .i64 a1_4] 26 (0, 0)) (by (with_reducible repeat (first | refine blk_drewN ?_ _ | refine blk_drew ?_ | refine blk_alloc ?_ _)); exact BK226.out)) : gb239 ≠ gb226)); have n11_ := Aside0.mk ((by rw [hg]; exact Nat.ne_of_lt (blk_lt (g := gb235) (o := .cells #[.int .u64 t229, .int .u64 t230, .int .u64 t231, .int .u64 t232, .int .i64 t233] 26 (0, 0)) (by (with_reducible repeat (first | refine blk_drewN ?_ _ | refine blk_drew ?_ | refine blk_alloc ?_ _)); exact BK235.out)) : gb235 ≠ gb239)); have n12_ := Aside0.mk ((by rw [hg]; exact Nat.ne_of_gt (blk_lt (g := gb235) (o := .cells #[.int .u64 t229, .int .u64 t230, .int .u64 t231, .int .u64 t232, .int .i64 t233] 26 (0, 0)) (by (with_reducible repeat (first | refine blk_drewN ?_ _ | refine blk_drew ?_ | refine blk_alloc ?_ _)); exact BK235.out)) : gb239 ≠ gb235)); clear BK225; clear BK226; clear BK235; clear HB; have BK225 := n0_; have BK226 := n1_; have BK235 := n2_; have HB := n3_; have BK239 := n4_; have GW239 := n5_; have GE239 := n6_; have NB225_239 := n7_; have NB239_225 := n8_; have NB226_239 := n9_; have NB239_226 := n10_; have NB235_239 := n11_; have NB239_235 := n12_; clear n0_ n1_ n2_ n3_ n4_ n5_ n6_ n7_ n8_ n9_ n10_ n11_ n12_; clear hb hbox hg; have hnb24 := NB239_225.out; have hnc24 := NB225_239.out; have hnb25 := NB239_226.out; have hnc25 := NB226_239.out; have hnb26 := NB239_235.out; have hnc26 := NB235_239.out; have hcz27_0 : w23.cell? ⟨gb239, 0, none⟩ = some (.string (⟨#[]⟩ : ByteArray)) := (blk_cell BK239.out 0).trans rfl; have hcz27_1 : w23.cell? ⟨gb239, 1, none⟩ = some (.string (⟨#[]⟩ : ByteArray)) := (blk_cell BK239.out 1).trans rfl; have hfz27_0 := blk_frozen BK239.out 0; have hfz27_1 := blk_frozen BK239.out 1; have hcz28_0 : w23.cell? ⟨gb225, 0, none⟩ = some (.string t227) := (blk_cell BK225.out 0).trans rfl; have hcz28_1 : w23.cell? ⟨gb225, 1, none⟩ = some (.string t228) := (blk_cell BK225.out 1).trans rfl; have hfz28_0 := blk_frozen BK225.out 0; have hfz28_1 := blk_frozen BK225.out 1; have hcz29_0 : w23.cell? ⟨gb226, 0, none⟩ = some (.int .u64 a1_0) := (blk_cell BK226.out 0).trans rfl; have hcz29_1 : w23.cell? ⟨gb226, 1, none⟩ = some (.int .u64 a1_1) := (blk_cell BK226.out 1).trans rfl; have hcz29_2 : w23.cell? ⟨gb226, 2, none⟩ = some (.int .u64 a1_2) := (blk_cell BK226.out 2).trans rfl; have hcz29_3 : w23.cell? ⟨gb226, 3, none⟩ = some (.int .u64 a1_3) := (blk_cell BK226.out 3).trans rfl; have hcz29_4 : w23.cell? ⟨gb226, 4, none⟩ = some (.int .i64 a1_4) := (blk_cell BK226.out 4).trans rfl; have hfz29_0 := blk_frozen BK226.out 0; have hfz29_1 := blk_frozen BK226.out 1; have hfz29_2 := blk_frozen BK226.out 2; have hfz29_3 := blk_frozen BK226.out 3; have hfz29_4 := blk_frozen BK226.out 4) | ((with_reducible refine gate_callee (f := 18) rfl ?_); refine goesL_ (some 36) rfl rfl Try.func18 (by kernel_rfl) rfl #[.agg #[.string t227, .string t228], .agg #[.int .u64 a1_0, .int .u64 a1_1, .int .u64 a1_2, .int .u64 a1_3, .int .i64 a1_4]] rfl (by (try simp only [List.map_toArray, List.map_cons, List.map_nil]); first | done | rfl | (simp only [List.length_drop, List.length_take]; rfl)) ?_; (with_reducible refine (disk_Write.calls k t227 t228 a1_0 a1_1 a1_2 a1_3 a1_4 t240 t241 t242 _ A7.out).mono ?_); rintro e w30 ⟨rfl, hb⟩; refine ⟨_, rfl, ?_⟩; have n0_ := Aside0.mk (blk_below (g := gb225) (o := .cells #[.string t227, .string t228] 23 (0, 0)) (by (with_reducible repeat (first | refine blk_drewN ?_ _ | refine blk_drew ?_ | refine blk_alloc ?_ _)); refine blk_far ?_ NB225_239.out _; (with_reducible repeat (first | refine blk_drewN ?_ _ | refine blk_drew ?_ | refine blk_alloc ?_ _)); refine blk_far ?_ NB225_239.out _; (with_reducible repeat (first | refine blk_drewN ?_ _ | refine blk_drew ?_ | refine blk_alloc ?_ _)); exact BK225.out) hb); have n1_ := Aside0.mk (blk_below (g := gb226) (o := .cells #[.int .u64 a1_0, .int .u64 a1_1, .int .u64 a1_2, .int .u64 a1_3, .int .i64 a1_4] 26 (0, 0)) (by (with_reducible repeat (first | refine blk_drewN ?_ _ | refine blk_drew ?_ | refine blk_alloc ?_ _)); refine blk_far ?_ NB226_239.out _; (with_reducible repeat (first | refine blk_drewN ?_ _ | refine blk_drew ?_ | refine blk_alloc ?_ _)); refine blk_far ?_ NB226_239.out _; (with_reducible repeat (first | refine blk_drewN ?_ _ | refine blk_drew ?_ | refine blk_alloc ?_ _)); exact BK226.out) hb); have n2_ := Aside0.mk (blk_below (g := gb235) (o := .cells #[.int .u64 t229, .int .u64 t230, .int .u64 t231, .int .u64 t232, .int .i64 t233] 26 (0, 0)) (by (with_reducible repeat (first | refine blk_drewN ?_ _ | refine blk_drew ?_ | refine blk_alloc ?_ _)); refine blk_far ?_ NB235_239.out _; (with_reducible repeat (first | refine blk_drewN ?_ _ | refine blk_drew ?_ | refine blk_alloc ?_ _)); refine blk_far ?_ NB235_239.out _; (with_reducible repeat (first | refine blk_drewN ?_ _ | refine blk_drew ?_ | refine blk_alloc ?_ _)); exact BK235.out) hb); have n3_ := Aside0.mk (blk_below (g := gb239) (o := .cells #[.string t236, .string t237] 23 (0, 0)) (by (with_reducible repeat (first | refine blk_drewN ?_ _ | refine blk_drew ?_ | refine blk_alloc ?_ _)); refine blk_put (cs := #[.string t236, .string (⟨#[]⟩ : ByteArray)]) ?_ 1 _ rfl; (with_reducible repeat (first | refine blk_drewN ?_ _ | refine blk_drew ?_ | refine blk_alloc ?_ _)); refine blk_put (cs := #[.string (⟨#[]⟩ : ByteArray), .string (⟨#[]⟩ : ByteArray)]) ?_ 0 _ rfl; (with_reducible repeat (first | refine blk_drewN ?_ _ | refine blk_drew ?_ | refine blk_alloc ?_ _)); exact BK239.out) hb); have n4_ := Aside0.mk (below_step (by repeat (first | (with_reducible first | exact HB.out | apply below_alloc | apply pw_below_drewN | apply below_drew1 | refine below_set ?_ GE225.out | refine below_set ?_ GE226.out | refine below_set ?_ GE235.out | refine below_set ?_ GE239.out) | exact HB.out)) hb); clear BK225; clear BK226; clear BK235; clear BK239; clear HB; have BK225 := n0_; have BK226 := n1_; have BK235 := n2_; have BK239 := n3_; have HB := n4_; clear n0_ n1_ n2_ n3_ n4_; (try clear hb); (try clear hb2); (try clear hk); (try clear hi)) | ((with_reducible refine gate_dst (N := 11) rfl ?_); refine box_event ?hg (N := 11) ?hd (cs := #[.string (⟨#[]⟩ : ByteArray), .string (⟨#[]⟩ : ByteArray)]) (t := 23) ?hr ?_; (case hd => rfl); (case hg => rfl); (case hr => first | (go_simp; done) | (go_simp; rfl)); intro gb243 hg w31 hbox hb; have n0_ := Aside0.mk (blk_below (g := gb225) (o := .cells #[.string t227, .string t228] 23 (0, 0)) (by (with_reducible repeat (first | refine blk_drewN ?_ _ | refine blk_drew ?_ | refine blk_alloc ?_ _)); exact BK225.out) hb); have n1_ := Aside0.mk (blk_below (g := gb226) (o := .cells #[.int .u64 a1_0, .int .u64 a1_1, .int .u64 a1_2, .int .u64 a1_3, .int .i64 a1_4] 26 (0, 0)) (by (with_reducible repeat (first | refine blk_drewN ?_ _ | refine blk_drew ?_ | refine blk_alloc ?_ _)); exact BK226.out) hb); have n2_ := Aside0.mk (blk_below (g := gb235) (o := .cells #[.int .u64 t229, .int .u64 t230, .int .u64 t231, .int .u64 t232, .int .i64 t233] 26 (0, 0)) (by (with_reducible repeat (first | refine blk_drewN ?_ _ | refine blk_drew ?_ | refine blk_alloc ?_ _)); exact BK235.out) hb); have n3_ := Aside0.mk (blk_below (g := gb239) (o := .cells #[.string t236, .string t237] 23 (0, 0)) (by (with_reducible repeat (first | refine blk_drewN ?_ _ | refine blk_drew ?_ | refine blk_alloc ?_ _)); exact BK239.out) hb); have n4_ := Aside0.mk (below_step (by repeat (first | (with_reducible first | exact HB.out | apply below_alloc | apply pw_below_drewN | apply below_drew1 | refine below_set ?_ GE225.out | refine below_set ?_ GE226.out | refine below_set ?_ GE235.out | refine below_set ?_ GE239.out) | exact HB.out)) hb); have n5_ := Aside0.mk (hbox); have n6_ := Aside0.mk ((by rw [hg]; exact (below_size (by repeat (first | (with_reducible first | exact HB.out | apply below_alloc | apply pw_below_drewN | apply below_drew1 | refine below_set ?_ GE225.out | refine below_set ?_ GE226.out | refine below_set ?_ GE235.out | refine below_set ?_ GE239.out) | exact HB.out))) : w.heap.size ≤ gb243)); have n7_ := Aside0.mk ((by rw [hg]; exact (below_size (by repeat (first | (with_reducible first | exact HB.out | apply below_alloc | apply pw_below_drewN | apply below_drew1 | refine below_set ?_ GE225.out | refine below_set ?_ GE226.out | refine below_set ?_ GE235.out | refine below_set ?_ GE239.out) | exact HB.out))) : w.heap.size ≤ gb243)); have n8_ := Aside0.mk ((by rw [hg]; exact Nat.ne_of_lt (blk_lt (g := gb225) (o := .cells #[.string t227, .string t228] 23 (0, 0)) (by (with_reducible repeat (first | refine blk_drewN ?_ _ | refine blk_drew ?_ | refine blk_alloc ?_ _)); exact BK225.out)) : gb225 ≠ gb243)); have n9_ := Aside0.mk ((by rw [hg]; exact Nat.ne_of_gt (blk_lt (g := gb225) (o := .cells #[.string t227, .string t228] 23 (0, 0)) (by (with_reducible repeat (first | refine blk_drewN ?_ _ | refine blk_drew ?_ | refine blk_alloc ?_ _)); exact BK225.out)) : gb243 ≠ gb225)); have n10_ := Aside0.mk ((by rw [hg]; exact Nat.ne_of_lt (blk_lt (g := gb226) (o := .cells #[.int .u64 a1_0, .int .u64 a1_1, .int .u64 a1_2, .int .u64 a1_3, .int .i64 a1_4] 26 (0, 0)) (by (with_reducible repeat (first | refine blk_drewN ?_ _ | refine blk_drew ?_ | refine blk_alloc ?_ _)); exact BK226.out)) : gb226 ≠ gb243)); have n11_ := Aside0.mk ((by rw [hg]; exact Nat.ne_of_gt (blk_lt (g := gb226) (o := .cells #[.int .u64 a1_0, .int .u64 a1_1, .int .u64 a1_2, .int .u64 a1_3, .int .i64 a1_4] 26 (0, 0)) (by (with_reducible repeat (first | refine blk_drewN ?_ _ | refine blk_drew ?_ | refine blk_alloc ?_ _)); exact BK226.out)) : gb243 ≠ gb226)); have n12_ := Aside0.mk ((by rw [hg]; exact Nat.ne_of_lt (blk_lt (g := gb235) (o := .cells #[.int .u64 t229, .int .u64 t230, .int .u64 t231, .int .u64 t232, .int .i64 t233] 26 (0, 0)) (by (with_reducible repeat (first | refine blk_drewN ?_ _ | refine blk_drew ?_ | refine blk_alloc ?_ _)); exact BK235.out)) : gb235 ≠ gb243)); have n13_ := Aside0.mk ((by rw [hg]; exact Nat.ne_of_gt (blk_lt (g := gb235) (o := .cells #[.int .u64 t229, .int .u64 t230, .int .u64 t231, .int .u64 t232, .int .i64 t233] 26 (0, 0)) (by (with_reducible repeat (first | refine blk_drewN ?_ _ | refine blk_drew ?_ | refine blk_alloc ?_ _)); exact BK235.out)) : gb243 ≠ gb235)); have n14_ := Aside0.mk ((by rw [hg]; exact Nat.ne_of_lt (blk_lt (g := gb239) (o := .cells #[.string t236, .string t237] 23 (0, 0)) (by (with_reducible repeat (first | refine blk_drewN ?_ _ | refine blk_drew ?_ | refine blk_alloc ?_ _)); exact BK239.out)) : gb239 ≠ gb243)); have n15_ := Aside0.mk ((by rw [hg]; exact Nat.ne_of_gt (blk_lt (g := gb239) (o := .cells #[.string t236, .string t237] 23 (0, 0)) (by (with_reducible repeat (first | refine blk_drewN ?_ _ | refine blk_drew ?_ | refine blk_alloc ?_ _)); exact BK239.out)) : gb243 ≠ gb239)); clear BK225; clear BK226; clear BK235; clear BK239; clear HB; have BK225 := n0_; have BK226 := n1_; have BK235 := n2_; have BK239 := n3_; have HB := n4_; have BK243 := n5_; have GW243 := n6_; have GE243 := n7_; have NB225_243 := n8_; have NB243_225 := n9_; have NB226_243 := n10_; have NB243_226 := n11_; have NB235_243 := n12_; have NB243_235 := n13_; have NB239_243 := n14_; have NB243_239 := n15_; clear n0_ n1_ n2_ n3_ n4_ n5_ n6_ n7_ n8_ n9_ n10_ n11_ n12_ n13_ n14_ n15_; clear hb hbox hg; have hnb32 := NB243_225.out; have hnc32 := NB225_243.out; have hnb33 := NB243_226.out; have hnc33 := NB226_243.out; have hnb34 := NB243_235.out; have hnc34 := NB235_243.out; have hnb35 := NB243_239.out; have hnc35 := NB239_243.out; have hcz36_0 : w31.cell? ⟨gb243, 0, none⟩ = some (.string (⟨#[]⟩ : ByteArray)) := (blk_cell BK243.out 0).trans rfl; have hcz36_1 : w31.cell? ⟨gb243, 1, none⟩ = some (.string (⟨#[]⟩ : ByteArray)) := (blk_cell BK243.out 1).trans rfl; have hfz36_0 := blk_frozen BK243.out 0; have hfz36_1 := blk_frozen BK243.out 1))
  (try simp only [Act.put, List.setIfInBounds_toArray, List.set_cons_zero, List.set_cons_succ])
  go_cut [44] (fun v44 wc => ∃ (kq : Nat) (x44_7 : Bool), v44 = .bool x44_7 ∧ Aside0 (tattlelaw16_DiskTears.j0 kq t234 t238 t242 x44_7 t227 t228 a1_0 a1_1 a1_2 a1_3 a1_4 t229 t230 t231 t232 t233 t236 t237 t240 t241 = some r) ∧ Aside0 (kq ≤ k) ∧ Aside0 (wc.heap[gb225]? = some (.cells #[.string t227, .string t228] 23 (0, 0))) ∧ Aside0 (wc.heap[gb226]? = some (.cells #[.int .u64 a1_0, .int .u64 a1_1, .int .u64 a1_2, .int .u64 a1_3, .int .i64 a1_4] 26 (0, 0))) ∧ Aside0 (wc.heap[gb235]? = some (.cells #[.int .u64 t229, .int .u64 t230, .int .u64 t231, .int .u64 t232, .int .i64 t233] 26 (0, 0))) ∧ Aside0 (wc.heap[gb239]? = some (.cells #[.string t236, .string t237] 23 (0, 0))) ∧ Aside0 (wc.heap[gb243]? = some (.cells #[.string t240, .string t241] 23 (0, 0))) ∧ Aside0 (Below w.heap.size w wc))
  case first =>
    have H := HC8.out
    clear HC8
    by_cases c37 : t238 = 0
    · rw [if_pos c37] at H
      have c37b0 : (t238 == 0) = true := beq_iff_eq.mpr c37
      have c37b1 : (t238 != 0) = false := bne_eq_false_iff_eq.mpr c37
      clear c37
      (first | rw [c37b0] | (simp only [i64_w, i32_w]; rw [c37b0]) | skip)
      have H' := Aside0.mk H
      clear H
      go_wp2
      go_meet
      case rel => exact ⟨_, ((t242 != 0)), (by first | rfl | (simp; done) | (simp [*]; done)), H', ⟨by first | omega | exact Nat.le_refl _⟩, ⟨by (with_reducible repeat (first | refine blk_drewN ?_ _ | refine blk_drew ?_ | refine blk_alloc ?_ _)); refine blk_far ?_ NB225_243.out _; (with_reducible repeat (first | refine blk_drewN ?_ _ | refine blk_drew ?_ | refine blk_alloc ?_ _)); refine blk_far ?_ NB225_243.out _; (with_reducible repeat (first | refine blk_drewN ?_ _ | refine blk_drew ?_ | refine blk_alloc ?_ _)); exact BK225.out⟩, ⟨by (with_reducible repeat (first | refine blk_drewN ?_ _ | refine blk_drew ?_ | refine blk_alloc ?_ _)); refine blk_far ?_ NB226_243.out _; (with_reducible repeat (first | refine blk_drewN ?_ _ | refine blk_drew ?_ | refine blk_alloc ?_ _)); refine blk_far ?_ NB226_243.out _; (with_reducible repeat (first | refine blk_drewN ?_ _ | refine blk_drew ?_ | refine blk_alloc ?_ _)); exact BK226.out⟩, ⟨by (with_reducible repeat (first | refine blk_drewN ?_ _ | refine blk_drew ?_ | refine blk_alloc ?_ _)); refine blk_far ?_ NB235_243.out _; (with_reducible repeat (first | refine blk_drewN ?_ _ | refine blk_drew ?_ | refine blk_alloc ?_ _)); refine blk_far ?_ NB235_243.out _; (with_reducible repeat (first | refine blk_drewN ?_ _ | refine blk_drew ?_ | refine blk_alloc ?_ _)); exact BK235.out⟩, ⟨by (with_reducible repeat (first | refine blk_drewN ?_ _ | refine blk_drew ?_ | refine blk_alloc ?_ _)); refine blk_far ?_ NB239_243.out _; (with_reducible repeat (first | refine blk_drewN ?_ _ | refine blk_drew ?_ | refine blk_alloc ?_ _)); refine blk_far ?_ NB239_243.out _; (with_reducible repeat (first | refine blk_drewN ?_ _ | refine blk_drew ?_ | refine blk_alloc ?_ _)); exact BK239.out⟩, ⟨by (with_reducible repeat (first | refine blk_drewN ?_ _ | refine blk_drew ?_ | refine blk_alloc ?_ _)); refine blk_put (cs := #[.string t240, .string (⟨#[]⟩ : ByteArray)]) ?_ 1 _ rfl; (with_reducible repeat (first | refine blk_drewN ?_ _ | refine blk_drew ?_ | refine blk_alloc ?_ _)); refine blk_put (cs := #[.string (⟨#[]⟩ : ByteArray), .string (⟨#[]⟩ : ByteArray)]) ?_ 0 _ rfl; (with_reducible repeat (first | refine blk_drewN ?_ _ | refine blk_drew ?_ | refine blk_alloc ?_ _)); exact BK243.out⟩, ⟨by repeat (first | (with_reducible first | exact HB.out | apply below_alloc | apply pw_below_drewN | apply below_drew1 | refine below_set ?_ GE225.out | refine below_set ?_ GE226.out | refine below_set ?_ GE235.out | refine below_set ?_ GE239.out | refine below_set ?_ GE243.out) | exact HB.out)⟩⟩
    · rw [if_neg c37] at H
      have c37b0 : (t238 == 0) = false := beq_eq_false_iff_ne.mpr c37
      have c37b1 : (t238 != 0) = true := bne_iff_ne.mpr c37
      (first | rw [c37b0] | (simp only [i64_w, i32_w]; rw [c37b0]) | skip)
      have H' := Aside0.mk H
      clear H
      go_wp2
      go_meet
      case rel => exact ⟨_, (true), (by first | rfl | (simp; done) | (simp [*]; done)), H', ⟨by first | omega | exact Nat.le_refl _⟩, ⟨by (with_reducible repeat (first | refine blk_drewN ?_ _ | refine blk_drew ?_ | refine blk_alloc ?_ _)); refine blk_far ?_ NB225_243.out _; (with_reducible repeat (first | refine blk_drewN ?_ _ | refine blk_drew ?_ | refine blk_alloc ?_ _)); refine blk_far ?_ NB225_243.out _; (with_reducible repeat (first | refine blk_drewN ?_ _ | refine blk_drew ?_ | refine blk_alloc ?_ _)); exact BK225.out⟩, ⟨by (with_reducible repeat (first | refine blk_drewN ?_ _ | refine blk_drew ?_ | refine blk_alloc ?_ _)); refine blk_far ?_ NB226_243.out _; (with_reducible repeat (first | refine blk_drewN ?_ _ | refine blk_drew ?_ | refine blk_alloc ?_ _)); refine blk_far ?_ NB226_243.out _; (with_reducible repeat (first | refine blk_drewN ?_ _ | refine blk_drew ?_ | refine blk_alloc ?_ _)); exact BK226.out⟩, ⟨by (with_reducible repeat (first | refine blk_drewN ?_ _ | refine blk_drew ?_ | refine blk_alloc ?_ _)); refine blk_far ?_ NB235_243.out _; (with_reducible repeat (first | refine blk_drewN ?_ _ | refine blk_drew ?_ | refine blk_alloc ?_ _)); refine blk_far ?_ NB235_243.out _; (with_reducible repeat (first | refine blk_drewN ?_ _ | refine blk_drew ?_ | refine blk_alloc ?_ _)); exact BK235.out⟩, ⟨by (with_reducible repeat (first | refine blk_drewN ?_ _ | refine blk_drew ?_ | refine blk_alloc ?_ _)); refine blk_far ?_ NB239_243.out _; (with_reducible repeat (first | refine blk_drewN ?_ _ | refine blk_drew ?_ | refine blk_alloc ?_ _)); refine blk_far ?_ NB239_243.out _; (with_reducible repeat (first | refine blk_drewN ?_ _ | refine blk_drew ?_ | refine blk_alloc ?_ _)); exact BK239.out⟩, ⟨by (with_reducible repeat (first | refine blk_drewN ?_ _ | refine blk_drew ?_ | refine blk_alloc ?_ _)); refine blk_put (cs := #[.string t240, .string (⟨#[]⟩ : ByteArray)]) ?_ 1 _ rfl; (with_reducible repeat (first | refine blk_drewN ?_ _ | refine blk_drew ?_ | refine blk_alloc ?_ _)); refine blk_put (cs := #[.string (⟨#[]⟩ : ByteArray), .string (⟨#[]⟩ : ByteArray)]) ?_ 0 _ rfl; (with_reducible repeat (first | refine blk_drewN ?_ _ | refine blk_drew ?_ | refine blk_alloc ?_ _)); exact BK243.out⟩, ⟨by repeat (first | (with_reducible first | exact HB.out | apply below_alloc | apply pw_below_drewN | apply below_drew1 | refine below_set ?_ GE225.out | refine below_set ?_ GE226.out | refine below_set ?_ GE235.out | refine below_set ?_ GE239.out | refine below_set ?_ GE243.out) | exact HB.out)⟩⟩
  case rest =>
    clear HC8
    try clear c1
    try clear c2
    try clear p2
    try clear c3
    try clear c5
    try clear p6
    try clear c9
    try clear c11
    try clear c12
    try clear c17
    try clear c18
    try clear c20
    try clear c24
    try clear c25
    try clear c26
    try clear c32
    try clear c33
    try clear c34
    try clear c35
    try clear c37
    try clear c37b0
    try clear c37b1
    try clear hcz12_0
    try clear hcz12_1
    try clear hcz14_0
    try clear hcz14_1
    try clear hcz19_0
    try clear hcz19_1
    try clear hcz19_2
    try clear hcz19_3
    try clear hcz19_4
    try clear hcz20_0
    try clear hcz20_1
    try clear hcz21_0
    try clear hcz21_1
    try clear hcz21_2
    try clear hcz21_3
    try clear hcz21_4
    try clear hcz27_0
    try clear hcz27_1
    try clear hcz28_0
    try clear hcz28_1
    try clear hcz29_0
    try clear hcz29_1
    try clear hcz29_2
    try clear hcz29_3
    try clear hcz29_4
    try clear hcz36_0
    try clear hcz36_1
    try clear hfz12_0
    try clear hfz12_1
    try clear hfz14_0
    try clear hfz14_1
    try clear hfz19_0
    try clear hfz19_1
    try clear hfz19_2
    try clear hfz19_3
    try clear hfz19_4
    try clear hfz20_0
    try clear hfz20_1
    try clear hfz21_0
    try clear hfz21_1
    try clear hfz21_2
    try clear hfz21_3
    try clear hfz21_4
    try clear hfz27_0
    try clear hfz27_1
    try clear hfz28_0
    try clear hfz28_1
    try clear hfz29_0
    try clear hfz29_1
    try clear hfz29_2
    try clear hfz29_3
    try clear hfz29_4
    try clear hfz36_0
    try clear hfz36_1
    obtain ⟨kq, x44_7, rfl, HA, HJ7, BK225, BK226, BK235, BK239, BK243, HB⟩ := hcut
    cases kq with
    | zero => exact absurd HA.out (by simp [tattlelaw16_DiskTears.j0])
    | succ kj7 =>
      have H := HA.out
      clear HA
      simp only [tattlelaw16_DiskTears.j0] at H
      by_cases c38 : x44_7 = true
      · subst c38
        have H1 : (if t238 = t242 then (if (t236.toList == t227.toList && (t237.toList == t228.toList)) = true then (if (t240.toList == t227.toList && (t241.toList == t228.toList)) = true then ((tattlelaw16_awake.f kj7).bind fun t244 => (some t244)) else (none)) else (none)) else (none)) = some r := by rw [if_pos rfl] at H; exact H
        clear H
        have H := H1
        clear H1
        by_cases c39 : t238 = t242
        · rw [if_pos c39] at H
          have c39b0 : (t238 == t242) = true := beq_iff_eq.mpr c39
          have c39b1 : (t238 != t242) = false := bne_eq_false_iff_eq.mpr c39
          clear c39
          by_cases c40 : (t236.toList == t227.toList && (t237.toList == t228.toList)) = true
          · rw [if_pos c40] at H
            have c40b0 : (t236.toList == t227.toList && (t237.toList == t228.toList)) = true := c40
            (try (have c40b1 : decide (t236.toList = t227.toList && (t237.toList == t228.toList)) = true := by simpa using c40))
            (try (have c40b2 : (t236.toList == t227.toList && (t237.toList == t228.toList)) = true := by simpa using c40))
            clear c40
            by_cases c41 : (t240.toList == t227.toList && (t241.toList == t228.toList)) = true
            · rw [if_pos c41] at H
              have c41b0 : (t240.toList == t227.toList && (t241.toList == t228.toList)) = true := c41
              (try (have c41b1 : decide (t240.toList = t227.toList && (t241.toList == t228.toList)) = true := by simpa using c41))
              (try (have c41b2 : (t240.toList == t227.toList && (t241.toList == t228.toList)) = true := by simpa using c41))
              clear c41
              replace H := Option.bind_eq_some_iff.mp H
              obtain ⟨t244, A420, H⟩ := H
              replace H : (some t244) = some r := H
              have A42 := Aside0.mk A420
              clear A420
              obtain rfl := Option.some.inj H
              have hnb43 := NB239_225.out
              have hnc43 := NB225_239.out
              have hnb44 := NB239_226.out
              have hnc44 := NB226_239.out
              have hnb45 := NB239_235.out
              have hnc45 := NB235_239.out
              have hnb46 := NB239_243.out
              have hnc46 := NB243_239.out
              have hcz47_0 : wc.cell? ⟨gb239, 0, none⟩ = some (.string t236) := (blk_cell BK239.out 0).trans rfl
              have hcz47_1 : wc.cell? ⟨gb239, 1, none⟩ = some (.string t237) := (blk_cell BK239.out 1).trans rfl
              have hfz47_0 := blk_frozen BK239.out 0
              have hfz47_1 := blk_frozen BK239.out 1
              have hnb48 := NB225_226.out
              have hnc48 := NB226_225.out
              have hnb49 := NB225_235.out
              have hnc49 := NB235_225.out
              have hnb50 := NB225_243.out
              have hnc50 := NB243_225.out
              have hcz51_0 : wc.cell? ⟨gb225, 0, none⟩ = some (.string t227) := (blk_cell BK225.out 0).trans rfl
              have hcz51_1 : wc.cell? ⟨gb225, 1, none⟩ = some (.string t228) := (blk_cell BK225.out 1).trans rfl
              have hfz51_0 := blk_frozen BK225.out 0
              have hfz51_1 := blk_frozen BK225.out 1
              have hnb52 := NB243_226.out
              have hnc52 := NB226_243.out
              have hnb53 := NB243_235.out
              have hnc53 := NB235_243.out
              have hcz54_0 : wc.cell? ⟨gb243, 0, none⟩ = some (.string t240) := (blk_cell BK243.out 0).trans rfl
              have hcz54_1 : wc.cell? ⟨gb243, 1, none⟩ = some (.string t241) := (blk_cell BK243.out 1).trans rfl
              have hfz54_0 := blk_frozen BK243.out 0
              have hfz54_1 := blk_frozen BK243.out 1
              go_wp2_with (first | (go_at_call 16; (with_reducible refine (tattlelaw16_awake.calls kj7  t244 _ A42.out).mono ?_); rintro e w55 ⟨rfl, hb⟩; have n0_ := Aside0.mk (blk_below (g := gb225) (o := .cells #[.string t227, .string t228] 23 (0, 0)) (by (with_reducible repeat (first | refine blk_drewN ?_ _ | refine blk_drew ?_ | refine blk_alloc ?_ _)); exact BK225.out) hb); have n1_ := Aside0.mk (blk_below (g := gb226) (o := .cells #[.int .u64 a1_0, .int .u64 a1_1, .int .u64 a1_2, .int .u64 a1_3, .int .i64 a1_4] 26 (0, 0)) (by (with_reducible repeat (first | refine blk_drewN ?_ _ | refine blk_drew ?_ | refine blk_alloc ?_ _)); exact BK226.out) hb); have n2_ := Aside0.mk (blk_below (g := gb235) (o := .cells #[.int .u64 t229, .int .u64 t230, .int .u64 t231, .int .u64 t232, .int .i64 t233] 26 (0, 0)) (by (with_reducible repeat (first | refine blk_drewN ?_ _ | refine blk_drew ?_ | refine blk_alloc ?_ _)); exact BK235.out) hb); have n3_ := Aside0.mk (blk_below (g := gb239) (o := .cells #[.string t236, .string t237] 23 (0, 0)) (by (with_reducible repeat (first | refine blk_drewN ?_ _ | refine blk_drew ?_ | refine blk_alloc ?_ _)); exact BK239.out) hb); have n4_ := Aside0.mk (blk_below (g := gb243) (o := .cells #[.string t240, .string t241] 23 (0, 0)) (by (with_reducible repeat (first | refine blk_drewN ?_ _ | refine blk_drew ?_ | refine blk_alloc ?_ _)); exact BK243.out) hb); have n5_ := Aside0.mk (below_step (by repeat (first | (with_reducible first | exact HB.out | apply below_alloc | apply pw_below_drewN | apply below_drew1 | refine below_set ?_ GE225.out | refine below_set ?_ GE226.out | refine below_set ?_ GE235.out | refine below_set ?_ GE239.out | refine below_set ?_ GE243.out) | exact HB.out)) hb); clear BK225; clear BK226; clear BK235; clear BK239; clear BK243; clear HB; have BK225 := n0_; have BK226 := n1_; have BK235 := n2_; have BK239 := n3_; have BK243 := n4_; have HB := n5_; clear n0_ n1_ n2_ n3_ n4_ n5_; (try clear hb); (try clear hb2); (try clear hk); (try clear hi)))
              go_ret
              exact ⟨by first | rfl | (simp [errW_none, errW_some] <;> rfl) | (simp [*, errW_none, errW_some] <;> rfl), by repeat (first | (with_reducible first | exact HB.out | apply below_alloc | apply pw_below_drewN | apply below_drew1 | refine below_set ?_ GE225.out | refine below_set ?_ GE226.out | refine below_set ?_ GE235.out | refine below_set ?_ GE239.out | refine below_set ?_ GE243.out) | exact HB.out)⟩
            · rw [if_neg c41] at H
              exact absurd H (by simp)
          · rw [if_neg c40] at H
            exact absurd H (by simp)
        · rw [if_neg c39] at H
          exact absurd H (by simp)
      · replace c38 := Bool.eq_false_iff.mpr c38
        subst c38
        have H1 : ((disk_Read.f kj7 t236 t237).bind fun bt245 => ((disk_Read.f kj7 t240 t241).bind fun bt252 => (if (!(bt252.1 == (IntKind.u64.wrap (t229 + 1))) || (!(bt252.2.1 == a1_1) || (!(bt252.2.2.1 == a1_2) || (!(bt252.2.2.2.1 == a1_3) || (!(bt252.2.2.2.2.1 == a1_4)))))) = true then (tattlelaw16_DiskTears.j1 kj7 t234 bt245.2.2.2.2.2 true t229 t230 t231 t232 t233 t236 t237 t240 t241 bt245.1 bt245.2.1 bt245.2.2.1 bt245.2.2.2.1 bt245.2.2.2.2.1 (IntKind.u64.wrap (t229 + 1)) a1_1 a1_2 a1_3 a1_4) else (tattlelaw16_DiskTears.j1 kj7 t234 bt245.2.2.2.2.2 (bt252.2.2.2.2.2 != 0) t229 t230 t231 t232 t233 t236 t237 t240 t241 bt245.1 bt245.2.1 bt245.2.2.1 bt245.2.2.2.1 bt245.2.2.2.2.1 (IntKind.u64.wrap (t229 + 1)) a1_1 a1_2 a1_3 a1_4)))) = some r := by rw [if_neg (show ¬ (false = true) by decide)] at H; exact H
        clear H
        have H := H1
        clear H1
        replace H := Option.bind_eq_some_iff.mp H
        obtain ⟨⟨t245, t246, t247, t248, t249, t250⟩, A560, H⟩ := H
        replace H : ((disk_Read.f kj7 t240 t241).bind fun bt252 => (if (!(bt252.1 == (IntKind.u64.wrap (t229 + 1))) || (!(bt252.2.1 == a1_1) || (!(bt252.2.2.1 == a1_2) || (!(bt252.2.2.2.1 == a1_3) || (!(bt252.2.2.2.2.1 == a1_4)))))) = true then (tattlelaw16_DiskTears.j1 kj7 t234 t250 true t229 t230 t231 t232 t233 t236 t237 t240 t241 t245 t246 t247 t248 t249 (IntKind.u64.wrap (t229 + 1)) a1_1 a1_2 a1_3 a1_4) else (tattlelaw16_DiskTears.j1 kj7 t234 t250 (bt252.2.2.2.2.2 != 0) t229 t230 t231 t232 t233 t236 t237 t240 t241 t245 t246 t247 t248 t249 (IntKind.u64.wrap (t229 + 1)) a1_1 a1_2 a1_3 a1_4))) = some r := H
        have A56 := Aside0.mk A560
        clear A560
        replace H := Option.bind_eq_some_iff.mp H
        obtain ⟨⟨t252, t253, t254, t255, t256, t257⟩, A570, H⟩ := H
        replace H : (if (!(t252 == (IntKind.u64.wrap (t229 + 1))) || (!(t253 == a1_1) || (!(t254 == a1_2) || (!(t255 == a1_3) || (!(t256 == a1_4)))))) = true then (tattlelaw16_DiskTears.j1 kj7 t234 t250 true t229 t230 t231 t232 t233 t236 t237 t240 t241 t245 t246 t247 t248 t249 (IntKind.u64.wrap (t229 + 1)) a1_1 a1_2 a1_3 a1_4) else (tattlelaw16_DiskTears.j1 kj7 t234 t250 (t257 != 0) t229 t230 t231 t232 t233 t236 t237 t240 t241 t245 t246 t247 t248 t249 (IntKind.u64.wrap (t229 + 1)) a1_1 a1_2 a1_3 a1_4)) = some r := H
        have A57 := Aside0.mk A570
        clear A570
        have HC58 := Aside0.mk H
        clear H
        have hnb59 := NB239_225.out
        have hnc59 := NB225_239.out
        have hnb60 := NB239_226.out
        have hnc60 := NB226_239.out
        have hnb61 := NB239_235.out
        have hnc61 := NB235_239.out
        have hnb62 := NB239_243.out
        have hnc62 := NB243_239.out
        have hcz63_0 : wc.cell? ⟨gb239, 0, none⟩ = some (.string t236) := (blk_cell BK239.out 0).trans rfl
        have hcz63_1 : wc.cell? ⟨gb239, 1, none⟩ = some (.string t237) := (blk_cell BK239.out 1).trans rfl
        have hfz63_0 := blk_frozen BK239.out 0
        have hfz63_1 := blk_frozen BK239.out 1
        go_upto_region 11 with (first | ((with_reducible refine gate_callee (f := 12) rfl ?_); refine goesL_ (some 63) rfl rfl Try.func12 (by kernel_rfl) rfl #[.agg #[.string t236, .string t237]] rfl (by (try simp only [List.map_toArray, List.map_cons, List.map_nil]); first | done | rfl | (simp only [List.length_drop, List.length_take]; rfl)) ?_; (with_reducible refine (disk_Read.calls kj7 t236 t237 t245 t246 t247 t248 t249 t250 _ A56.out).mono ?_); rintro e w64 ⟨rfl, hb⟩; refine ⟨_, rfl, ?_⟩; have n0_ := Aside0.mk (blk_below (g := gb225) (o := .cells #[.string t227, .string t228] 23 (0, 0)) (by (with_reducible repeat (first | refine blk_drewN ?_ _ | refine blk_drew ?_ | refine blk_alloc ?_ _)); exact BK225.out) hb); have n1_ := Aside0.mk (blk_below (g := gb226) (o := .cells #[.int .u64 a1_0, .int .u64 a1_1, .int .u64 a1_2, .int .u64 a1_3, .int .i64 a1_4] 26 (0, 0)) (by (with_reducible repeat (first | refine blk_drewN ?_ _ | refine blk_drew ?_ | refine blk_alloc ?_ _)); exact BK226.out) hb); have n2_ := Aside0.mk (blk_below (g := gb235) (o := .cells #[.int .u64 t229, .int .u64 t230, .int .u64 t231, .int .u64 t232, .int .i64 t233] 26 (0, 0)) (by (with_reducible repeat (first | refine blk_drewN ?_ _ | refine blk_drew ?_ | refine blk_alloc ?_ _)); exact BK235.out) hb); have n3_ := Aside0.mk (blk_below (g := gb239) (o := .cells #[.string t236, .string t237] 23 (0, 0)) (by (with_reducible repeat (first | refine blk_drewN ?_ _ | refine blk_drew ?_ | refine blk_alloc ?_ _)); exact BK239.out) hb); have n4_ := Aside0.mk (blk_below (g := gb243) (o := .cells #[.string t240, .string t241] 23 (0, 0)) (by (with_reducible repeat (first | refine blk_drewN ?_ _ | refine blk_drew ?_ | refine blk_alloc ?_ _)); exact BK243.out) hb); have n5_ := Aside0.mk (below_step (by repeat (first | (with_reducible first | exact HB.out | apply below_alloc | apply pw_below_drewN | apply below_drew1 | refine below_set ?_ GE225.out | refine below_set ?_ GE226.out | refine below_set ?_ GE235.out | refine below_set ?_ GE239.out | refine below_set ?_ GE243.out) | exact HB.out)) hb); clear BK225; clear BK226; clear BK235; clear BK239; clear BK243; clear HB; have BK225 := n0_; have BK226 := n1_; have BK235 := n2_; have BK239 := n3_; have BK243 := n4_; have HB := n5_; clear n0_ n1_ n2_ n3_ n4_ n5_; (try clear hb); (try clear hb2); (try clear hk); (try clear hi)) | ((with_reducible refine gate_dst (N := 13) rfl ?_); refine box_event ?hg (N := 13) ?hd (cs := #[.int .u64 0, .int .u64 0, .int .u64 0, .int .u64 0, .int .i64 0]) (t := 26) ?hr ?_; (case hd => rfl); (case hg => rfl); (case hr => first | (go_simp; done) | (go_simp; rfl)); intro gb251 hg w65 hbox hb; have n0_ := Aside0.mk (blk_below (g := gb225) (o := .cells #[.string t227, .string t228] 23 (0, 0)) (by (with_reducible repeat (first | refine blk_drewN ?_ _ | refine blk_drew ?_ | refine blk_alloc ?_ _)); exact BK225.out) hb); have n1_ := Aside0.mk (blk_below (g := gb226) (o := .cells #[.int .u64 a1_0, .int .u64 a1_1, .int .u64 a1_2, .int .u64 a1_3, .int .i64 a1_4] 26 (0, 0)) (by (with_reducible repeat (first | refine blk_drewN ?_ _ | refine blk_drew ?_ | refine blk_alloc ?_ _)); exact BK226.out) hb); have n2_ := Aside0.mk (blk_below (g := gb235) (o := .cells #[.int .u64 t229, .int .u64 t230, .int .u64 t231, .int .u64 t232, .int .i64 t233] 26 (0, 0)) (by (with_reducible repeat (first | refine blk_drewN ?_ _ | refine blk_drew ?_ | refine blk_alloc ?_ _)); exact BK235.out) hb); have n3_ := Aside0.mk (blk_below (g := gb239) (o := .cells #[.string t236, .string t237] 23 (0, 0)) (by (with_reducible repeat (first | refine blk_drewN ?_ _ | refine blk_drew ?_ | refine blk_alloc ?_ _)); exact BK239.out) hb); have n4_ := Aside0.mk (blk_below (g := gb243) (o := .cells #[.string t240, .string t241] 23 (0, 0)) (by (with_reducible repeat (first | refine blk_drewN ?_ _ | refine blk_drew ?_ | refine blk_alloc ?_ _)); exact BK243.out) hb); have n5_ := Aside0.mk (below_step (by repeat (first | (with_reducible first | exact HB.out | apply below_alloc | apply pw_below_drewN | apply below_drew1 | refine below_set ?_ GE225.out | refine below_set ?_ GE226.out | refine below_set ?_ GE235.out | refine below_set ?_ GE239.out | refine below_set ?_ GE243.out) | exact HB.out)) hb); have n6_ := Aside0.mk (hbox); have n7_ := Aside0.mk ((by rw [hg]; exact (below_size (by repeat (first | (with_reducible first | exact HB.out | apply below_alloc | apply pw_below_drewN | apply below_drew1 | refine below_set ?_ GE225.out | refine below_set ?_ GE226.out | refine below_set ?_ GE235.out | refine below_set ?_ GE239.out | refine below_set ?_ GE243.out) | exact HB.out))) : w.heap.size ≤ gb251)); have n8_ := Aside0.mk ((by rw [hg]; exact (below_size (by repeat (first | (with_reducible first | exact HB.out | apply below_alloc | apply pw_below_drewN | apply below_drew1 | refine below_set ?_ GE225.out | refine below_set ?_ GE226.out | refine below_set ?_ GE235.out | refine below_set ?_ GE239.out | refine below_set ?_ GE243.out) | exact HB.out))) : w.heap.size ≤ gb251)); have n9_ := Aside0.mk ((by rw [hg]; exact Nat.ne_of_lt (blk_lt (g := gb225) (o := .cells #[.string t227, .string t228] 23 (0, 0)) (by (with_reducible repeat (first | refine blk_drewN ?_ _ | refine blk_drew ?_ | refine blk_alloc ?_ _)); exact BK225.out)) : gb225 ≠ gb251)); have n10_ := Aside0.mk ((by rw [hg]; exact Nat.ne_of_gt (blk_lt (g := gb225) (o := .cells #[.string t227, .string t228] 23 (0, 0)) (by (with_reducible repeat (first | refine blk_drewN ?_ _ | refine blk_drew ?_ | refine blk_alloc ?_ _)); exact BK225.out)) : gb251 ≠ gb225)); have n11_ := Aside0.mk ((by rw [hg]; exact Nat.ne_of_lt (blk_lt (g := gb226) (o := .cells #[.int .u64 a1_0, .int .u64 a1_1, .int .u64 a1_2, .int .u64 a1_3, .int .i64 a1_4] 26 (0, 0)) (by (with_reducible repeat (first | refine blk_drewN ?_ _ | refine blk_drew ?_ | refine blk_alloc ?_ _)); exact BK226.out)) : gb226 ≠ gb251)); have n12_ := Aside0.mk ((by rw [hg]; exact Nat.ne_of_gt (blk_lt (g := gb226) (o := .cells #[.int .u64 a1_0, .int .u64 a1_1, .int .u64 a1_2, .int .u64 a1_3, .int .i64 a1_4] 26 (0, 0)) (by (with_reducible repeat (first | refine blk_drewN ?_ _ | refine blk_drew ?_ | refine blk_alloc ?_ _)); exact BK226.out)) : gb251 ≠ gb226)); have n13_ := Aside0.mk ((by rw [hg]; exact Nat.ne_of_lt (blk_lt (g := gb235) (o := .cells #[.int .u64 t229, .int .u64 t230, .int .u64 t231, .int .u64 t232, .int .i64 t233] 26 (0, 0)) (by (with_reducible repeat (first | refine blk_drewN ?_ _ | refine blk_drew ?_ | refine blk_alloc ?_ _)); exact BK235.out)) : gb235 ≠ gb251)); have n14_ := Aside0.mk ((by rw [hg]; exact Nat.ne_of_gt (blk_lt (g := gb235) (o := .cells #[.int .u64 t229, .int .u64 t230, .int .u64 t231, .int .u64 t232, .int .i64 t233] 26 (0, 0)) (by (with_reducible repeat (first | refine blk_drewN ?_ _ | refine blk_drew ?_ | refine blk_alloc ?_ _)); exact BK235.out)) : gb251 ≠ gb235)); have n15_ := Aside0.mk ((by rw [hg]; exact Nat.ne_of_lt (blk_lt (g := gb239) (o := .cells #[.string t236, .string t237] 23 (0, 0)) (by (with_reducible repeat (first | refine blk_drewN ?_ _ | refine blk_drew ?_ | refine blk_alloc ?_ _)); exact BK239.out)) : gb239 ≠ gb251)); have n16_ := Aside0.mk ((by rw [hg]; exact Nat.ne_of_gt (blk_lt (g := gb239) (o := .cells #[.string t236, .string t237] 23 (0, 0)) (by (with_reducible repeat (first | refine blk_drewN ?_ _ | refine blk_drew ?_ | refine blk_alloc ?_ _)); exact BK239.out)) : gb251 ≠ gb239)); have n17_ := Aside0.mk ((by rw [hg]; exact Nat.ne_of_lt (blk_lt (g := gb243) (o := .cells #[.string t240, .string t241] 23 (0, 0)) (by (with_reducible repeat (first | refine blk_drewN ?_ _ | refine blk_drew ?_ | refine blk_alloc ?_ _)); exact BK243.out)) : gb243 ≠ gb251)); have n18_ := Aside0.mk ((by rw [hg]; exact Nat.ne_of_gt (blk_lt (g := gb243) (o := .cells #[.string t240, .string t241] 23 (0, 0)) (by (with_reducible repeat (first | refine blk_drewN ?_ _ | refine blk_drew ?_ | refine blk_alloc ?_ _)); exact BK243.out)) : gb251 ≠ gb243)); clear BK225; clear BK226; clear BK235; clear BK239; clear BK243; clear HB; have BK225 := n0_; have BK226 := n1_; have BK235 := n2_; have BK239 := n3_; have BK243 := n4_; have HB := n5_; have BK251 := n6_; have GW251 := n7_; have GE251 := n8_; have NB225_251 := n9_; have NB251_225 := n10_; have NB226_251 := n11_; have NB251_226 := n12_; have NB235_251 := n13_; have NB251_235 := n14_; have NB239_251 := n15_; have NB251_239 := n16_; have NB243_251 := n17_; have NB251_243 := n18_; clear n0_ n1_ n2_ n3_ n4_ n5_ n6_ n7_ n8_ n9_ n10_ n11_ n12_ n13_ n14_ n15_ n16_ n17_ n18_; clear hb hbox hg; have hnb66 := NB251_225.out; have hnc66 := NB225_251.out; have hnb67 := NB251_226.out; have hnc67 := NB226_251.out; have hnb68 := NB251_235.out; have hnc68 := NB235_251.out; have hnb69 := NB251_239.out; have hnc69 := NB239_251.out; have hnb70 := NB251_243.out; have hnc70 := NB243_251.out; have hcz71_0 : w65.cell? ⟨gb251, 0, none⟩ = some (.int .u64 0) := (blk_cell BK251.out 0).trans rfl; have hcz71_1 : w65.cell? ⟨gb251, 1, none⟩ = some (.int .u64 0) := (blk_cell BK251.out 1).trans rfl; have hcz71_2 : w65.cell? ⟨gb251, 2, none⟩ = some (.int .u64 0) := (blk_cell BK251.out 2).trans rfl; have hcz71_3 : w65.cell? ⟨gb251, 3, none⟩ = some (.int .u64 0) := (blk_cell BK251.out 3).trans rfl; have hcz71_4 : w65.cell? ⟨gb251, 4, none⟩ = some (.int .i64 0) := (blk_cell BK251.out 4).trans rfl; have hfz71_0 := blk_frozen BK251.out 0; have hfz71_1 := blk_frozen BK251.out 1; have hfz71_2 := blk_frozen BK251.out 2; have hfz71_3 := blk_frozen BK251.out 3; have hfz71_4 := blk_frozen BK251.out 4; have hnb72 := NB243_225.out; have hnc72 := NB225_243.out; have hnb73 := NB243_226.out; have hnc73 := NB226_243.out; have hnb74 := NB243_235.out; have hnc74 := NB235_243.out; have hcz75_0 : w65.cell? ⟨gb243, 0, none⟩ = some (.string t240) := (blk_cell BK243.out 0).trans rfl; have hcz75_1 : w65.cell? ⟨gb243, 1, none⟩ = some (.string t241) := (blk_cell BK243.out 1).trans rfl; have hfz75_0 := blk_frozen BK243.out 0; have hfz75_1 := blk_frozen BK243.out 1) | ((with_reducible refine gate_callee (f := 12) rfl ?_); refine goesL_ (some 68) rfl rfl Try.func12 (by kernel_rfl) rfl #[.agg #[.string t240, .string t241]] rfl (by (try simp only [List.map_toArray, List.map_cons, List.map_nil]); first | done | rfl | (simp only [List.length_drop, List.length_take]; rfl)) ?_; (with_reducible refine (disk_Read.calls kj7 t240 t241 t252 t253 t254 t255 t256 t257 _ A57.out).mono ?_); rintro e w76 ⟨rfl, hb⟩; refine ⟨_, rfl, ?_⟩; have n0_ := Aside0.mk (blk_below (g := gb225) (o := .cells #[.string t227, .string t228] 23 (0, 0)) (by (with_reducible repeat (first | refine blk_drewN ?_ _ | refine blk_drew ?_ | refine blk_alloc ?_ _)); refine blk_far ?_ NB225_251.out _; (with_reducible repeat (first | refine blk_drewN ?_ _ | refine blk_drew ?_ | refine blk_alloc ?_ _)); refine blk_far ?_ NB225_251.out _; (with_reducible repeat (first | refine blk_drewN ?_ _ | refine blk_drew ?_ | refine blk_alloc ?_ _)); refine blk_far ?_ NB225_251.out _; (with_reducible repeat (first | refine blk_drewN ?_ _ | refine blk_drew ?_ | refine blk_alloc ?_ _)); refine blk_far ?_ NB225_251.out _; (with_reducible repeat (first | refine blk_drewN ?_ _ | refine blk_drew ?_ | refine blk_alloc ?_ _)); refine blk_far ?_ NB225_251.out _; (with_reducible repeat (first | refine blk_drewN ?_ _ | refine blk_drew ?_ | refine blk_alloc ?_ _)); exact BK225.out) hb); have n1_ := Aside0.mk (blk_below (g := gb226) (o := .cells #[.int .u64 a1_0, .int .u64 a1_1, .int .u64 a1_2, .int .u64 a1_3, .int .i64 a1_4] 26 (0, 0)) (by (with_reducible repeat (first | refine blk_drewN ?_ _ | refine blk_drew ?_ | refine blk_alloc ?_ _)); refine blk_far ?_ NB226_251.out _; (with_reducible repeat (first | refine blk_drewN ?_ _ | refine blk_drew ?_ | refine blk_alloc ?_ _)); refine blk_far ?_ NB226_251.out _; (with_reducible repeat (first | refine blk_drewN ?_ _ | refine blk_drew ?_ | refine blk_alloc ?_ _)); refine blk_far ?_ NB226_251.out _; (with_reducible repeat (first | refine blk_drewN ?_ _ | refine blk_drew ?_ | refine blk_alloc ?_ _)); refine blk_far ?_ NB226_251.out _; (with_reducible repeat (first | refine blk_drewN ?_ _ | refine blk_drew ?_ | refine blk_alloc ?_ _)); refine blk_far ?_ NB226_251.out _; (with_reducible repeat (first | refine blk_drewN ?_ _ | refine blk_drew ?_ | refine blk_alloc ?_ _)); exact BK226.out) hb); have n2_ := Aside0.mk (blk_below (g := gb235) (o := .cells #[.int .u64 t229, .int .u64 t230, .int .u64 t231, .int .u64 t232, .int .i64 t233] 26 (0, 0)) (by (with_reducible repeat (first | refine blk_drewN ?_ _ | refine blk_drew ?_ | refine blk_alloc ?_ _)); refine blk_far ?_ NB235_251.out _; (with_reducible repeat (first | refine blk_drewN ?_ _ | refine blk_drew ?_ | refine blk_alloc ?_ _)); refine blk_far ?_ NB235_251.out _; (with_reducible repeat (first | refine blk_drewN ?_ _ | refine blk_drew ?_ | refine blk_alloc ?_ _)); refine blk_far ?_ NB235_251.out _; (with_reducible repeat (first | refine blk_drewN ?_ _ | refine blk_drew ?_ | refine blk_alloc ?_ _)); refine blk_far ?_ NB235_251.out _; (with_reducible repeat (first | refine blk_drewN ?_ _ | refine blk_drew ?_ | refine blk_alloc ?_ _)); refine blk_far ?_ NB235_251.out _; (with_reducible repeat (first | refine blk_drewN ?_ _ | refine blk_drew ?_ | refine blk_alloc ?_ _)); exact BK235.out) hb); have n3_ := Aside0.mk (blk_below (g := gb239) (o := .cells #[.string t236, .string t237] 23 (0, 0)) (by (with_reducible repeat (first | refine blk_drewN ?_ _ | refine blk_drew ?_ | refine blk_alloc ?_ _)); refine blk_far ?_ NB239_251.out _; (with_reducible repeat (first | refine blk_drewN ?_ _ | refine blk_drew ?_ | refine blk_alloc ?_ _)); refine blk_far ?_ NB239_251.out _; (with_reducible repeat (first | refine blk_drewN ?_ _ | refine blk_drew ?_ | refine blk_alloc ?_ _)); refine blk_far ?_ NB239_251.out _; (with_reducible repeat (first | refine blk_drewN ?_ _ | refine blk_drew ?_ | refine blk_alloc ?_ _)); refine blk_far ?_ NB239_251.out _; (with_reducible repeat (first | refine blk_drewN ?_ _ | refine blk_drew ?_ | refine blk_alloc ?_ _)); refine blk_far ?_ NB239_251.out _; (with_reducible repeat (first | refine blk_drewN ?_ _ | refine blk_drew ?_ | refine blk_alloc ?_ _)); exact BK239.out) hb); have n4_ := Aside0.mk (blk_below (g := gb243) (o := .cells #[.string t240, .string t241] 23 (0, 0)) (by (with_reducible repeat (first | refine blk_drewN ?_ _ | refine blk_drew ?_ | refine blk_alloc ?_ _)); refine blk_far ?_ NB243_251.out _; (with_reducible repeat (first | refine blk_drewN ?_ _ | refine blk_drew ?_ | refine blk_alloc ?_ _)); refine blk_far ?_ NB243_251.out _; (with_reducible repeat (first | refine blk_drewN ?_ _ | refine blk_drew ?_ | refine blk_alloc ?_ _)); refine blk_far ?_ NB243_251.out _; (with_reducible repeat (first | refine blk_drewN ?_ _ | refine blk_drew ?_ | refine blk_alloc ?_ _)); refine blk_far ?_ NB243_251.out _; (with_reducible repeat (first | refine blk_drewN ?_ _ | refine blk_drew ?_ | refine blk_alloc ?_ _)); refine blk_far ?_ NB243_251.out _; (with_reducible repeat (first | refine blk_drewN ?_ _ | refine blk_drew ?_ | refine blk_alloc ?_ _)); exact BK243.out) hb); have n5_ := Aside0.mk (blk_below (g := gb251) (o := .cells #[.int .u64 t245, .int .u64 t246, .int .u64 t247, .int .u64 t248, .int .i64 t249] 26 (0, 0)) (by (with_reducible repeat (first | refine blk_drewN ?_ _ | refine blk_drew ?_ | refine blk_alloc ?_ _)); refine blk_put (cs := #[.int .u64 t245, .int .u64 t246, .int .u64 t247, .int .u64 t248, .int .i64 0]) ?_ 4 _ rfl; (with_reducible repeat (first | refine blk_drewN ?_ _ | refine blk_drew ?_ | refine blk_alloc ?_ _)); refine blk_put (cs := #[.int .u64 t245, .int .u64 t246, .int .u64 t247, .int .u64 0, .int .i64 0]) ?_ 3 _ rfl; (with_reducible repeat (first | refine blk_drewN ?_ _ | refine blk_drew ?_ | refine blk_alloc ?_ _)); refine blk_put (cs := #[.int .u64 t245, .int .u64 t246, .int .u64 0, .int .u64 0, .int .i64 0]) ?_ 2 _ rfl; (with_reducible repeat (first | refine blk_drewN ?_ _ | refine blk_drew ?_ | refine blk_alloc ?_ _)); refine blk_put (cs := #[.int .u64 t245, .int .u64 0, .int .u64 0, .int .u64 0, .int .i64 0]) ?_ 1 _ rfl; (with_reducible repeat (first | refine blk_drewN ?_ _ | refine blk_drew ?_ | refine blk_alloc ?_ _)); refine blk_put (cs := #[.int .u64 0, .int .u64 0, .int .u64 0, .int .u64 0, .int .i64 0]) ?_ 0 _ rfl; (with_reducible repeat (first | refine blk_drewN ?_ _ | refine blk_drew ?_ | refine blk_alloc ?_ _)); exact BK251.out) hb); have n6_ := Aside0.mk (below_step (by repeat (first | (with_reducible first | exact HB.out | apply below_alloc | apply pw_below_drewN | apply below_drew1 | refine below_set ?_ GE225.out | refine below_set ?_ GE226.out | refine below_set ?_ GE235.out | refine below_set ?_ GE239.out | refine below_set ?_ GE243.out | refine below_set ?_ GE251.out) | exact HB.out)) hb); clear BK225; clear BK226; clear BK235; clear BK239; clear BK243; clear BK251; clear HB; have BK225 := n0_; have BK226 := n1_; have BK235 := n2_; have BK239 := n3_; have BK243 := n4_; have BK251 := n5_; have HB := n6_; clear n0_ n1_ n2_ n3_ n4_ n5_ n6_; (try clear hb); (try clear hb2); (try clear hk); (try clear hi)) | ((with_reducible refine gate_dst (N := 15) rfl ?_); refine box_event ?hg (N := 15) ?hd (cs := #[.int .u64 0, .int .u64 0, .int .u64 0, .int .u64 0, .int .i64 0]) (t := 26) ?hr ?_; (case hd => rfl); (case hg => rfl); (case hr => first | (go_simp; done) | (go_simp; rfl)); intro gb258 hg w77 hbox hb; have n0_ := Aside0.mk (blk_below (g := gb225) (o := .cells #[.string t227, .string t228] 23 (0, 0)) (by (with_reducible repeat (first | refine blk_drewN ?_ _ | refine blk_drew ?_ | refine blk_alloc ?_ _)); exact BK225.out) hb); have n1_ := Aside0.mk (blk_below (g := gb226) (o := .cells #[.int .u64 a1_0, .int .u64 a1_1, .int .u64 a1_2, .int .u64 a1_3, .int .i64 a1_4] 26 (0, 0)) (by (with_reducible repeat (first | refine blk_drewN ?_ _ | refine blk_drew ?_ | refine blk_alloc ?_ _)); exact BK226.out) hb); have n2_ := Aside0.mk (blk_below (g := gb235) (o := .cells #[.int .u64 t229, .int .u64 t230, .int .u64 t231, .int .u64 t232, .int .i64 t233] 26 (0, 0)) (by (with_reducible repeat (first | refine blk_drewN ?_ _ | refine blk_drew ?_ | refine blk_alloc ?_ _)); exact BK235.out) hb); have n3_ := Aside0.mk (blk_below (g := gb239) (o := .cells #[.string t236, .string t237] 23 (0, 0)) (by (with_reducible repeat (first | refine blk_drewN ?_ _ | refine blk_drew ?_ | refine blk_alloc ?_ _)); exact BK239.out) hb); have n4_ := Aside0.mk (blk_below (g := gb243) (o := .cells #[.string t240, .string t241] 23 (0, 0)) (by (with_reducible repeat (first | refine blk_drewN ?_ _ | refine blk_drew ?_ | refine blk_alloc ?_ _)); exact BK243.out) hb); have n5_ := Aside0.mk (blk_below (g := gb251) (o := .cells #[.int .u64 t245, .int .u64 t246, .int .u64 t247, .int .u64 t248, .int .i64 t249] 26 (0, 0)) (by (with_reducible repeat (first | refine blk_drewN ?_ _ | refine blk_drew ?_ | refine blk_alloc ?_ _)); exact BK251.out) hb); have n6_ := Aside0.mk (below_step (by repeat (first | (with_reducible first | exact HB.out | apply below_alloc | apply pw_below_drewN | apply below_drew1 | refine below_set ?_ GE225.out | refine below_set ?_ GE226.out | refine below_set ?_ GE235.out | refine below_set ?_ GE239.out | refine below_set ?_ GE243.out | refine below_set ?_ GE251.out) | exact HB.out)) hb); have n7_ := Aside0.mk (hbox); have n8_ := Aside0.mk ((by rw [hg]; exact (below_size (by repeat (first | (with_reducible first | exact HB.out | apply below_alloc | apply pw_below_drewN | apply below_drew1 | refine below_set ?_ GE225.out | refine below_set ?_ GE226.out | refine below_set ?_ GE235.out | refine below_set ?_ GE239.out | refine below_set ?_ GE243.out | refine below_set ?_ GE251.out) | exact HB.out))) : w.heap.size ≤ gb258)); have n9_ := Aside0.mk ((by rw [hg]; exact (below_size (by repeat (first | (with_reducible first | exact HB.out | apply below_alloc | apply pw_below_drewN | apply below_drew1 | refine below_set ?_ GE225.out | refine below_set ?_ GE226.out | refine below_set ?_ GE235.out | refine below_set ?_ GE239.out | refine below_set ?_ GE243.out | refine below_set ?_ GE251.out) | exact HB.out))) : w.heap.size ≤ gb258)); have n10_ := Aside0.mk ((by rw [hg]; exact Nat.ne_of_lt (blk_lt (g := gb225) (o := .cells #[.string t227, .string t228] 23 (0, 0)) (by (with_reducible repeat (first | refine blk_drewN ?_ _ | refine blk_drew ?_ | refine blk_alloc ?_ _)); exact BK225.out)) : gb225 ≠ gb258)); have n11_ := Aside0.mk ((by rw [hg]; exact Nat.ne_of_gt (blk_lt (g := gb225) (o := .cells #[.string t227, .string t228] 23 (0, 0)) (by (with_reducible repeat (first | refine blk_drewN ?_ _ | refine blk_drew ?_ | refine blk_alloc ?_ _)); exact BK225.out)) : gb258 ≠ gb225)); have n12_ := Aside0.mk ((by rw [hg]; exact Nat.ne_of_lt (blk_lt (g := gb226) (o := .cells #[.int .u64 a1_0, .int .u64 a1_1, .int .u64 a1_2, .int .u64 a1_3, .int .i64 a1_4] 26 (0, 0)) (by (with_reducible repeat (first | refine blk_drewN ?_ _ | refine blk_drew ?_ | refine blk_alloc ?_ _)); exact BK226.out)) : gb226 ≠ gb258)); have n13_ := Aside0.mk ((by rw [hg]; exact Nat.ne_of_gt (blk_lt (g := gb226) (o := .cells #[.int .u64 a1_0, .int .u64 a1_1, .int .u64 a1_2, .int .u64 a1_3, .int .i64 a1_4] 26 (0, 0)) (by (with_reducible repeat (first | refine blk_drewN ?_ _ | refine blk_drew ?_ | refine blk_alloc ?_ _)); exact BK226.out)) : gb258 ≠ gb226)); have n14_ := Aside0.mk ((by rw [hg]; exact Nat.ne_of_lt (blk_lt (g := gb235) (o := .cells #[.int .u64 t229, .int .u64 t230, .int .u64 t231, .int .u64 t232, .int .i64 t233] 26 (0, 0)) (by (with_reducible repeat (first | refine blk_drewN ?_ _ | refine blk_drew ?_ | refine blk_alloc ?_ _)); exact BK235.out)) : gb235 ≠ gb258)); have n15_ := Aside0.mk ((by rw [hg]; exact Nat.ne_of_gt (blk_lt (g := gb235) (o := .cells #[.int .u64 t229, .int .u64 t230, .int .u64 t231, .int .u64 t232, .int .i64 t233] 26 (0, 0)) (by (with_reducible repeat (first | refine blk_drewN ?_ _ | refine blk_drew ?_ | refine blk_alloc ?_ _)); exact BK235.out)) : gb258 ≠ gb235)); have n16_ := Aside0.mk ((by rw [hg]; exact Nat.ne_of_lt (blk_lt (g := gb239) (o := .cells #[.string t236, .string t237] 23 (0, 0)) (by (with_reducible repeat (first | refine blk_drewN ?_ _ | refine blk_drew ?_ | refine blk_alloc ?_ _)); exact BK239.out)) : gb239 ≠ gb258)); have n17_ := Aside0.mk ((by rw [hg]; exact Nat.ne_of_gt (blk_lt (g := gb239) (o := .cells #[.string t236, .string t237] 23 (0, 0)) (by (with_reducible repeat (first | refine blk_drewN ?_ _ | refine blk_drew ?_ | refine blk_alloc ?_ _)); exact BK239.out)) : gb258 ≠ gb239)); have n18_ := Aside0.mk ((by rw [hg]; exact Nat.ne_of_lt (blk_lt (g := gb243) (o := .cells #[.string t240, .string t241] 23 (0, 0)) (by (with_reducible repeat (first | refine blk_drewN ?_ _ | refine blk_drew ?_ | refine blk_alloc ?_ _)); exact BK243.out)) : gb243 ≠ gb258)); have n19_ := Aside0.mk ((by rw [hg]; exact Nat.ne_of_gt (blk_lt (g := gb243) (o := .cells #[.string t240, .string t241] 23 (0, 0)) (by (with_reducible repeat (first | refine blk_drewN ?_ _ | refine blk_drew ?_ | refine blk_alloc ?_ _)); exact BK243.out)) : gb258 ≠ gb243)); have n20_ := Aside0.mk ((by rw [hg]; exact Nat.ne_of_lt (blk_lt (g := gb251) (o := .cells #[.int .u64 t245, .int .u64 t246, .int .u64 t247, .int .u64 t248, .int .i64 t249] 26 (0, 0)) (by (with_reducible repeat (first | refine blk_drewN ?_ _ | refine blk_drew ?_ | refine blk_alloc ?_ _)); exact BK251.out)) : gb251 ≠ gb258)); have n21_ := Aside0.mk ((by rw [hg]; exact Nat.ne_of_gt (blk_lt (g := gb251) (o := .cells #[.int .u64 t245, .int .u64 t246, .int .u64 t247, .int .u64 t248, .int .i64 t249] 26 (0, 0)) (by (with_reducible repeat (first | refine blk_drewN ?_ _ | refine blk_drew ?_ | refine blk_alloc ?_ _)); exact BK251.out)) : gb258 ≠ gb251)); clear BK225; clear BK226; clear BK235; clear BK239; clear BK243; clear BK251; clear HB; have BK225 := n0_; have BK226 := n1_; have BK235 := n2_; have BK239 := n3_; have BK243 := n4_; have BK251 := n5_; have HB := n6_; have BK258 := n7_; have GW258 := n8_; have GE258 := n9_; have NB225_258 := n10_; have NB258_225 := n11_; have NB226_258 := n12_; have NB258_226 := n13_; have NB235_258 := n14_; have NB258_235 := n15_; have NB239_258 := n16_; have NB258_239 := n17_; have NB243_258 := n18_; have NB258_243 := n19_; have NB251_258 := n20_; have NB258_251 := n21_; clear n0_ n1_ n2_ n3_ n4_ n5_ n6_ n7_ n8_ n9_ n10_ n11_ n12_ n13_ n14_ n15_ n16_ n17_ n18_ n19_ n20_ n21_; clear hb hbox hg; have hnb78 := NB258_225.out; have hnc78 := NB225_258.out; have hnb79 := NB258_226.out; have hnc79 := NB226_258.out; have hnb80 := NB258_235.out; have hnc80 := NB235_258.out; have hnb81 := NB258_239.out; have hnc81 := NB239_258.out; have hnb82 := NB258_243.out; have hnc82 := NB243_258.out; have hnb83 := NB258_251.out; have hnc83 := NB251_258.out; have hcz84_0 : w77.cell? ⟨gb258, 0, none⟩ = some (.int .u64 0) := (blk_cell BK258.out 0).trans rfl; have hcz84_1 : w77.cell? ⟨gb258, 1, none⟩ = some (.int .u64 0) := (blk_cell BK258.out 1).trans rfl; have hcz84_2 : w77.cell? ⟨gb258, 2, none⟩ = some (.int .u64 0) := (blk_cell BK258.out 2).trans rfl; have hcz84_3 : w77.cell? ⟨gb258, 3, none⟩ = some (.int .u64 0) := (blk_cell BK258.out 3).trans rfl; have hcz84_4 : w77.cell? ⟨gb258, 4, none⟩ = some (.int .i64 0) := (blk_cell BK258.out 4).trans rfl; have hfz84_0 := blk_frozen BK258.out 0; have hfz84_1 := blk_frozen BK258.out 1; have hfz84_2 := blk_frozen BK258.out 2; have hfz84_3 := blk_frozen BK258.out 3; have hfz84_4 := blk_frozen BK258.out 4; have hnb85 := NB226_225.out; have hnc85 := NB225_226.out; have hnb86 := NB226_235.out; have hnc86 := NB235_226.out; have hcz87_0 : w77.cell? ⟨gb226, 0, none⟩ = some (.int .u64 a1_0) := (blk_cell BK226.out 0).trans rfl; have hcz87_1 : w77.cell? ⟨gb226, 1, none⟩ = some (.int .u64 a1_1) := (blk_cell BK226.out 1).trans rfl; have hcz87_2 : w77.cell? ⟨gb226, 2, none⟩ = some (.int .u64 a1_2) := (blk_cell BK226.out 2).trans rfl; have hcz87_3 : w77.cell? ⟨gb226, 3, none⟩ = some (.int .u64 a1_3) := (blk_cell BK226.out 3).trans rfl; have hcz87_4 : w77.cell? ⟨gb226, 4, none⟩ = some (.int .i64 a1_4) := (blk_cell BK226.out 4).trans rfl; have hfz87_0 := blk_frozen BK226.out 0; have hfz87_1 := blk_frozen BK226.out 1; have hfz87_2 := blk_frozen BK226.out 2; have hfz87_3 := blk_frozen BK226.out 3; have hfz87_4 := blk_frozen BK226.out 4) | ((with_reducible refine gate_dst (N := 17) rfl ?_); refine box_event ?hg (N := 17) ?hd (cs := #[.int .u64 0, .int .u64 0, .int .u64 0, .int .u64 0, .int .i64 0]) (t := 26) ?hr ?_; (case hd => rfl); (case hg => rfl); (case hr => first | (go_simp; done) | (go_simp; rfl)); intro gb259 hg w88 hbox hb; have n0_ := Aside0.mk (blk_below (g := gb225) (o := .cells #[.string t227, .string t228] 23 (0, 0)) (by (with_reducible repeat (first | refine blk_drewN ?_ _ | refine blk_drew ?_ | refine blk_alloc ?_ _)); refine blk_far ?_ NB225_258.out _; (with_reducible repeat (first | refine blk_drewN ?_ _ | refine blk_drew ?_ | refine blk_alloc ?_ _)); refine blk_far ?_ NB225_258.out _; (with_reducible repeat (first | refine blk_drewN ?_ _ | refine blk_drew ?_ | refine blk_alloc ?_ _)); refine blk_far ?_ NB225_258.out _; (with_reducible repeat (first | refine blk_drewN ?_ _ | refine blk_drew ?_ | refine blk_alloc ?_ _)); refine blk_far ?_ NB225_258.out _; (with_reducible repeat (first | refine blk_drewN ?_ _ | refine blk_drew ?_ | refine blk_alloc ?_ _)); refine blk_far ?_ NB225_258.out _; (with_reducible repeat (first | refine blk_drewN ?_ _ | refine blk_drew ?_ | refine blk_alloc ?_ _)); exact BK225.out) hb); have n1_ := Aside0.mk (blk_below (g := gb226) (o := .cells #[.int .u64 a1_0, .int .u64 a1_1, .int .u64 a1_2, .int .u64 a1_3, .int .i64 a1_4] 26 (0, 0)) (by (with_reducible repeat (first | refine blk_drewN ?_ _ | refine blk_drew ?_ | refine blk_alloc ?_ _)); refine blk_far ?_ NB226_258.out _; (with_reducible repeat (first | refine blk_drewN ?_ _ | refine blk_drew ?_ | refine blk_alloc ?_ _)); refine blk_far ?_ NB226_258.out _; (with_reducible repeat (first | refine blk_drewN ?_ _ | refine blk_drew ?_ | refine blk_alloc ?_ _)); refine blk_far ?_ NB226_258.out _; (with_reducible repeat (first | refine blk_drewN ?_ _ | refine blk_drew ?_ | refine blk_alloc ?_ _)); refine blk_far ?_ NB226_258.out _; (with_reducible repeat (first | refine blk_drewN ?_ _ | refine blk_drew ?_ | refine blk_alloc ?_ _)); refine blk_far ?_ NB226_258.out _; (with_reducible repeat (first | refine blk_drewN ?_ _ | refine blk_drew ?_ | refine blk_alloc ?_ _)); exact BK226.out) hb); have n2_ := Aside0.mk (blk_below (g := gb235) (o := .cells #[.int .u64 t229, .int .u64 t230, .int .u64 t231, .int .u64 t232, .int .i64 t233] 26 (0, 0)) (by (with_reducible repeat (first | refine blk_drewN ?_ _ | refine blk_drew ?_ | refine blk_alloc ?_ _)); refine blk_far ?_ NB235_258.out _; (with_reducible repeat (first | refine blk_drewN ?_ _ | refine blk_drew ?_ | refine blk_alloc ?_ _)); refine blk_far ?_ NB235_258.out _; (with_reducible repeat (first | refine blk_drewN ?_ _ | refine blk_drew ?_ | refine blk_alloc ?_ _)); refine blk_far ?_ NB235_258.out _; (with_reducible repeat (first | refine blk_drewN ?_ _ | refine blk_drew ?_ | refine blk_alloc ?_ _)); refine blk_far ?_ NB235_258.out _; (with_reducible repeat (first | refine blk_drewN ?_ _ | refine blk_drew ?_ | refine blk_alloc ?_ _)); refine blk_far ?_ NB235_258.out _; (with_reducible repeat (first | refine blk_drewN ?_ _ | refine blk_drew ?_ | refine blk_alloc ?_ _)); exact BK235.out) hb); have n3_ := Aside0.mk (blk_below (g := gb239) (o := .cells #[.string t236, .string t237] 23 (0, 0)) (by (with_reducible repeat (first | refine blk_drewN ?_ _ | refine blk_drew ?_ | refine blk_alloc ?_ _)); refine blk_far ?_ NB239_258.out _; (with_reducible repeat (first | refine blk_drewN ?_ _ | refine blk_drew ?_ | refine blk_alloc ?_ _)); refine blk_far ?_ NB239_258.out _; (with_reducible repeat (first | refine blk_drewN ?_ _ | refine blk_drew ?_ | refine blk_alloc ?_ _)); refine blk_far ?_ NB239_258.out _; (with_reducible repeat (first | refine blk_drewN ?_ _ | refine blk_drew ?_ | refine blk_alloc ?_ _)); refine blk_far ?_ NB239_258.out _; (with_reducible repeat (first | refine blk_drewN ?_ _ | refine blk_drew ?_ | refine blk_alloc ?_ _)); refine blk_far ?_ NB239_258.out _; (with_reducible repeat (first | refine blk_drewN ?_ _ | refine blk_drew ?_ | refine blk_alloc ?_ _)); exact BK239.out) hb); have n4_ := Aside0.mk (blk_below (g := gb243) (o := .cells #[.string t240, .string t241] 23 (0, 0)) (by (with_reducible repeat (first | refine blk_drewN ?_ _ | refine blk_drew ?_ | refine blk_alloc ?_ _)); refine blk_far ?_ NB243_258.out _; (with_reducible repeat (first | refine blk_drewN ?_ _ | refine blk_drew ?_ | refine blk_alloc ?_ _)); refine blk_far ?_ NB243_258.out _; (with_reducible repeat (first | refine blk_drewN ?_ _ | refine blk_drew ?_ | refine blk_alloc ?_ _)); refine blk_far ?_ NB243_258.out _; (with_reducible repeat (first | refine blk_drewN ?_ _ | refine blk_drew ?_ | refine blk_alloc ?_ _)); refine blk_far ?_ NB243_258.out _; (with_reducible repeat (first | refine blk_drewN ?_ _ | refine blk_drew ?_ | refine blk_alloc ?_ _)); refine blk_far ?_ NB243_258.out _; (with_reducible repeat (first | refine blk_drewN ?_ _ | refine blk_drew ?_ | refine blk_alloc ?_ _)); exact BK243.out) hb); have n5_ := Aside0.mk (blk_below (g := gb251) (o := .cells #[.int .u64 t245, .int .u64 t246, .int .u64 t247, .int .u64 t248, .int .i64 t249] 26 (0, 0)) (by (with_reducible repeat (first | refine blk_drewN ?_ _ | refine blk_drew ?_ | refine blk_alloc ?_ _)); refine blk_far ?_ NB251_258.out _; (with_reducible repeat (first | refine blk_drewN ?_ _ | refine blk_drew ?_ | refine blk_alloc ?_ _)); refine blk_far ?_ NB251_258.out _; (with_reducible repeat (first | refine blk_drewN ?_ _ | refine blk_drew ?_ | refine blk_alloc ?_ _)); refine blk_far ?_ NB251_258.out _; (with_reducible repeat (first | refine blk_drewN ?_ _ | refine blk_drew ?_ | refine blk_alloc ?_ _)); refine blk_far ?_ NB251_258.out _; (with_reducible repeat (first | refine blk_drewN ?_ _ | refine blk_drew ?_ | refine blk_alloc ?_ _)); refine blk_far ?_ NB251_258.out _; (with_reducible repeat (first | refine blk_drewN ?_ _ | refine blk_drew ?_ | refine blk_alloc ?_ _)); exact BK251.out) hb); have n6_ := Aside0.mk (blk_below (g := gb258) (o := .cells #[.int .u64 t252, .int .u64 t253, .int .u64 t254, .int .u64 t255, .int .i64 t256] 26 (0, 0)) (by (with_reducible repeat (first | refine blk_drewN ?_ _ | refine blk_drew ?_ | refine blk_alloc ?_ _)); refine blk_put (cs := #[.int .u64 t252, .int .u64 t253, .int .u64 t254, .int .u64 t255, .int .i64 0]) ?_ 4 _ rfl; (with_reducible repeat (first | refine blk_drewN ?_ _ | refine blk_drew ?_ | refine blk_alloc ?_ _)); refine blk_put (cs := #[.int .u64 t252, .int .u64 t253, .int .u64 t254, .int .u64 0, .int .i64 0]) ?_ 3 _ rfl; (with_reducible repeat (first | refine blk_drewN ?_ _ | refine blk_drew ?_ | refine blk_alloc ?_ _)); refine blk_put (cs := #[.int .u64 t252, .int .u64 t253, .int .u64 0, .int .u64 0, .int .i64 0]) ?_ 2 _ rfl; (with_reducible repeat (first | refine blk_drewN ?_ _ | refine blk_drew ?_ | refine blk_alloc ?_ _)); refine blk_put (cs := #[.int .u64 t252, .int .u64 0, .int .u64 0, .int .u64 0, .int .i64 0]) ?_ 1 _ rfl; (with_reducible repeat (first | refine blk_drewN ?_ _ | refine blk_drew ?_ | refine blk_alloc ?_ _)); refine blk_put (cs := #[.int .u64 0, .int .u64 0, .int .u64 0, .int .u64 0, .int .i64 0]) ?_ 0 _ rfl; (with_reducible repeat (first | refine blk_drewN ?_ _ | refine blk_drew ?_ | refine blk_alloc ?_ _)); exact BK258.out) hb); have n7_ := Aside0.mk (below_step (by repeat (first | (with_reducible first | exact HB.out | apply below_alloc | apply pw_below_drewN | apply below_drew1 | refine below_set ?_ GE225.out | refine below_set ?_ GE226.out | refine below_set ?_ GE235.out | refine below_set ?_ GE239.out | refine below_set ?_ GE243.out | refine below_set ?_ GE251.out | refine below_set ?_ GE258.out) | exact HB.out)) hb); have n8_ := Aside0.mk (hbox); have n9_ := Aside0.mk ((by rw [hg]; exact (below_size (by repeat (first | (with_reducible first | exact HB.out | apply below_alloc | apply pw_below_drewN | apply below_drew1 | refine below_set ?_ GE225.out | refine below_set ?_ GE226.out | refine below_set ?_ GE235.out | refine below_set ?_ GE239.out | refine below_set ?_ GE243.out | refine below_set ?_ GE251.out | refine below_set ?_ GE258.out) | exact HB.out))) : w.heap.size ≤ gb259)); have n10_ := Aside0.mk ((by rw [hg]; exact (below_size (by repeat (first | (with_reducible first | exact HB.out | apply below_alloc | apply pw_below_drewN | apply below_drew1 | refine below_set ?_ GE225.out | refine below_set ?_ GE226.out | refine below_set ?_ GE235.out | refine below_set ?_ GE239.out | refine below_set ?_ GE243.out | refine below_set ?_ GE251.out | refine below_set ?_ GE258.out) | exact HB.out))) : w.heap.size ≤ gb259)); have n11_ := Aside0.mk ((by rw [hg]; exact Nat.ne_of_lt (blk_lt (g := gb225) (o := .cells #[.string t227, .string t228] 23 (0, 0)) (by (with_reducible repeat (first | refine blk_drewN ?_ _ | refine blk_drew ?_ | refine blk_alloc ?_ _)); refine blk_far ?_ NB225_258.out _; (with_reducible repeat (first | refine blk_drewN ?_ _ | refine blk_drew ?_ | refine blk_alloc ?_ _)); refine blk_far ?_ NB225_258.out _; (with_reducible repeat (first | refine blk_drewN ?_ _ | refine blk_drew ?_ | refine blk_alloc ?_ _)); refine blk_far ?_ NB225_258.out _; (with_reducible repeat (first | refine blk_drewN ?_ _ | refine blk_drew ?_ | refine blk_alloc ?_ _)); refine blk_far ?_ NB225_258.out _; (with_reducible repeat (first | refine blk_drewN ?_ _ | refine blk_drew ?_ | refine blk_alloc ?_ _)); refine blk_far ?_ NB225_258.out _; (with_reducible repeat (first | refine blk_drewN ?_ _ | refine blk_drew ?_ | refine blk_alloc ?_ _)); exact BK225.out)) : gb225 ≠ gb259)); have n12_ := Aside0.mk ((by rw [hg]; exact Nat.ne_of_gt (blk_lt (g := gb225) (o := .cells #[.string t227, .string t228] 23 (0, 0)) (by (with_reducible repeat (first | refine blk_drewN ?_ _ | refine blk_drew ?_ | refine blk_alloc ?_ _)); refine blk_far ?_ NB225_258.out _; (with_reducible repeat (first | refine blk_drewN ?_ _ | refine blk_drew ?_ | refine blk_alloc ?_ _)); refine blk_far ?_ NB225_258.out _; (with_reducible repeat (first | refine blk_drewN ?_ _ | refine blk_drew ?_ | refine blk_alloc ?_ _)); refine blk_far ?_ NB225_258.out _; (with_reducible repeat (first | refine blk_drewN ?_ _ | refine blk_drew ?_ | refine blk_alloc ?_ _)); refine blk_far ?_ NB225_258.out _; (with_reducible repeat (first | refine blk_drewN ?_ _ | refine blk_drew ?_ | refine blk_alloc ?_ _)); refine blk_far ?_ NB225_258.out _; (with_reducible repeat (first | refine blk_drewN ?_ _ | refine blk_drew ?_ | refine blk_alloc ?_ _)); exact BK225.out)) : gb259 ≠ gb225)); have n13_ := Aside0.mk ((by rw [hg]; exact Nat.ne_of_lt (blk_lt (g := gb226) (o := .cells #[.int .u64 a1_0, .int .u64 a1_1, .int .u64 a1_2, .int .u64 a1_3, .int .i64 a1_4] 26 (0, 0)) (by (with_reducible repeat (first | refine blk_drewN ?_ _ | refine blk_drew ?_ | refine blk_alloc ?_ _)); refine blk_far ?_ NB226_258.out _; (with_reducible repeat (first | refine blk_drewN ?_ _ | refine blk_drew ?_ | refine blk_alloc ?_ _)); refine blk_far ?_ NB226_258.out _; (with_reducible repeat (first | refine blk_drewN ?_ _ | refine blk_drew ?_ | refine blk_alloc ?_ _)); refine blk_far ?_ NB226_258.out _; (with_reducible repeat (first | refine blk_drewN ?_ _ | refine blk_drew ?_ | refine blk_alloc ?_ _)); refine blk_far ?_ NB226_258.out _; (with_reducible repeat (first | refine blk_drewN ?_ _ | refine blk_drew ?_ | refine blk_alloc ?_ _)); refine blk_far ?_ NB226_258.out _; (with_reducible repeat (first | refine blk_drewN ?_ _ | refine blk_drew ?_ | refine blk_alloc ?_ _)); exact BK226.out)) : gb226 ≠ gb259)); have n14_ := Aside0.mk ((by rw [hg]; exact Nat.ne_of_gt (blk_lt (g := gb226) (o := .cells #[.int .u64 a1_0, .int .u64 a1_1, .int .u64 a1_2, .int .u64 a1_3, .int .i64 a1_4] 26 (0, 0)) (by (with_reducible repeat (first | refine blk_drewN ?_ _ | refine blk_drew ?_ | refine blk_alloc ?_ _)); refine blk_far ?_ NB226_258.out _; (with_reducible repeat (first | refine blk_drewN ?_ _ | refine blk_drew ?_ | refine blk_alloc ?_ _)); refine blk_far ?_ NB226_258.out _; (with_reducible repeat (first | refine blk_drewN ?_ _ | refine blk_drew ?_ | refine blk_alloc ?_ _)); refine blk_far ?_ NB226_258.out _; (with_reducible repeat (first | refine blk_drewN ?_ _ | refine blk_drew ?_ | refine blk_alloc ?_ _)); refine blk_far ?_ NB226_258.out _; (with_reducible repeat (first | refine blk_drewN ?_ _ | refine blk_drew ?_ | refine blk_alloc ?_ _)); refine blk_far ?_ NB226_258.out _; (with_reducible repeat (first | refine blk_drewN ?_ _ | refine blk_drew ?_ | refine blk_alloc ?_ _)); exact BK226.out)) : gb259 ≠ gb226)); have n15_ := Aside0.mk ((by rw [hg]; exact Nat.ne_of_lt (blk_lt (g := gb235) (o := .cells #[.int .u64 t229, .int .u64 t230, .int .u64 t231, .int .u64 t232, .int .i64 t233] 26 (0, 0)) (by (with_reducible repeat (first | refine blk_drewN ?_ _ | refine blk_drew ?_ | refine blk_alloc ?_ _)); refine blk_far ?_ NB235_258.out _; (with_reducible repeat (first | refine blk_drewN ?_ _ | refine blk_drew ?_ | refine blk_alloc ?_ _)); refine blk_far ?_ NB235_258.out _; (with_reducible repeat (first | refine blk_drewN ?_ _ | refine blk_drew ?_ | refine blk_alloc ?_ _)); refine blk_far ?_ NB235_258.out _; (with_reducible repeat (first | refine blk_drewN ?_ _ | refine blk_drew ?_ | refine blk_alloc ?_ _)); refine blk_far ?_ NB235_258.out _; (with_reducible repeat (first | refine blk_drewN ?_ _ | refine blk_drew ?_ | refine blk_alloc ?_ _)); refine blk_far ?_ NB235_258.out _; (with_reducible repeat (first | refine blk_drewN ?_ _ | refine blk_drew ?_ | refine blk_alloc ?_ _)); exact BK235.out)) : gb235 ≠ gb259)); have n16_ := Aside0.mk ((by rw [hg]; exact Nat.ne_of_gt (blk_lt (g := gb235) (o := .cells #[.int .u64 t229, .int .u64 t230, .int .u64 t231, .int .u64 t232, .int .i64 t233] 26 (0, 0)) (by (with_reducible repeat (first | refine blk_drewN ?_ _ | refine blk_drew ?_ | refine blk_alloc ?_ _)); refine blk_far ?_ NB235_258.out _; (with_reducible repeat (first | refine blk_drewN ?_ _ | refine blk_drew ?_ | refine blk_alloc ?_ _)); refine blk_far ?_ NB235_258.out _; (with_reducible repeat (first | refine blk_drewN ?_ _ | refine blk_drew ?_ | refine blk_alloc ?_ _)); refine blk_far ?_ NB235_258.out _; (with_reducible repeat (first | refine blk_drewN ?_ _ | refine blk_drew ?_ | refine blk_alloc ?_ _)); refine blk_far ?_ NB235_258.out _; (with_reducible repeat (first | refine blk_drewN ?_ _ | refine blk_drew ?_ | refine blk_alloc ?_ _)); refine blk_far ?_ NB235_258.out _; (with_reducible repeat (first | refine blk_drewN ?_ _ | refine blk_drew ?_ | refine blk_alloc ?_ _)); exact BK235.out)) : gb259 ≠ gb235)); have n17_ := Aside0.mk ((by rw [hg]; exact Nat.ne_of_lt (blk_lt (g := gb239) (o := .cells #[.string t236, .string t237] 23 (0, 0)) (by (with_reducible repeat (first | refine blk_drewN ?_ _ | refine blk_drew ?_ | refine blk_alloc ?_ _)); refine blk_far ?_ NB239_258.out _; (with_reducible repeat (first | refine blk_drewN ?_ _ | refine blk_drew ?_ | refine blk_alloc ?_ _)); refine blk_far ?_ NB239_258.out _; (with_reducible repeat (first | refine blk_drewN ?_ _ | refine blk_drew ?_ | refine blk_alloc ?_ _)); refine blk_far ?_ NB239_258.out _; (with_reducible repeat (first | refine blk_drewN ?_ _ | refine blk_drew ?_ | refine blk_alloc ?_ _)); refine blk_far ?_ NB239_258.out _; (with_reducible repeat (first | refine blk_drewN ?_ _ | refine blk_drew ?_ | refine blk_alloc ?_ _)); refine blk_far ?_ NB239_258.out _; (with_reducible repeat (first | refine blk_drewN ?_ _ | refine blk_drew ?_ | refine blk_alloc ?_ _)); exact BK239.out)) : gb239 ≠ gb259)); have n18_ := Aside0.mk ((by rw [hg]; exact Nat.ne_of_gt (blk_lt (g := gb239) (o := .cells #[.string t236, .string t237] 23 (0, 0)) (by (with_reducible repeat (first | refine blk_drewN ?_ _ | refine blk_drew ?_ | refine blk_alloc ?_ _)); refine blk_far ?_ NB239_258.out _; (with_reducible repeat (first | refine blk_drewN ?_ _ | refine blk_drew ?_ | refine blk_alloc ?_ _)); refine blk_far ?_ NB239_258.out _; (with_reducible repeat (first | refine blk_drewN ?_ _ | refine blk_drew ?_ | refine blk_alloc ?_ _)); refine blk_far ?_ NB239_258.out _; (with_reducible repeat (first | refine blk_drewN ?_ _ | refine blk_drew ?_ | refine blk_alloc ?_ _)); refine blk_far ?_ NB239_258.out _; (with_reducible repeat (first | refine blk_drewN ?_ _ | refine blk_drew ?_ | refine blk_alloc ?_ _)); refine blk_far ?_ NB239_258.out _; (with_reducible repeat (first | refine blk_drewN ?_ _ | refine blk_drew ?_ | refine blk_alloc ?_ _)); exact BK239.out)) : gb259 ≠ gb239)); have n19_ := Aside0.mk ((by rw [hg]; exact Nat.ne_of_lt (blk_lt (g := gb243) (o := .cells #[.string t240, .string t241] 23 (0, 0)) (by (with_reducible repeat (first | refine blk_drewN ?_ _ | refine blk_drew ?_ | refine blk_alloc ?_ _)); refine blk_far ?_ NB243_258.out _; (with_reducible repeat (first | refine blk_drewN ?_ _ | refine blk_drew ?_ | refine blk_alloc ?_ _)); refine blk_far ?_ NB243_258.out _; (with_reducible repeat (first | refine blk_drewN ?_ _ | refine blk_drew ?_ | refine blk_alloc ?_ _)); refine blk_far ?_ NB243_258.out _; (with_reducible repeat (first | refine blk_drewN ?_ _ | refine blk_drew ?_ | refine blk_alloc ?_ _)); refine blk_far ?_ NB243_258.out _; (with_reducible repeat (first | refine blk_drewN ?_ _ | refine blk_drew ?_ | refine blk_alloc ?_ _)); refine blk_far ?_ NB243_258.out _; (with_reducible repeat (first | refine blk_drewN ?_ _ | refine blk_drew ?_ | refine blk_alloc ?_ _)); exact BK243.out)) : gb243 ≠ gb259)); have n20_ := Aside0.mk ((by rw [hg]; exact Nat.ne_of_gt (blk_lt (g := gb243) (o := .cells #[.string t240, .string t241] 23 (0, 0)) (by (with_reducible repeat (first | refine blk_drewN ?_ _ | refine blk_drew ?_ | refine blk_alloc ?_ _)); refine blk_far ?_ NB243_258.out _; (with_reducible repeat (first | refine blk_drewN ?_ _ | refine blk_drew ?_ | refine blk_alloc ?_ _)); refine blk_far ?_ NB243_258.out _; (with_reducible repeat (first | refine blk_drewN ?_ _ | refine blk_drew ?_ | refine blk_alloc ?_ _)); refine blk_far ?_ NB243_258.out _; (with_reducible repeat (first | refine blk_drewN ?_ _ | refine blk_drew ?_ | refine blk_alloc ?_ _)); refine blk_far ?_ NB243_258.out _; (with_reducible repeat (first | refine blk_drewN ?_ _ | refine blk_drew ?_ | refine blk_alloc ?_ _)); refine blk_far ?_ NB243_258.out _; (with_reducible repeat (first | refine blk_drewN ?_ _ | refine blk_drew ?_ | refine blk_alloc ?_ _)); exact BK243.out)) : gb259 ≠ gb243)); have n21_ := Aside0.mk ((by rw [hg]; exact Nat.ne_of_lt (blk_lt (g := gb251) (o := .cells #[.int .u64 t245, .int .u64 t246, .int .u64 t247, .int .u64 t248, .int .i64 t249] 26 (0, 0)) (by (with_reducible repeat (first | refine blk_drewN ?_ _ | refine blk_drew ?_ | refine blk_alloc ?_ _)); refine blk_far ?_ NB251_258.out _; (with_reducible repeat (first | refine blk_drewN ?_ _ | refine blk_drew ?_ | refine blk_alloc ?_ _)); refine blk_far ?_ NB251_258.out _; (with_reducible repeat (first | refine blk_drewN ?_ _ | refine blk_drew ?_ | refine blk_alloc ?_ _)); refine blk_far ?_ NB251_258.out _; (with_reducible repeat (first | refine blk_drewN ?_ _ | refine blk_drew ?_ | refine blk_alloc ?_ _)); refine blk_far ?_ NB251_258.out _; (with_reducible repeat (first | refine blk_drewN ?_ _ | refine blk_drew ?_ | refine blk_alloc ?_ _)); refine blk_far ?_ NB251_258.out _; (with_reducible repeat (first | refine blk_drewN ?_ _ | refine blk_drew ?_ | refine blk_alloc ?_ _)); exact BK251.out)) : gb251 ≠ gb259)); have n22_ := Aside0.mk ((by rw [hg]; exact Nat.ne_of_gt (blk_lt (g := gb251) (o := .cells #[.int .u64 t245, .int .u64 t246, .int .u64 t247, .int .u64 t248, .int .i64 t249] 26 (0, 0)) (by (with_reducible repeat (first | refine blk_drewN ?_ _ | refine blk_drew ?_ | refine blk_alloc ?_ _)); refine blk_far ?_ NB251_258.out _; (with_reducible repeat (first | refine blk_drewN ?_ _ | refine blk_drew ?_ | refine blk_alloc ?_ _)); refine blk_far ?_ NB251_258.out _; (with_reducible repeat (first | refine blk_drewN ?_ _ | refine blk_drew ?_ | refine blk_alloc ?_ _)); refine blk_far ?_ NB251_258.out _; (with_reducible repeat (first | refine blk_drewN ?_ _ | refine blk_drew ?_ | refine blk_alloc ?_ _)); refine blk_far ?_ NB251_258.out _; (with_reducible repeat (first | refine blk_drewN ?_ _ | refine blk_drew ?_ | refine blk_alloc ?_ _)); refine blk_far ?_ NB251_258.out _; (with_reducible repeat (first | refine blk_drewN ?_ _ | refine blk_drew ?_ | refine blk_alloc ?_ _)); exact BK251.out)) : gb259 ≠ gb251)); have n23_ := Aside0.mk ((by rw [hg]; exact Nat.ne_of_lt (blk_lt (g := gb258) (o := .cells #[.int .u64 t252, .int .u64 t253, .int .u64 t254, .int .u64 t255, .int .i64 t256] 26 (0, 0)) (by (with_reducible repeat (first | refine blk_drewN ?_ _ | refine blk_drew ?_ | refine blk_alloc ?_ _)); refine blk_put (cs := #[.int .u64 t252, .int .u64 t253, .int .u64 t254, .int .u64 t255, .int .i64 0]) ?_ 4 _ rfl; (with_reducible repeat (first | refine blk_drewN ?_ _ | refine blk_drew ?_ | refine blk_alloc ?_ _)); refine blk_put (cs := #[.int .u64 t252, .int .u64 t253, .int .u64 t254, .int .u64 0, .int .i64 0]) ?_ 3 _ rfl; (with_reducible repeat (first | refine blk_drewN ?_ _ | refine blk_drew ?_ | refine blk_alloc ?_ _)); refine blk_put (cs := #[.int .u64 t252, .int .u64 t253, .int .u64 0, .int .u64 0, .int .i64 0]) ?_ 2 _ rfl; (with_reducible repeat (first | refine blk_drewN ?_ _ | refine blk_drew ?_ | refine blk_alloc ?_ _)); refine blk_put (cs := #[.int .u64 t252, .int .u64 0, .int .u64 0, .int .u64 0, .int .i64 0]) ?_ 1 _ rfl; (with_reducible repeat (first | refine blk_drewN ?_ _ | refine blk_drew ?_ | refine blk_alloc ?_ _)); refine blk_put (cs := #[.int .u64 0, .int .u64 0, .int .u64 0, .int .u64 0, .int .i64 0]) ?_ 0 _ rfl; (with_reducible repeat (first | refine blk_drewN ?_ _ | refine blk_drew ?_ | refine blk_alloc ?_ _)); exact BK258.out)) : gb258 ≠ gb259)); have n24_ := Aside0.mk ((by rw [hg]; exact Nat.ne_of_gt (blk_lt (g := gb258) (o := .cells #[.int .u64 t252, .int .u64 t253, .int .u64 t254, .int .u64 t255, .int .i64 t256] 26 (0, 0)) (by (with_reducible repeat (first | refine blk_drewN ?_ _ | refine blk_drew ?_ | refine blk_alloc ?_ _)); refine blk_put (cs := #[.int .u64 t252, .int .u64 t253, .int .u64 t254, .int .u64 t255, .int .i64 0]) ?_ 4 _ rfl; (with_reducible repeat (first | refine blk_drewN ?_ _ | refine blk_drew ?_ | refine blk_alloc ?_ _)); refine blk_put (cs := #[.int .u64 t252, .int .u64 t253, .int .u64 t254, .int .u64 0, .int .i64 0]) ?_ 3 _ rfl; (with_reducible repeat (first | refine blk_drewN ?_ _ | refine blk_drew ?_ | refine blk_alloc ?_ _)); refine blk_put (cs := #[.int .u64 t252, .int .u64 t253, .int .u64 0, .int .u64 0, .int .i64 0]) ?_ 2 _ rfl; (with_reducible repeat (first | refine blk_drewN ?_ _ | refine blk_drew ?_ | refine blk_alloc ?_ _)); refine blk_put (cs := #[.int .u64 t252, .int .u64 0, .int .u64 0, .int .u64 0, .int .i64 0]) ?_ 1 _ rfl; (with_reducible repeat (first | refine blk_drewN ?_ _ | refine blk_drew ?_ | refine blk_alloc ?_ _)); refine blk_put (cs := #[.int .u64 0, .int .u64 0, .int .u64 0, .int .u64 0, .int .i64 0]) ?_ 0 _ rfl; (with_reducible repeat (first | refine blk_drewN ?_ _ | refine blk_drew ?_ | refine blk_alloc ?_ _)); exact BK258.out)) : gb259 ≠ gb258)); clear BK225; clear BK226; clear BK235; clear BK239; clear BK243; clear BK251; clear BK258; clear HB; have BK225 := n0_; have BK226 := n1_; have BK235 := n2_; have BK239 := n3_; have BK243 := n4_; have BK251 := n5_; have BK258 := n6_; have HB := n7_; have BK259 := n8_; have GW259 := n9_; have GE259 := n10_; have NB225_259 := n11_; have NB259_225 := n12_; have NB226_259 := n13_; have NB259_226 := n14_; have NB235_259 := n15_; have NB259_235 := n16_; have NB239_259 := n17_; have NB259_239 := n18_; have NB243_259 := n19_; have NB259_243 := n20_; have NB251_259 := n21_; have NB259_251 := n22_; have NB258_259 := n23_; have NB259_258 := n24_; clear n0_ n1_ n2_ n3_ n4_ n5_ n6_ n7_ n8_ n9_ n10_ n11_ n12_ n13_ n14_ n15_ n16_ n17_ n18_ n19_ n20_ n21_ n22_ n23_ n24_; clear hb hbox hg; have hnb89 := NB259_225.out; have hnc89 := NB225_259.out; have hnb90 := NB259_226.out; have hnc90 := NB226_259.out; have hnb91 := NB259_235.out; have hnc91 := NB235_259.out; have hnb92 := NB259_239.out; have hnc92 := NB239_259.out; have hnb93 := NB259_243.out; have hnc93 := NB243_259.out; have hnb94 := NB259_251.out; have hnc94 := NB251_259.out; have hnb95 := NB259_258.out; have hnc95 := NB258_259.out; have hcz96_0 : w88.cell? ⟨gb259, 0, none⟩ = some (.int .u64 0) := (blk_cell BK259.out 0).trans rfl; have hcz96_1 : w88.cell? ⟨gb259, 1, none⟩ = some (.int .u64 0) := (blk_cell BK259.out 1).trans rfl; have hcz96_2 : w88.cell? ⟨gb259, 2, none⟩ = some (.int .u64 0) := (blk_cell BK259.out 2).trans rfl; have hcz96_3 : w88.cell? ⟨gb259, 3, none⟩ = some (.int .u64 0) := (blk_cell BK259.out 3).trans rfl; have hcz96_4 : w88.cell? ⟨gb259, 4, none⟩ = some (.int .i64 0) := (blk_cell BK259.out 4).trans rfl; have hfz96_0 := blk_frozen BK259.out 0; have hfz96_1 := blk_frozen BK259.out 1; have hfz96_2 := blk_frozen BK259.out 2; have hfz96_3 := blk_frozen BK259.out 3; have hfz96_4 := blk_frozen BK259.out 4; have hnb97 := NB235_225.out; have hnc97 := NB225_235.out; have hcz98_0 : w88.cell? ⟨gb235, 0, none⟩ = some (.int .u64 t229) := (blk_cell BK235.out 0).trans rfl; have hcz98_1 : w88.cell? ⟨gb235, 1, none⟩ = some (.int .u64 t230) := (blk_cell BK235.out 1).trans rfl; have hcz98_2 : w88.cell? ⟨gb235, 2, none⟩ = some (.int .u64 t231) := (blk_cell BK235.out 2).trans rfl; have hcz98_3 : w88.cell? ⟨gb235, 3, none⟩ = some (.int .u64 t232) := (blk_cell BK235.out 3).trans rfl; have hcz98_4 : w88.cell? ⟨gb235, 4, none⟩ = some (.int .i64 t233) := (blk_cell BK235.out 4).trans rfl; have hfz98_0 := blk_frozen BK235.out 0; have hfz98_1 := blk_frozen BK235.out 1; have hfz98_2 := blk_frozen BK235.out 2; have hfz98_3 := blk_frozen BK235.out 3; have hfz98_4 := blk_frozen BK235.out 4))
        (try simp only [Act.put, List.setIfInBounds_toArray, List.set_cons_zero, List.set_cons_succ])
        go_cut [82] (fun v82 wc => ∃ (kq : Nat) (x82_57 : Bool), v82 = .bool x82_57 ∧ Aside0 (tattlelaw16_DiskTears.j1 kq t234 t250 x82_57 t229 t230 t231 t232 t233 t236 t237 t240 t241 t245 t246 t247 t248 t249 (IntKind.u64.wrap (t229 + 1)) a1_1 a1_2 a1_3 a1_4 = some r) ∧ Aside0 (kq ≤ kj7) ∧ Aside0 (wc.heap[gb225]? = some (.cells #[.string t227, .string t228] 23 (0, 0))) ∧ Aside0 (wc.heap[gb226]? = some (.cells #[.int .u64 a1_0, .int .u64 a1_1, .int .u64 a1_2, .int .u64 a1_3, .int .i64 a1_4] 26 (0, 0))) ∧ Aside0 (wc.heap[gb235]? = some (.cells #[.int .u64 t229, .int .u64 t230, .int .u64 t231, .int .u64 t232, .int .i64 t233] 26 (0, 0))) ∧ Aside0 (wc.heap[gb239]? = some (.cells #[.string t236, .string t237] 23 (0, 0))) ∧ Aside0 (wc.heap[gb243]? = some (.cells #[.string t240, .string t241] 23 (0, 0))) ∧ Aside0 (wc.heap[gb251]? = some (.cells #[.int .u64 t245, .int .u64 t246, .int .u64 t247, .int .u64 t248, .int .i64 t249] 26 (0, 0))) ∧ Aside0 (wc.heap[gb258]? = some (.cells #[.int .u64 t252, .int .u64 t253, .int .u64 t254, .int .u64 t255, .int .i64 t256] 26 (0, 0))) ∧ Aside0 (wc.heap[gb259]? = some (.cells #[.int .u64 (IntKind.u64.wrap (t229 + 1)), .int .u64 a1_1, .int .u64 a1_2, .int .u64 a1_3, .int .i64 a1_4] 26 (0, 0))) ∧ Aside0 (Below w.heap.size w wc))
        case first =>
          have H := HC58.out
          clear HC58
          by_cases c99 : (!(t252 == (IntKind.u64.wrap (t229 + 1))) || (!(t253 == a1_1) || (!(t254 == a1_2) || (!(t255 == a1_3) || (!(t256 == a1_4)))))) = true
          · rw [if_pos c99] at H
            have c99b0 : (!(t252 == (IntKind.u64.wrap (t229 + 1))) || (!(t253 == a1_1) || (!(t254 == a1_2) || (!(t255 == a1_3) || (!(t256 == a1_4)))))) = true := c99
            clear c99
            (first | rw [c99b0] | (simp only [i64_w, i32_w]; rw [c99b0]) | skip)
            have H' := Aside0.mk H
            clear H
            have hnb100 := NB258_225.out
            have hnc100 := NB225_258.out
            have hnb101 := NB258_226.out
            have hnc101 := NB226_258.out
            have hnb102 := NB258_235.out
            have hnc102 := NB235_258.out
            have hnb103 := NB258_239.out
            have hnc103 := NB239_258.out
            have hnb104 := NB258_243.out
            have hnc104 := NB243_258.out
            have hnb105 := NB258_251.out
            have hnc105 := NB251_258.out
            have hnb106 := NB258_259.out
            have hnc106 := NB259_258.out
            have hcz107_0 : w88.cell? ⟨gb258, 0, none⟩ = some (.int .u64 t252) := (blk_cell BK258.out 0).trans rfl
            have hcz107_1 : w88.cell? ⟨gb258, 1, none⟩ = some (.int .u64 t253) := (blk_cell BK258.out 1).trans rfl
            have hcz107_2 : w88.cell? ⟨gb258, 2, none⟩ = some (.int .u64 t254) := (blk_cell BK258.out 2).trans rfl
            have hcz107_3 : w88.cell? ⟨gb258, 3, none⟩ = some (.int .u64 t255) := (blk_cell BK258.out 3).trans rfl
            have hcz107_4 : w88.cell? ⟨gb258, 4, none⟩ = some (.int .i64 t256) := (blk_cell BK258.out 4).trans rfl
            have hfz107_0 := blk_frozen BK258.out 0
            have hfz107_1 := blk_frozen BK258.out 1
            have hfz107_2 := blk_frozen BK258.out 2
            have hfz107_3 := blk_frozen BK258.out 3
            have hfz107_4 := blk_frozen BK258.out 4
            have hnb108 := NB259_225.out
            have hnc108 := NB225_259.out
            have hnb109 := NB259_226.out
            have hnc109 := NB226_259.out
            have hnb110 := NB259_235.out
            have hnc110 := NB235_259.out
            have hnb111 := NB259_239.out
            have hnc111 := NB239_259.out
            have hnb112 := NB259_243.out
            have hnc112 := NB243_259.out
            have hnb113 := NB259_251.out
            have hnc113 := NB251_259.out
            have hcz114_0 : w88.cell? ⟨gb259, 0, none⟩ = some (.int .u64 0) := (blk_cell BK259.out 0).trans rfl
            have hcz114_1 : w88.cell? ⟨gb259, 1, none⟩ = some (.int .u64 0) := (blk_cell BK259.out 1).trans rfl
            have hcz114_2 : w88.cell? ⟨gb259, 2, none⟩ = some (.int .u64 0) := (blk_cell BK259.out 2).trans rfl
            have hcz114_3 : w88.cell? ⟨gb259, 3, none⟩ = some (.int .u64 0) := (blk_cell BK259.out 3).trans rfl
            have hcz114_4 : w88.cell? ⟨gb259, 4, none⟩ = some (.int .i64 0) := (blk_cell BK259.out 4).trans rfl
            have hfz114_0 := blk_frozen BK259.out 0
            have hfz114_1 := blk_frozen BK259.out 1
            have hfz114_2 := blk_frozen BK259.out 2
            have hfz114_3 := blk_frozen BK259.out 3
            have hfz114_4 := blk_frozen BK259.out 4
            go_wp2
            go_meet
            case rel => exact ⟨_, (true), (by first | rfl | (simp; done) | (simp [*]; done)), H', ⟨by have := HJ7.out; first | omega | exact Nat.le_refl _⟩, ⟨by (with_reducible repeat (first | refine blk_drewN ?_ _ | refine blk_drew ?_ | refine blk_alloc ?_ _)); refine blk_far ?_ NB225_259.out _; (with_reducible repeat (first | refine blk_drewN ?_ _ | refine blk_drew ?_ | refine blk_alloc ?_ _)); refine blk_far ?_ NB225_259.out _; (with_reducible repeat (first | refine blk_drewN ?_ _ | refine blk_drew ?_ | refine blk_alloc ?_ _)); refine blk_far ?_ NB225_259.out _; (with_reducible repeat (first | refine blk_drewN ?_ _ | refine blk_drew ?_ | refine blk_alloc ?_ _)); refine blk_far ?_ NB225_259.out _; (with_reducible repeat (first | refine blk_drewN ?_ _ | refine blk_drew ?_ | refine blk_alloc ?_ _)); refine blk_far ?_ NB225_259.out _; (with_reducible repeat (first | refine blk_drewN ?_ _ | refine blk_drew ?_ | refine blk_alloc ?_ _)); refine blk_far ?_ NB225_259.out _; (with_reducible repeat (first | refine blk_drewN ?_ _ | refine blk_drew ?_ | refine blk_alloc ?_ _)); exact BK225.out⟩, ⟨by (with_reducible repeat (first | refine blk_drewN ?_ _ | refine blk_drew ?_ | refine blk_alloc ?_ _)); refine blk_far ?_ NB226_259.out _; (with_reducible repeat (first | refine blk_drewN ?_ _ | refine blk_drew ?_ | refine blk_alloc ?_ _)); refine blk_far ?_ NB226_259.out _; (with_reducible repeat (first | refine blk_drewN ?_ _ | refine blk_drew ?_ | refine blk_alloc ?_ _)); refine blk_far ?_ NB226_259.out _; (with_reducible repeat (first | refine blk_drewN ?_ _ | refine blk_drew ?_ | refine blk_alloc ?_ _)); refine blk_far ?_ NB226_259.out _; (with_reducible repeat (first | refine blk_drewN ?_ _ | refine blk_drew ?_ | refine blk_alloc ?_ _)); refine blk_far ?_ NB226_259.out _; (with_reducible repeat (first | refine blk_drewN ?_ _ | refine blk_drew ?_ | refine blk_alloc ?_ _)); refine blk_far ?_ NB226_259.out _; (with_reducible repeat (first | refine blk_drewN ?_ _ | refine blk_drew ?_ | refine blk_alloc ?_ _)); exact BK226.out⟩, ⟨by (with_reducible repeat (first | refine blk_drewN ?_ _ | refine blk_drew ?_ | refine blk_alloc ?_ _)); refine blk_far ?_ NB235_259.out _; (with_reducible repeat (first | refine blk_drewN ?_ _ | refine blk_drew ?_ | refine blk_alloc ?_ _)); refine blk_far ?_ NB235_259.out _; (with_reducible repeat (first | refine blk_drewN ?_ _ | refine blk_drew ?_ | refine blk_alloc ?_ _)); refine blk_far ?_ NB235_259.out _; (with_reducible repeat (first | refine blk_drewN ?_ _ | refine blk_drew ?_ | refine blk_alloc ?_ _)); refine blk_far ?_ NB235_259.out _; (with_reducible repeat (first | refine blk_drewN ?_ _ | refine blk_drew ?_ | refine blk_alloc ?_ _)); refine blk_far ?_ NB235_259.out _; (with_reducible repeat (first | refine blk_drewN ?_ _ | refine blk_drew ?_ | refine blk_alloc ?_ _)); refine blk_far ?_ NB235_259.out _; (with_reducible repeat (first | refine blk_drewN ?_ _ | refine blk_drew ?_ | refine blk_alloc ?_ _)); exact BK235.out⟩, ⟨by (with_reducible repeat (first | refine blk_drewN ?_ _ | refine blk_drew ?_ | refine blk_alloc ?_ _)); refine blk_far ?_ NB239_259.out _; (with_reducible repeat (first | refine blk_drewN ?_ _ | refine blk_drew ?_ | refine blk_alloc ?_ _)); refine blk_far ?_ NB239_259.out _; (with_reducible repeat (first | refine blk_drewN ?_ _ | refine blk_drew ?_ | refine blk_alloc ?_ _)); refine blk_far ?_ NB239_259.out _; (with_reducible repeat (first | refine blk_drewN ?_ _ | refine blk_drew ?_ | refine blk_alloc ?_ _)); refine blk_far ?_ NB239_259.out _; (with_reducible repeat (first | refine blk_drewN ?_ _ | refine blk_drew ?_ | refine blk_alloc ?_ _)); refine blk_far ?_ NB239_259.out _; (with_reducible repeat (first | refine blk_drewN ?_ _ | refine blk_drew ?_ | refine blk_alloc ?_ _)); refine blk_far ?_ NB239_259.out _; (with_reducible repeat (first | refine blk_drewN ?_ _ | refine blk_drew ?_ | refine blk_alloc ?_ _)); exact BK239.out⟩, ⟨by (with_reducible repeat (first | refine blk_drewN ?_ _ | refine blk_drew ?_ | refine blk_alloc ?_ _)); refine blk_far ?_ NB243_259.out _; (with_reducible repeat (first | refine blk_drewN ?_ _ | refine blk_drew ?_ | refine blk_alloc ?_ _)); refine blk_far ?_ NB243_259.out _; (with_reducible repeat (first | refine blk_drewN ?_ _ | refine blk_drew ?_ | refine blk_alloc ?_ _)); refine blk_far ?_ NB243_259.out _; (with_reducible repeat (first | refine blk_drewN ?_ _ | refine blk_drew ?_ | refine blk_alloc ?_ _)); refine blk_far ?_ NB243_259.out _; (with_reducible repeat (first | refine blk_drewN ?_ _ | refine blk_drew ?_ | refine blk_alloc ?_ _)); refine blk_far ?_ NB243_259.out _; (with_reducible repeat (first | refine blk_drewN ?_ _ | refine blk_drew ?_ | refine blk_alloc ?_ _)); refine blk_far ?_ NB243_259.out _; (with_reducible repeat (first | refine blk_drewN ?_ _ | refine blk_drew ?_ | refine blk_alloc ?_ _)); exact BK243.out⟩, ⟨by (with_reducible repeat (first | refine blk_drewN ?_ _ | refine blk_drew ?_ | refine blk_alloc ?_ _)); refine blk_far ?_ NB251_259.out _; (with_reducible repeat (first | refine blk_drewN ?_ _ | refine blk_drew ?_ | refine blk_alloc ?_ _)); refine blk_far ?_ NB251_259.out _; (with_reducible repeat (first | refine blk_drewN ?_ _ | refine blk_drew ?_ | refine blk_alloc ?_ _)); refine blk_far ?_ NB251_259.out _; (with_reducible repeat (first | refine blk_drewN ?_ _ | refine blk_drew ?_ | refine blk_alloc ?_ _)); refine blk_far ?_ NB251_259.out _; (with_reducible repeat (first | refine blk_drewN ?_ _ | refine blk_drew ?_ | refine blk_alloc ?_ _)); refine blk_far ?_ NB251_259.out _; (with_reducible repeat (first | refine blk_drewN ?_ _ | refine blk_drew ?_ | refine blk_alloc ?_ _)); refine blk_far ?_ NB251_259.out _; (with_reducible repeat (first | refine blk_drewN ?_ _ | refine blk_drew ?_ | refine blk_alloc ?_ _)); exact BK251.out⟩, ⟨by (with_reducible repeat (first | refine blk_drewN ?_ _ | refine blk_drew ?_ | refine blk_alloc ?_ _)); refine blk_far ?_ NB258_259.out _; (with_reducible repeat (first | refine blk_drewN ?_ _ | refine blk_drew ?_ | refine blk_alloc ?_ _)); refine blk_far ?_ NB258_259.out _; (with_reducible repeat (first | refine blk_drewN ?_ _ | refine blk_drew ?_ | refine blk_alloc ?_ _)); refine blk_far ?_ NB258_259.out _; (with_reducible repeat (first | refine blk_drewN ?_ _ | refine blk_drew ?_ | refine blk_alloc ?_ _)); refine blk_far ?_ NB258_259.out _; (with_reducible repeat (first | refine blk_drewN ?_ _ | refine blk_drew ?_ | refine blk_alloc ?_ _)); refine blk_far ?_ NB258_259.out _; (with_reducible repeat (first | refine blk_drewN ?_ _ | refine blk_drew ?_ | refine blk_alloc ?_ _)); refine blk_far ?_ NB258_259.out _; (with_reducible repeat (first | refine blk_drewN ?_ _ | refine blk_drew ?_ | refine blk_alloc ?_ _)); exact BK258.out⟩, ⟨by (with_reducible repeat (first | refine blk_drewN ?_ _ | refine blk_drew ?_ | refine blk_alloc ?_ _)); refine blk_put (cs := #[.int .u64 a1_0, .int .u64 a1_1, .int .u64 a1_2, .int .u64 a1_3, .int .i64 a1_4]) ?_ 0 _ rfl; (with_reducible repeat (first | refine blk_drewN ?_ _ | refine blk_drew ?_ | refine blk_alloc ?_ _)); refine blk_put (cs := #[.int .u64 a1_0, .int .u64 a1_1, .int .u64 a1_2, .int .u64 a1_3, .int .i64 0]) ?_ 4 _ rfl; (with_reducible repeat (first | refine blk_drewN ?_ _ | refine blk_drew ?_ | refine blk_alloc ?_ _)); refine blk_put (cs := #[.int .u64 a1_0, .int .u64 a1_1, .int .u64 a1_2, .int .u64 0, .int .i64 0]) ?_ 3 _ rfl; (with_reducible repeat (first | refine blk_drewN ?_ _ | refine blk_drew ?_ | refine blk_alloc ?_ _)); refine blk_put (cs := #[.int .u64 a1_0, .int .u64 a1_1, .int .u64 0, .int .u64 0, .int .i64 0]) ?_ 2 _ rfl; (with_reducible repeat (first | refine blk_drewN ?_ _ | refine blk_drew ?_ | refine blk_alloc ?_ _)); refine blk_put (cs := #[.int .u64 a1_0, .int .u64 0, .int .u64 0, .int .u64 0, .int .i64 0]) ?_ 1 _ rfl; (with_reducible repeat (first | refine blk_drewN ?_ _ | refine blk_drew ?_ | refine blk_alloc ?_ _)); refine blk_put (cs := #[.int .u64 0, .int .u64 0, .int .u64 0, .int .u64 0, .int .i64 0]) ?_ 0 _ rfl; (with_reducible repeat (first | refine blk_drewN ?_ _ | refine blk_drew ?_ | refine blk_alloc ?_ _)); exact BK259.out⟩, ⟨by repeat (first | (with_reducible first | exact HB.out | apply below_alloc | apply pw_below_drewN | apply below_drew1 | refine below_set ?_ GE225.out | refine below_set ?_ GE226.out | refine below_set ?_ GE235.out | refine below_set ?_ GE239.out | refine below_set ?_ GE243.out | refine below_set ?_ GE251.out | refine below_set ?_ GE258.out | refine below_set ?_ GE259.out) | exact HB.out)⟩⟩
          · rw [if_neg c99] at H
            have c99b0 : (!(t252 == (IntKind.u64.wrap (t229 + 1))) || (!(t253 == a1_1) || (!(t254 == a1_2) || (!(t255 == a1_3) || (!(t256 == a1_4)))))) = false := by simpa using c99
            clear c99
            (first | rw [c99b0] | (simp only [i64_w, i32_w]; rw [c99b0]) | skip)
            have H' := Aside0.mk H
            clear H
            have hnb115 := NB258_225.out
            have hnc115 := NB225_258.out
            have hnb116 := NB258_226.out
            have hnc116 := NB226_258.out
            have hnb117 := NB258_235.out
            have hnc117 := NB235_258.out
            have hnb118 := NB258_239.out
            have hnc118 := NB239_258.out
            have hnb119 := NB258_243.out
            have hnc119 := NB243_258.out
            have hnb120 := NB258_251.out
            have hnc120 := NB251_258.out
            have hnb121 := NB258_259.out
            have hnc121 := NB259_258.out
            have hcz122_0 : w88.cell? ⟨gb258, 0, none⟩ = some (.int .u64 t252) := (blk_cell BK258.out 0).trans rfl
            have hcz122_1 : w88.cell? ⟨gb258, 1, none⟩ = some (.int .u64 t253) := (blk_cell BK258.out 1).trans rfl
            have hcz122_2 : w88.cell? ⟨gb258, 2, none⟩ = some (.int .u64 t254) := (blk_cell BK258.out 2).trans rfl
            have hcz122_3 : w88.cell? ⟨gb258, 3, none⟩ = some (.int .u64 t255) := (blk_cell BK258.out 3).trans rfl
            have hcz122_4 : w88.cell? ⟨gb258, 4, none⟩ = some (.int .i64 t256) := (blk_cell BK258.out 4).trans rfl
            have hfz122_0 := blk_frozen BK258.out 0
            have hfz122_1 := blk_frozen BK258.out 1
            have hfz122_2 := blk_frozen BK258.out 2
            have hfz122_3 := blk_frozen BK258.out 3
            have hfz122_4 := blk_frozen BK258.out 4
            have hnb123 := NB259_225.out
            have hnc123 := NB225_259.out
            have hnb124 := NB259_226.out
            have hnc124 := NB226_259.out
            have hnb125 := NB259_235.out
            have hnc125 := NB235_259.out
            have hnb126 := NB259_239.out
            have hnc126 := NB239_259.out
            have hnb127 := NB259_243.out
            have hnc127 := NB243_259.out
            have hnb128 := NB259_251.out
            have hnc128 := NB251_259.out
            have hcz129_0 : w88.cell? ⟨gb259, 0, none⟩ = some (.int .u64 0) := (blk_cell BK259.out 0).trans rfl
            have hcz129_1 : w88.cell? ⟨gb259, 1, none⟩ = some (.int .u64 0) := (blk_cell BK259.out 1).trans rfl
            have hcz129_2 : w88.cell? ⟨gb259, 2, none⟩ = some (.int .u64 0) := (blk_cell BK259.out 2).trans rfl
            have hcz129_3 : w88.cell? ⟨gb259, 3, none⟩ = some (.int .u64 0) := (blk_cell BK259.out 3).trans rfl
            have hcz129_4 : w88.cell? ⟨gb259, 4, none⟩ = some (.int .i64 0) := (blk_cell BK259.out 4).trans rfl
            have hfz129_0 := blk_frozen BK259.out 0
            have hfz129_1 := blk_frozen BK259.out 1
            have hfz129_2 := blk_frozen BK259.out 2
            have hfz129_3 := blk_frozen BK259.out 3
            have hfz129_4 := blk_frozen BK259.out 4
            go_wp2
            go_meet
            case rel => exact ⟨_, ((t257 != 0)), (by first | rfl | (simp; done) | (simp [*]; done)), H', ⟨by have := HJ7.out; first | omega | exact Nat.le_refl _⟩, ⟨by (with_reducible repeat (first | refine blk_drewN ?_ _ | refine blk_drew ?_ | refine blk_alloc ?_ _)); refine blk_far ?_ NB225_259.out _; (with_reducible repeat (first | refine blk_drewN ?_ _ | refine blk_drew ?_ | refine blk_alloc ?_ _)); refine blk_far ?_ NB225_259.out _; (with_reducible repeat (first | refine blk_drewN ?_ _ | refine blk_drew ?_ | refine blk_alloc ?_ _)); refine blk_far ?_ NB225_259.out _; (with_reducible repeat (first | refine blk_drewN ?_ _ | refine blk_drew ?_ | refine blk_alloc ?_ _)); refine blk_far ?_ NB225_259.out _; (with_reducible repeat (first | refine blk_drewN ?_ _ | refine blk_drew ?_ | refine blk_alloc ?_ _)); refine blk_far ?_ NB225_259.out _; (with_reducible repeat (first | refine blk_drewN ?_ _ | refine blk_drew ?_ | refine blk_alloc ?_ _)); refine blk_far ?_ NB225_259.out _; (with_reducible repeat (first | refine blk_drewN ?_ _ | refine blk_drew ?_ | refine blk_alloc ?_ _)); exact BK225.out⟩, ⟨by (with_reducible repeat (first | refine blk_drewN ?_ _ | refine blk_drew ?_ | refine blk_alloc ?_ _)); refine blk_far ?_ NB226_259.out _; (with_reducible repeat (first | refine blk_drewN ?_ _ | refine blk_drew ?_ | refine blk_alloc ?_ _)); refine blk_far ?_ NB226_259.out _; (with_reducible repeat (first | refine blk_drewN ?_ _ | refine blk_drew ?_ | refine blk_alloc ?_ _)); refine blk_far ?_ NB226_259.out _; (with_reducible repeat (first | refine blk_drewN ?_ _ | refine blk_drew ?_ | refine blk_alloc ?_ _)); refine blk_far ?_ NB226_259.out _; (with_reducible repeat (first | refine blk_drewN ?_ _ | refine blk_drew ?_ | refine blk_alloc ?_ _)); refine blk_far ?_ NB226_259.out _; (with_reducible repeat (first | refine blk_drewN ?_ _ | refine blk_drew ?_ | refine blk_alloc ?_ _)); refine blk_far ?_ NB226_259.out _; (with_reducible repeat (first | refine blk_drewN ?_ _ | refine blk_drew ?_ | refine blk_alloc ?_ _)); exact BK226.out⟩, ⟨by (with_reducible repeat (first | refine blk_drewN ?_ _ | refine blk_drew ?_ | refine blk_alloc ?_ _)); refine blk_far ?_ NB235_259.out _; (with_reducible repeat (first | refine blk_drewN ?_ _ | refine blk_drew ?_ | refine blk_alloc ?_ _)); refine blk_far ?_ NB235_259.out _; (with_reducible repeat (first | refine blk_drewN ?_ _ | refine blk_drew ?_ | refine blk_alloc ?_ _)); refine blk_far ?_ NB235_259.out _; (with_reducible repeat (first | refine blk_drewN ?_ _ | refine blk_drew ?_ | refine blk_alloc ?_ _)); refine blk_far ?_ NB235_259.out _; (with_reducible repeat (first | refine blk_drewN ?_ _ | refine blk_drew ?_ | refine blk_alloc ?_ _)); refine blk_far ?_ NB235_259.out _; (with_reducible repeat (first | refine blk_drewN ?_ _ | refine blk_drew ?_ | refine blk_alloc ?_ _)); refine blk_far ?_ NB235_259.out _; (with_reducible repeat (first | refine blk_drewN ?_ _ | refine blk_drew ?_ | refine blk_alloc ?_ _)); exact BK235.out⟩, ⟨by (with_reducible repeat (first | refine blk_drewN ?_ _ | refine blk_drew ?_ | refine blk_alloc ?_ _)); refine blk_far ?_ NB239_259.out _; (with_reducible repeat (first | refine blk_drewN ?_ _ | refine blk_drew ?_ | refine blk_alloc ?_ _)); refine blk_far ?_ NB239_259.out _; (with_reducible repeat (first | refine blk_drewN ?_ _ | refine blk_drew ?_ | refine blk_alloc ?_ _)); refine blk_far ?_ NB239_259.out _; (with_reducible repeat (first | refine blk_drewN ?_ _ | refine blk_drew ?_ | refine blk_alloc ?_ _)); refine blk_far ?_ NB239_259.out _; (with_reducible repeat (first | refine blk_drewN ?_ _ | refine blk_drew ?_ | refine blk_alloc ?_ _)); refine blk_far ?_ NB239_259.out _; (with_reducible repeat (first | refine blk_drewN ?_ _ | refine blk_drew ?_ | refine blk_alloc ?_ _)); refine blk_far ?_ NB239_259.out _; (with_reducible repeat (first | refine blk_drewN ?_ _ | refine blk_drew ?_ | refine blk_alloc ?_ _)); exact BK239.out⟩, ⟨by (with_reducible repeat (first | refine blk_drewN ?_ _ | refine blk_drew ?_ | refine blk_alloc ?_ _)); refine blk_far ?_ NB243_259.out _; (with_reducible repeat (first | refine blk_drewN ?_ _ | refine blk_drew ?_ | refine blk_alloc ?_ _)); refine blk_far ?_ NB243_259.out _; (with_reducible repeat (first | refine blk_drewN ?_ _ | refine blk_drew ?_ | refine blk_alloc ?_ _)); refine blk_far ?_ NB243_259.out _; (with_reducible repeat (first | refine blk_drewN ?_ _ | refine blk_drew ?_ | refine blk_alloc ?_ _)); refine blk_far ?_ NB243_259.out _; (with_reducible repeat (first | refine blk_drewN ?_ _ | refine blk_drew ?_ | refine blk_alloc ?_ _)); refine blk_far ?_ NB243_259.out _; (with_reducible repeat (first | refine blk_drewN ?_ _ | refine blk_drew ?_ | refine blk_alloc ?_ _)); refine blk_far ?_ NB243_259.out _; (with_reducible repeat (first | refine blk_drewN ?_ _ | refine blk_drew ?_ | refine blk_alloc ?_ _)); exact BK243.out⟩, ⟨by (with_reducible repeat (first | refine blk_drewN ?_ _ | refine blk_drew ?_ | refine blk_alloc ?_ _)); refine blk_far ?_ NB251_259.out _; (with_reducible repeat (first | refine blk_drewN ?_ _ | refine blk_drew ?_ | refine blk_alloc ?_ _)); refine blk_far ?_ NB251_259.out _; (with_reducible repeat (first | refine blk_drewN ?_ _ | refine blk_drew ?_ | refine blk_alloc ?_ _)); refine blk_far ?_ NB251_259.out _; (with_reducible repeat (first | refine blk_drewN ?_ _ | refine blk_drew ?_ | refine blk_alloc ?_ _)); refine blk_far ?_ NB251_259.out _; (with_reducible repeat (first | refine blk_drewN ?_ _ | refine blk_drew ?_ | refine blk_alloc ?_ _)); refine blk_far ?_ NB251_259.out _; (with_reducible repeat (first | refine blk_drewN ?_ _ | refine blk_drew ?_ | refine blk_alloc ?_ _)); refine blk_far ?_ NB251_259.out _; (with_reducible repeat (first | refine blk_drewN ?_ _ | refine blk_drew ?_ | refine blk_alloc ?_ _)); exact BK251.out⟩, ⟨by (with_reducible repeat (first | refine blk_drewN ?_ _ | refine blk_drew ?_ | refine blk_alloc ?_ _)); refine blk_far ?_ NB258_259.out _; (with_reducible repeat (first | refine blk_drewN ?_ _ | refine blk_drew ?_ | refine blk_alloc ?_ _)); refine blk_far ?_ NB258_259.out _; (with_reducible repeat (first | refine blk_drewN ?_ _ | refine blk_drew ?_ | refine blk_alloc ?_ _)); refine blk_far ?_ NB258_259.out _; (with_reducible repeat (first | refine blk_drewN ?_ _ | refine blk_drew ?_ | refine blk_alloc ?_ _)); refine blk_far ?_ NB258_259.out _; (with_reducible repeat (first | refine blk_drewN ?_ _ | refine blk_drew ?_ | refine blk_alloc ?_ _)); refine blk_far ?_ NB258_259.out _; (with_reducible repeat (first | refine blk_drewN ?_ _ | refine blk_drew ?_ | refine blk_alloc ?_ _)); refine blk_far ?_ NB258_259.out _; (with_reducible repeat (first | refine blk_drewN ?_ _ | refine blk_drew ?_ | refine blk_alloc ?_ _)); exact BK258.out⟩, ⟨by (with_reducible repeat (first | refine blk_drewN ?_ _ | refine blk_drew ?_ | refine blk_alloc ?_ _)); refine blk_put (cs := #[.int .u64 a1_0, .int .u64 a1_1, .int .u64 a1_2, .int .u64 a1_3, .int .i64 a1_4]) ?_ 0 _ rfl; (with_reducible repeat (first | refine blk_drewN ?_ _ | refine blk_drew ?_ | refine blk_alloc ?_ _)); refine blk_put (cs := #[.int .u64 a1_0, .int .u64 a1_1, .int .u64 a1_2, .int .u64 a1_3, .int .i64 0]) ?_ 4 _ rfl; (with_reducible repeat (first | refine blk_drewN ?_ _ | refine blk_drew ?_ | refine blk_alloc ?_ _)); refine blk_put (cs := #[.int .u64 a1_0, .int .u64 a1_1, .int .u64 a1_2, .int .u64 0, .int .i64 0]) ?_ 3 _ rfl; (with_reducible repeat (first | refine blk_drewN ?_ _ | refine blk_drew ?_ | refine blk_alloc ?_ _)); refine blk_put (cs := #[.int .u64 a1_0, .int .u64 a1_1, .int .u64 0, .int .u64 0, .int .i64 0]) ?_ 2 _ rfl; (with_reducible repeat (first | refine blk_drewN ?_ _ | refine blk_drew ?_ | refine blk_alloc ?_ _)); refine blk_put (cs := #[.int .u64 a1_0, .int .u64 0, .int .u64 0, .int .u64 0, .int .i64 0]) ?_ 1 _ rfl; (with_reducible repeat (first | refine blk_drewN ?_ _ | refine blk_drew ?_ | refine blk_alloc ?_ _)); refine blk_put (cs := #[.int .u64 0, .int .u64 0, .int .u64 0, .int .u64 0, .int .i64 0]) ?_ 0 _ rfl; (with_reducible repeat (first | refine blk_drewN ?_ _ | refine blk_drew ?_ | refine blk_alloc ?_ _)); exact BK259.out⟩, ⟨by repeat (first | (with_reducible first | exact HB.out | apply below_alloc | apply pw_below_drewN | apply below_drew1 | refine below_set ?_ GE225.out | refine below_set ?_ GE226.out | refine below_set ?_ GE235.out | refine below_set ?_ GE239.out | refine below_set ?_ GE243.out | refine below_set ?_ GE251.out | refine below_set ?_ GE258.out | refine below_set ?_ GE259.out) | exact HB.out)⟩⟩
        case rest =>
          clear HC58
          try clear c1
          try clear c2
          try clear p2
          try clear c3
          try clear c4
          try clear c5
          try clear c6
          try clear p6
          try clear c7
          try clear c8
          try clear c9
          try clear c10
          try clear c11
          try clear c12
          try clear c17
          try clear c18
          try clear c20
          try clear c24
          try clear c25
          try clear c26
          try clear c32
          try clear c33
          try clear c34
          try clear c35
          try clear c37
          try clear c37b0
          try clear c37b1
          try clear c38
          try clear c39
          try clear c39b0
          try clear c39b1
          try clear c40
          try clear c40b0
          try clear c40b1
          try clear c40b2
          try clear c41
          try clear c41b0
          try clear c41b1
          try clear c41b2
          try clear c43
          try clear c44
          try clear c45
          try clear c46
          try clear c48
          try clear c49
          try clear c50
          try clear c52
          try clear c53
          try clear c59
          try clear c60
          try clear c61
          try clear c62
          try clear p64
          try clear c66
          try clear c67
          try clear c68
          try clear c69
          try clear c70
          try clear c72
          try clear c73
          try clear c74
          try clear c78
          try clear c79
          try clear c80
          try clear c81
          try clear c82
          try clear c83
          try clear c85
          try clear c86
          try clear c89
          try clear c90
          try clear c91
          try clear c92
          try clear c93
          try clear c94
          try clear c95
          try clear c97
          try clear c99
          try clear c99b0
          try clear c100
          try clear c101
          try clear c102
          try clear c103
          try clear c104
          try clear c105
          try clear c106
          try clear c108
          try clear c109
          try clear c110
          try clear c111
          try clear c112
          try clear c113
          try clear c115
          try clear c116
          try clear c117
          try clear c118
          try clear c119
          try clear c120
          try clear c121
          try clear c123
          try clear c124
          try clear c125
          try clear c126
          try clear c127
          try clear c128
          try clear hcz107_0
          try clear hcz107_1
          try clear hcz107_2
          try clear hcz107_3
          try clear hcz107_4
          try clear hcz114_0
          try clear hcz114_1
          try clear hcz114_2
          try clear hcz114_3
          try clear hcz114_4
          try clear hcz122_0
          try clear hcz122_1
          try clear hcz122_2
          try clear hcz122_3
          try clear hcz122_4
          try clear hcz129_0
          try clear hcz129_1
          try clear hcz129_2
          try clear hcz129_3
          try clear hcz129_4
          try clear hcz12_0
          try clear hcz12_1
          try clear hcz14_0
          try clear hcz14_1
          try clear hcz19_0
          try clear hcz19_1
          try clear hcz19_2
          try clear hcz19_3
          try clear hcz19_4
          try clear hcz20_0
          try clear hcz20_1
          try clear hcz21_0
          try clear hcz21_1
          try clear hcz21_2
          try clear hcz21_3
          try clear hcz21_4
          try clear hcz27_0
          try clear hcz27_1
          try clear hcz28_0
          try clear hcz28_1
          try clear hcz29_0
          try clear hcz29_1
          try clear hcz29_2
          try clear hcz29_3
          try clear hcz29_4
          try clear hcz36_0
          try clear hcz36_1
          try clear hcz47_0
          try clear hcz47_1
          try clear hcz51_0
          try clear hcz51_1
          try clear hcz54_0
          try clear hcz54_1
          try clear hcz63_0
          try clear hcz63_1
          try clear hcz71_0
          try clear hcz71_1
          try clear hcz71_2
          try clear hcz71_3
          try clear hcz71_4
          try clear hcz75_0
          try clear hcz75_1
          try clear hcz84_0
          try clear hcz84_1
          try clear hcz84_2
          try clear hcz84_3
          try clear hcz84_4
          try clear hcz87_0
          try clear hcz87_1
          try clear hcz87_2
          try clear hcz87_3
          try clear hcz87_4
          try clear hcz96_0
          try clear hcz96_1
          try clear hcz96_2
          try clear hcz96_3
          try clear hcz96_4
          try clear hcz98_0
          try clear hcz98_1
          try clear hcz98_2
          try clear hcz98_3
          try clear hcz98_4
          try clear hfz107_0
          try clear hfz107_1
          try clear hfz107_2
          try clear hfz107_3
          try clear hfz107_4
          try clear hfz114_0
          try clear hfz114_1
          try clear hfz114_2
          try clear hfz114_3
          try clear hfz114_4
          try clear hfz122_0
          try clear hfz122_1
          try clear hfz122_2
          try clear hfz122_3
          try clear hfz122_4
          try clear hfz129_0
          try clear hfz129_1
          try clear hfz129_2
          try clear hfz129_3
          try clear hfz129_4
          try clear hfz12_0
          try clear hfz12_1
          try clear hfz14_0
          try clear hfz14_1
          try clear hfz19_0
          try clear hfz19_1
          try clear hfz19_2
          try clear hfz19_3
          try clear hfz19_4
          try clear hfz20_0
          try clear hfz20_1
          try clear hfz21_0
          try clear hfz21_1
          try clear hfz21_2
          try clear hfz21_3
          try clear hfz21_4
          try clear hfz27_0
          try clear hfz27_1
          try clear hfz28_0
          try clear hfz28_1
          try clear hfz29_0
          try clear hfz29_1
          try clear hfz29_2
          try clear hfz29_3
          try clear hfz29_4
          try clear hfz36_0
          try clear hfz36_1
          try clear hfz47_0
          try clear hfz47_1
          try clear hfz51_0
          try clear hfz51_1
          try clear hfz54_0
          try clear hfz54_1
          try clear hfz63_0
          try clear hfz63_1
          try clear hfz71_0
          try clear hfz71_1
          try clear hfz71_2
          try clear hfz71_3
          try clear hfz71_4
          try clear hfz75_0
          try clear hfz75_1
          try clear hfz84_0
          try clear hfz84_1
          try clear hfz84_2
          try clear hfz84_3
          try clear hfz84_4
          try clear hfz87_0
          try clear hfz87_1
          try clear hfz87_2
          try clear hfz87_3
          try clear hfz87_4
          try clear hfz96_0
          try clear hfz96_1
          try clear hfz96_2
          try clear hfz96_3
          try clear hfz96_4
          try clear hfz98_0
          try clear hfz98_1
          try clear hfz98_2
          try clear hfz98_3
          try clear hfz98_4
          try clear p2
          try clear p6
          obtain ⟨kq, x82_57, rfl, HA, HJ57, BK225, BK226, BK235, BK239, BK243, BK251, BK258, BK259, HB⟩ := hcut
          cases kq with
          | zero => exact absurd HA.out (by simp [tattlelaw16_DiskTears.j1])
          | succ kj57 =>
            have H := HA.out
            clear HA
            simp only [tattlelaw16_DiskTears.j1] at H
            by_cases c130 : x82_57 = true
            · subst c130
              have H1 : (none) = some r := by rw [if_pos rfl] at H; exact H
              clear H
              have H := H1
              clear H1
              exact absurd H (by simp)
            · replace c130 := Bool.eq_false_iff.mpr c130
              subst c130
              have H1 : (if (t236.toList == t240.toList && (t237.toList == t241.toList)) = true then (if (t245 == (IntKind.u64.wrap (t229 + 1)) && (t246 == a1_1 && (t247 == a1_2 && (t248 == a1_3 && (t249 == a1_4))))) = true then (if t250 = 0 then ((tattlelaw16_awake.f kj57).bind fun t260 => (some t260)) else (none)) else (none)) else (if (t245 == t229 && (t246 == t230 && (t247 == t231 && (t248 == t232 && (t249 == t233))))) = true then (if t250 = t234 then ((tattlelaw16_awake.f kj57).bind fun t261 => (some t261)) else (none)) else (none))) = some r := by rw [if_neg (show ¬ (false = true) by decide)] at H; exact H
              clear H
              have H := H1
              clear H1
              by_cases c131 : (t236.toList == t240.toList && (t237.toList == t241.toList)) = true
              · rw [if_pos c131] at H
                have c131b0 : (t236.toList == t240.toList && (t237.toList == t241.toList)) = true := c131
                (try (have c131b1 : decide (t236.toList = t240.toList && (t237.toList == t241.toList)) = true := by simpa using c131))
                (try (have c131b2 : (t236.toList == t240.toList && (t237.toList == t241.toList)) = true := by simpa using c131))
                clear c131
                by_cases c132 : (t245 == (IntKind.u64.wrap (t229 + 1)) && (t246 == a1_1 && (t247 == a1_2 && (t248 == a1_3 && (t249 == a1_4))))) = true
                · rw [if_pos c132] at H
                  have c132b0 : (t245 == (IntKind.u64.wrap (t229 + 1)) && (t246 == a1_1 && (t247 == a1_2 && (t248 == a1_3 && (t249 == a1_4))))) = true := c132
                  (try (have c132b1 : decide (t245 = (IntKind.u64.wrap (t229 + 1)) && (t246 == a1_1 && (t247 == a1_2 && (t248 == a1_3 && (t249 == a1_4))))) = true := by simpa using c132))
                  (try (have c132b2 : (t245 == (IntKind.u64.wrap (t229 + 1)) && (t246 == a1_1 && (t247 == a1_2 && (t248 == a1_3 && (t249 == a1_4))))) = true := by simpa using c132))
                  clear c132
                  by_cases c133 : t250 = 0
                  · rw [if_pos c133] at H
                    have c133b0 : (t250 == 0) = true := beq_iff_eq.mpr c133
                    have c133b1 : (t250 != 0) = false := bne_eq_false_iff_eq.mpr c133
                    clear c133
                    replace H := Option.bind_eq_some_iff.mp H
                    obtain ⟨t260, A1340, H⟩ := H
                    replace H : (some t260) = some r := H
                    have A134 := Aside0.mk A1340
                    clear A1340
                    obtain rfl := Option.some.inj H
                    have hnb135 := NB239_225.out
                    have hnc135 := NB225_239.out
                    have hnb136 := NB239_226.out
                    have hnc136 := NB226_239.out
                    have hnb137 := NB239_235.out
                    have hnc137 := NB235_239.out
                    have hnb138 := NB239_243.out
                    have hnc138 := NB243_239.out
                    have hnb139 := NB239_251.out
                    have hnc139 := NB251_239.out
                    have hnb140 := NB239_258.out
                    have hnc140 := NB258_239.out
                    have hnb141 := NB239_259.out
                    have hnc141 := NB259_239.out
                    have hcz142_0 : wc.cell? ⟨gb239, 0, none⟩ = some (.string t236) := (blk_cell BK239.out 0).trans rfl
                    have hcz142_1 : wc.cell? ⟨gb239, 1, none⟩ = some (.string t237) := (blk_cell BK239.out 1).trans rfl
                    have hfz142_0 := blk_frozen BK239.out 0
                    have hfz142_1 := blk_frozen BK239.out 1
                    have hnb143 := NB243_225.out
                    have hnc143 := NB225_243.out
                    have hnb144 := NB243_226.out
                    have hnc144 := NB226_243.out
                    have hnb145 := NB243_235.out
                    have hnc145 := NB235_243.out
                    have hnb146 := NB243_251.out
                    have hnc146 := NB251_243.out
                    have hnb147 := NB243_258.out
                    have hnc147 := NB258_243.out
                    have hnb148 := NB243_259.out
                    have hnc148 := NB259_243.out
                    have hcz149_0 : wc.cell? ⟨gb243, 0, none⟩ = some (.string t240) := (blk_cell BK243.out 0).trans rfl
                    have hcz149_1 : wc.cell? ⟨gb243, 1, none⟩ = some (.string t241) := (blk_cell BK243.out 1).trans rfl
                    have hfz149_0 := blk_frozen BK243.out 0
                    have hfz149_1 := blk_frozen BK243.out 1
                    have hnb150 := NB251_225.out
                    have hnc150 := NB225_251.out
                    have hnb151 := NB251_226.out
                    have hnc151 := NB226_251.out
                    have hnb152 := NB251_235.out
                    have hnc152 := NB235_251.out
                    have hnb153 := NB251_258.out
                    have hnc153 := NB258_251.out
                    have hnb154 := NB251_259.out
                    have hnc154 := NB259_251.out
                    have hcz155_0 : wc.cell? ⟨gb251, 0, none⟩ = some (.int .u64 t245) := (blk_cell BK251.out 0).trans rfl
                    have hcz155_1 : wc.cell? ⟨gb251, 1, none⟩ = some (.int .u64 t246) := (blk_cell BK251.out 1).trans rfl
                    have hcz155_2 : wc.cell? ⟨gb251, 2, none⟩ = some (.int .u64 t247) := (blk_cell BK251.out 2).trans rfl
                    have hcz155_3 : wc.cell? ⟨gb251, 3, none⟩ = some (.int .u64 t248) := (blk_cell BK251.out 3).trans rfl
                    have hcz155_4 : wc.cell? ⟨gb251, 4, none⟩ = some (.int .i64 t249) := (blk_cell BK251.out 4).trans rfl
                    have hfz155_0 := blk_frozen BK251.out 0
                    have hfz155_1 := blk_frozen BK251.out 1
                    have hfz155_2 := blk_frozen BK251.out 2
                    have hfz155_3 := blk_frozen BK251.out 3
                    have hfz155_4 := blk_frozen BK251.out 4
                    have hnb156 := NB259_225.out
                    have hnc156 := NB225_259.out
                    have hnb157 := NB259_226.out
                    have hnc157 := NB226_259.out
                    have hnb158 := NB259_235.out
                    have hnc158 := NB235_259.out
                    have hnb159 := NB259_258.out
                    have hnc159 := NB258_259.out
                    have hcz160_0 : wc.cell? ⟨gb259, 0, none⟩ = some (.int .u64 (IntKind.u64.wrap (t229 + 1))) := (blk_cell BK259.out 0).trans rfl
                    have hcz160_1 : wc.cell? ⟨gb259, 1, none⟩ = some (.int .u64 a1_1) := (blk_cell BK259.out 1).trans rfl
                    have hcz160_2 : wc.cell? ⟨gb259, 2, none⟩ = some (.int .u64 a1_2) := (blk_cell BK259.out 2).trans rfl
                    have hcz160_3 : wc.cell? ⟨gb259, 3, none⟩ = some (.int .u64 a1_3) := (blk_cell BK259.out 3).trans rfl
                    have hcz160_4 : wc.cell? ⟨gb259, 4, none⟩ = some (.int .i64 a1_4) := (blk_cell BK259.out 4).trans rfl
                    have hfz160_0 := blk_frozen BK259.out 0
                    have hfz160_1 := blk_frozen BK259.out 1
                    have hfz160_2 := blk_frozen BK259.out 2
                    have hfz160_3 := blk_frozen BK259.out 3
                    have hfz160_4 := blk_frozen BK259.out 4
                    go_wp2_with (first | (go_at_call 16; (with_reducible refine (tattlelaw16_awake.calls kj57  t260 _ A134.out).mono ?_); rintro e w161 ⟨rfl, hb⟩; have n0_ := Aside0.mk (blk_below (g := gb225) (o := .cells #[.string t227, .string t228] 23 (0, 0)) (by (with_reducible repeat (first | refine blk_drewN ?_ _ | refine blk_drew ?_ | refine blk_alloc ?_ _)); exact BK225.out) hb); have n1_ := Aside0.mk (blk_below (g := gb226) (o := .cells #[.int .u64 a1_0, .int .u64 a1_1, .int .u64 a1_2, .int .u64 a1_3, .int .i64 a1_4] 26 (0, 0)) (by (with_reducible repeat (first | refine blk_drewN ?_ _ | refine blk_drew ?_ | refine blk_alloc ?_ _)); exact BK226.out) hb); have n2_ := Aside0.mk (blk_below (g := gb235) (o := .cells #[.int .u64 t229, .int .u64 t230, .int .u64 t231, .int .u64 t232, .int .i64 t233] 26 (0, 0)) (by (with_reducible repeat (first | refine blk_drewN ?_ _ | refine blk_drew ?_ | refine blk_alloc ?_ _)); exact BK235.out) hb); have n3_ := Aside0.mk (blk_below (g := gb239) (o := .cells #[.string t236, .string t237] 23 (0, 0)) (by (with_reducible repeat (first | refine blk_drewN ?_ _ | refine blk_drew ?_ | refine blk_alloc ?_ _)); exact BK239.out) hb); have n4_ := Aside0.mk (blk_below (g := gb243) (o := .cells #[.string t240, .string t241] 23 (0, 0)) (by (with_reducible repeat (first | refine blk_drewN ?_ _ | refine blk_drew ?_ | refine blk_alloc ?_ _)); exact BK243.out) hb); have n5_ := Aside0.mk (blk_below (g := gb251) (o := .cells #[.int .u64 t245, .int .u64 t246, .int .u64 t247, .int .u64 t248, .int .i64 t249] 26 (0, 0)) (by (with_reducible repeat (first | refine blk_drewN ?_ _ | refine blk_drew ?_ | refine blk_alloc ?_ _)); exact BK251.out) hb); have n6_ := Aside0.mk (blk_below (g := gb258) (o := .cells #[.int .u64 t252, .int .u64 t253, .int .u64 t254, .int .u64 t255, .int .i64 t256] 26 (0, 0)) (by (with_reducible repeat (first | refine blk_drewN ?_ _ | refine blk_drew ?_ | refine blk_alloc ?_ _)); exact BK258.out) hb); have n7_ := Aside0.mk (blk_below (g := gb259) (o := .cells #[.int .u64 (IntKind.u64.wrap (t229 + 1)), .int .u64 a1_1, .int .u64 a1_2, .int .u64 a1_3, .int .i64 a1_4] 26 (0, 0)) (by (with_reducible repeat (first | refine blk_drewN ?_ _ | refine blk_drew ?_ | refine blk_alloc ?_ _)); exact BK259.out) hb); have n8_ := Aside0.mk (below_step (by repeat (first | (with_reducible first | exact HB.out | apply below_alloc | apply pw_below_drewN | apply below_drew1 | refine below_set ?_ GE225.out | refine below_set ?_ GE226.out | refine below_set ?_ GE235.out | refine below_set ?_ GE239.out | refine below_set ?_ GE243.out | refine below_set ?_ GE251.out | refine below_set ?_ GE258.out | refine below_set ?_ GE259.out) | exact HB.out)) hb); clear BK225; clear BK226; clear BK235; clear BK239; clear BK243; clear BK251; clear BK258; clear BK259; clear HB; have BK225 := n0_; have BK226 := n1_; have BK235 := n2_; have BK239 := n3_; have BK243 := n4_; have BK251 := n5_; have BK258 := n6_; have BK259 := n7_; have HB := n8_; clear n0_ n1_ n2_ n3_ n4_ n5_ n6_ n7_ n8_; (try clear hb); (try clear hb2); (try clear hk); (try clear hi)))
                    go_ret
                    exact ⟨by first | rfl | (simp [errW_none, errW_some] <;> rfl) | (simp [*, errW_none, errW_some] <;> rfl), by repeat (first | (with_reducible first | exact HB.out | apply below_alloc | apply pw_below_drewN | apply below_drew1 | refine below_set ?_ GE225.out | refine below_set ?_ GE226.out | refine below_set ?_ GE235.out | refine below_set ?_ GE239.out | refine below_set ?_ GE243.out | refine below_set ?_ GE251.out | refine below_set ?_ GE258.out | refine below_set ?_ GE259.out) | exact HB.out)⟩
                  · rw [if_neg c133] at H
                    exact absurd H (by simp)
                · rw [if_neg c132] at H
                  exact absurd H (by simp)
              · rw [if_neg c131] at H
                have c131b0 : (t236.toList == t240.toList && (t237.toList == t241.toList)) = false := by simpa using c131
                (try (have c131b1 : decide (t236.toList = t240.toList && (t237.toList == t241.toList)) = false := by simpa using c131))
                (try (have c131b2 : (t236.toList == t240.toList && (t237.toList == t241.toList)) = false := by simpa using c131))
                (try (have c131b3 : ¬ (t236.toList = t240.toList && (t237.toList == t241.toList)) := by simpa using c131))
                clear c131
                by_cases c162 : (t245 == t229 && (t246 == t230 && (t247 == t231 && (t248 == t232 && (t249 == t233))))) = true
                · rw [if_pos c162] at H
                  have c162b0 : (t245 == t229 && (t246 == t230 && (t247 == t231 && (t248 == t232 && (t249 == t233))))) = true := c162
                  (try (have c162b1 : decide (t245 = t229 && (t246 == t230 && (t247 == t231 && (t248 == t232 && (t249 == t233))))) = true := by simpa using c162))
                  (try (have c162b2 : (t245 == t229 && (t246 == t230 && (t247 == t231 && (t248 == t232 && (t249 == t233))))) = true := by simpa using c162))
                  clear c162
                  by_cases c163 : t250 = t234
                  · rw [if_pos c163] at H
                    have c163b0 : (t250 == t234) = true := beq_iff_eq.mpr c163
                    have c163b1 : (t250 != t234) = false := bne_eq_false_iff_eq.mpr c163
                    clear c163
                    replace H := Option.bind_eq_some_iff.mp H
                    obtain ⟨t261, A1640, H⟩ := H
                    replace H : (some t261) = some r := H
                    have A164 := Aside0.mk A1640
                    clear A1640
                    obtain rfl := Option.some.inj H
                    have hnb165 := NB239_225.out
                    have hnc165 := NB225_239.out
                    have hnb166 := NB239_226.out
                    have hnc166 := NB226_239.out
                    have hnb167 := NB239_235.out
                    have hnc167 := NB235_239.out
                    have hnb168 := NB239_243.out
                    have hnc168 := NB243_239.out
                    have hnb169 := NB239_251.out
                    have hnc169 := NB251_239.out
                    have hnb170 := NB239_258.out
                    have hnc170 := NB258_239.out
                    have hnb171 := NB239_259.out
                    have hnc171 := NB259_239.out
                    have hcz172_0 : wc.cell? ⟨gb239, 0, none⟩ = some (.string t236) := (blk_cell BK239.out 0).trans rfl
                    have hcz172_1 : wc.cell? ⟨gb239, 1, none⟩ = some (.string t237) := (blk_cell BK239.out 1).trans rfl
                    have hfz172_0 := blk_frozen BK239.out 0
                    have hfz172_1 := blk_frozen BK239.out 1
                    have hnb173 := NB243_225.out
                    have hnc173 := NB225_243.out
                    have hnb174 := NB243_226.out
                    have hnc174 := NB226_243.out
                    have hnb175 := NB243_235.out
                    have hnc175 := NB235_243.out
                    have hnb176 := NB243_251.out
                    have hnc176 := NB251_243.out
                    have hnb177 := NB243_258.out
                    have hnc177 := NB258_243.out
                    have hnb178 := NB243_259.out
                    have hnc178 := NB259_243.out
                    have hcz179_0 : wc.cell? ⟨gb243, 0, none⟩ = some (.string t240) := (blk_cell BK243.out 0).trans rfl
                    have hcz179_1 : wc.cell? ⟨gb243, 1, none⟩ = some (.string t241) := (blk_cell BK243.out 1).trans rfl
                    have hfz179_0 := blk_frozen BK243.out 0
                    have hfz179_1 := blk_frozen BK243.out 1
                    have hnb180 := NB251_225.out
                    have hnc180 := NB225_251.out
                    have hnb181 := NB251_226.out
                    have hnc181 := NB226_251.out
                    have hnb182 := NB251_235.out
                    have hnc182 := NB235_251.out
                    have hnb183 := NB251_258.out
                    have hnc183 := NB258_251.out
                    have hnb184 := NB251_259.out
                    have hnc184 := NB259_251.out
                    have hcz185_0 : wc.cell? ⟨gb251, 0, none⟩ = some (.int .u64 t245) := (blk_cell BK251.out 0).trans rfl
                    have hcz185_1 : wc.cell? ⟨gb251, 1, none⟩ = some (.int .u64 t246) := (blk_cell BK251.out 1).trans rfl
                    have hcz185_2 : wc.cell? ⟨gb251, 2, none⟩ = some (.int .u64 t247) := (blk_cell BK251.out 2).trans rfl
                    have hcz185_3 : wc.cell? ⟨gb251, 3, none⟩ = some (.int .u64 t248) := (blk_cell BK251.out 3).trans rfl
                    have hcz185_4 : wc.cell? ⟨gb251, 4, none⟩ = some (.int .i64 t249) := (blk_cell BK251.out 4).trans rfl
                    have hfz185_0 := blk_frozen BK251.out 0
                    have hfz185_1 := blk_frozen BK251.out 1
                    have hfz185_2 := blk_frozen BK251.out 2
                    have hfz185_3 := blk_frozen BK251.out 3
                    have hfz185_4 := blk_frozen BK251.out 4
                    have hnb186 := NB235_225.out
                    have hnc186 := NB225_235.out
                    have hnb187 := NB235_226.out
                    have hnc187 := NB226_235.out
                    have hnb188 := NB235_258.out
                    have hnc188 := NB258_235.out
                    have hnb189 := NB235_259.out
                    have hnc189 := NB259_235.out
                    have hcz190_0 : wc.cell? ⟨gb235, 0, none⟩ = some (.int .u64 t229) := (blk_cell BK235.out 0).trans rfl
                    have hcz190_1 : wc.cell? ⟨gb235, 1, none⟩ = some (.int .u64 t230) := (blk_cell BK235.out 1).trans rfl
                    have hcz190_2 : wc.cell? ⟨gb235, 2, none⟩ = some (.int .u64 t231) := (blk_cell BK235.out 2).trans rfl
                    have hcz190_3 : wc.cell? ⟨gb235, 3, none⟩ = some (.int .u64 t232) := (blk_cell BK235.out 3).trans rfl
                    have hcz190_4 : wc.cell? ⟨gb235, 4, none⟩ = some (.int .i64 t233) := (blk_cell BK235.out 4).trans rfl
                    have hfz190_0 := blk_frozen BK235.out 0
                    have hfz190_1 := blk_frozen BK235.out 1
                    have hfz190_2 := blk_frozen BK235.out 2
                    have hfz190_3 := blk_frozen BK235.out 3
                    have hfz190_4 := blk_frozen BK235.out 4
                    go_wp2_with (first | (go_at_call 16; (with_reducible refine (tattlelaw16_awake.calls kj57  t261 _ A164.out).mono ?_); rintro e w191 ⟨rfl, hb⟩; have n0_ := Aside0.mk (blk_below (g := gb225) (o := .cells #[.string t227, .string t228] 23 (0, 0)) (by (with_reducible repeat (first | refine blk_drewN ?_ _ | refine blk_drew ?_ | refine blk_alloc ?_ _)); exact BK225.out) hb); have n1_ := Aside0.mk (blk_below (g := gb226) (o := .cells #[.int .u64 a1_0, .int .u64 a1_1, .int .u64 a1_2, .int .u64 a1_3, .int .i64 a1_4] 26 (0, 0)) (by (with_reducible repeat (first | refine blk_drewN ?_ _ | refine blk_drew ?_ | refine blk_alloc ?_ _)); exact BK226.out) hb); have n2_ := Aside0.mk (blk_below (g := gb235) (o := .cells #[.int .u64 t229, .int .u64 t230, .int .u64 t231, .int .u64 t232, .int .i64 t233] 26 (0, 0)) (by (with_reducible repeat (first | refine blk_drewN ?_ _ | refine blk_drew ?_ | refine blk_alloc ?_ _)); exact BK235.out) hb); have n3_ := Aside0.mk (blk_below (g := gb239) (o := .cells #[.string t236, .string t237] 23 (0, 0)) (by (with_reducible repeat (first | refine blk_drewN ?_ _ | refine blk_drew ?_ | refine blk_alloc ?_ _)); exact BK239.out) hb); have n4_ := Aside0.mk (blk_below (g := gb243) (o := .cells #[.string t240, .string t241] 23 (0, 0)) (by (with_reducible repeat (first | refine blk_drewN ?_ _ | refine blk_drew ?_ | refine blk_alloc ?_ _)); exact BK243.out) hb); have n5_ := Aside0.mk (blk_below (g := gb251) (o := .cells #[.int .u64 t245, .int .u64 t246, .int .u64 t247, .int .u64 t248, .int .i64 t249] 26 (0, 0)) (by (with_reducible repeat (first | refine blk_drewN ?_ _ | refine blk_drew ?_ | refine blk_alloc ?_ _)); exact BK251.out) hb); have n6_ := Aside0.mk (blk_below (g := gb258) (o := .cells #[.int .u64 t252, .int .u64 t253, .int .u64 t254, .int .u64 t255, .int .i64 t256] 26 (0, 0)) (by (with_reducible repeat (first | refine blk_drewN ?_ _ | refine blk_drew ?_ | refine blk_alloc ?_ _)); exact BK258.out) hb); have n7_ := Aside0.mk (blk_below (g := gb259) (o := .cells #[.int .u64 (IntKind.u64.wrap (t229 + 1)), .int .u64 a1_1, .int .u64 a1_2, .int .u64 a1_3, .int .i64 a1_4] 26 (0, 0)) (by (with_reducible repeat (first | refine blk_drewN ?_ _ | refine blk_drew ?_ | refine blk_alloc ?_ _)); exact BK259.out) hb); have n8_ := Aside0.mk (below_step (by repeat (first | (with_reducible first | exact HB.out | apply below_alloc | apply pw_below_drewN | apply below_drew1 | refine below_set ?_ GE225.out | refine below_set ?_ GE226.out | refine below_set ?_ GE235.out | refine below_set ?_ GE239.out | refine below_set ?_ GE243.out | refine below_set ?_ GE251.out | refine below_set ?_ GE258.out | refine below_set ?_ GE259.out) | exact HB.out)) hb); clear BK225; clear BK226; clear BK235; clear BK239; clear BK243; clear BK251; clear BK258; clear BK259; clear HB; have BK225 := n0_; have BK226 := n1_; have BK235 := n2_; have BK239 := n3_; have BK243 := n4_; have BK251 := n5_; have BK258 := n6_; have BK259 := n7_; have HB := n8_; clear n0_ n1_ n2_ n3_ n4_ n5_ n6_ n7_ n8_; (try clear hb); (try clear hb2); (try clear hk); (try clear hi)))
                    go_ret
                    exact ⟨by first | rfl | (simp [errW_none, errW_some] <;> rfl) | (simp [*, errW_none, errW_some] <;> rfl), by repeat (first | (with_reducible first | exact HB.out | apply below_alloc | apply pw_below_drewN | apply below_drew1 | refine below_set ?_ GE225.out | refine below_set ?_ GE226.out | refine below_set ?_ GE235.out | refine below_set ?_ GE239.out | refine below_set ?_ GE243.out | refine below_set ?_ GE251.out | refine below_set ?_ GE258.out | refine below_set ?_ GE259.out) | exact HB.out)⟩
                  · rw [if_neg c163] at H
                    exact absurd H (by simp)
                · rw [if_neg c162] at H
                  exact absurd H (by simp)

end Go.Proofs.Ytldeanlnfhgjfaa.PDiskTears
