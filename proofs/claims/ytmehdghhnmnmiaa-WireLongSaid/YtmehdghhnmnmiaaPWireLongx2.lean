-- Written by a program of this session (see NOTES.md) out of the print of Lean's own loaded functions; Lean checks it.
import Derived.Test.YtmehdghhnmnmiaaPWireLongx0
import Derived.Test.YtmehdghhnmnmiaaPWireLongx1
namespace Go.Proofs.Ytmehdghhnmnmiaa.PWireLong
open Go.RowKit Go.Proofs.YtmehdghhnmnmiaaW.PrintWords Go.Proofs.YtmehdghhnmnmiaaW.PrintLast Go.Proofs.YtmehdghhnmnmiaaW.PrintMore
attribute [local go_sem] max2_int min2_int max_two min_two max_three min_three max_four min_four   -- for this text's walks alone
set_option linter.unusedVariables false
set_option linter.unusedSimpArgs false

/-! ### tattlelaw01_WireLong: function 5 -/
def tattlelaw01_WireLong.j0 : Nat → Int → ByteArray → Bool → Option (Bool)
  | 0, _, _, _ => none
  | k + 1, x2, x8, x67 => if x67 = true then (none) else (if (x8.size : Int) = 0 then (none) else (if 0 ≤ (Int.tmod (wrap64 (x2)) (x8.size : Int)) then (if (Int.tmod (wrap64 (x2)) (x8.size : Int)) ≤ (x8.size : Int) then ((wire_TakeNum.f k (x8.extract 0 ((Int.tmod (wrap64 (x2)) (x8.size : Int)) : Int).toNat) 0).bind fun bt124 => (if bt124.2.2 = 3 then (if bt124.2.1 = 0 then ((tattlelaw01_awake.f k).bind fun t127 => (some t127)) else (none)) else (none))) else (none)) else (none)))
def tattlelaw01_WireLong.f (k : Nat) (a0 : Int) (a1 : Int) (a2 : Int) : Option (Bool) := (wire_Num.f k (([mn a0 a1] : List Int))).bind fun t119 => ((wire_Num.f k (([mx a0 a1] : List Int))).bind fun t123 => (if (t119.size : Int) < 1 then (tattlelaw01_WireLong.j0 k a2 t123 true) else (if (t123.size : Int) > 10 then (tattlelaw01_WireLong.j0 k a2 t123 true) else (if (t119.size : Int) > (t123.size : Int) then (tattlelaw01_WireLong.j0 k a2 t123 true) else (if (t123.size : Int) < 10 then (if 0 ≤ (wrap64 (7 * (t123.size : Int))) then (if (shr .u64 (mx a0 a1) (wrap64 (7 * (t123.size : Int)))) > 0 then (tattlelaw01_WireLong.j0 k a2 t123 true) else (if (t123.size : Int) > 1 then (if 0 ≤ (wrap64 (7 * (wrap64 ((t123.size : Int) - 1)))) then (tattlelaw01_WireLong.j0 k a2 t123 ((shr .u64 (mx a0 a1) (wrap64 (7 * (wrap64 ((t123.size : Int) - 1))))) == 0)) else (none)) else (tattlelaw01_WireLong.j0 k a2 t123 false))) else (none)) else (if (t123.size : Int) > 1 then (if 0 ≤ (wrap64 (7 * (wrap64 ((t123.size : Int) - 1)))) then (tattlelaw01_WireLong.j0 k a2 t123 ((shr .u64 (mx a0 a1) (wrap64 (7 * (wrap64 ((t123.size : Int) - 1))))) == 0)) else (none)) else (tattlelaw01_WireLong.j0 k a2 t123 false)))))))
theorem tattlelaw01_WireLong.mono_l : ∀ k, (∀ y0 y1 y2, LeO (tattlelaw01_WireLong.j0 k y0 y1 y2) (tattlelaw01_WireLong.j0 (k + 1) y0 y1 y2))
  | 0 => fun _ _ _ r h => by simp [tattlelaw01_WireLong.j0] at h
  | k + 1 => by
    have ih0 := tattlelaw01_WireLong.mono_l k
    · intro y0 y1 y2
      unfold tattlelaw01_WireLong.j0
      repeat' first
      | (with_reducible exact ih0 _ _ _)
      | (with_reducible exact tattlelaw01_awake.mono _)
      | (with_reducible exact wire_Num.mono _ _)
      | (with_reducible exact wire_TakeNum.mono _ _ _)
      | (with_reducible exact LeO.refl _)
      | (with_reducible exact LeO.none _)
      | (with_reducible refine LeO.ite ?_ ?_)
      | (with_reducible refine LeO.bind ?_ (fun _ => ?_))
      | exact ih0 _ _ _
      | exact tattlelaw01_awake.mono _
      | exact wire_Num.mono _ _
      | exact wire_TakeNum.mono _ _ _
      | exact LeO.none _
      | refine LeO.ite ?_ ?_
      | refine LeO.bind ?_ (fun _ => ?_)
theorem tattlelaw01_WireLong.mono : ∀ a0 a1 a2 k, LeO (tattlelaw01_WireLong.f k a0 a1 a2) (tattlelaw01_WireLong.f (k + 1) a0 a1 a2) := by
  intro a0 a1 a2 k
  have ih0 := tattlelaw01_WireLong.mono_l k
  unfold tattlelaw01_WireLong.f
  repeat' first
      | (with_reducible exact ih0 _ _ _)
      | (with_reducible exact tattlelaw01_awake.mono _)
      | (with_reducible exact wire_Num.mono _ _)
      | (with_reducible exact wire_TakeNum.mono _ _ _)
      | (with_reducible exact LeO.refl _)
      | (with_reducible exact LeO.none _)
      | (with_reducible refine LeO.ite ?_ ?_)
      | (with_reducible refine LeO.bind ?_ (fun _ => ?_))
      | exact ih0 _ _ _
      | exact tattlelaw01_awake.mono _
      | exact wire_Num.mono _ _
      | exact wire_TakeNum.mono _ _ _
      | exact LeO.none _
      | refine LeO.ite ?_ ?_
      | refine LeO.bind ?_ (fun _ => ?_)
set_option maxHeartbeats 8000000 in
set_option maxRecDepth 100000 in
theorem tattlelaw01_WireLong.calls (k : Nat) (a0 : Int) (a1 : Int) (a2 : Int) (r : Bool) (w : World) (h : tattlelaw01_WireLong.f k a0 a1 a2 = some r) :
    Calls Try.prog 5 #[.int .u64 a0, .int .u64 a1, .int .u8 a2] w fun e w' => e = .returned (.bool r) ∧ Below w.heap.size w w' := by
  have HB := Aside0.mk (Below.refl w.heap.size w)
  have H : ((wire_Num.f k (([mn a0 a1] : List Int))).bind fun t119 => ((wire_Num.f k (([mx a0 a1] : List Int))).bind fun t123 => (if (t119.size : Int) < 1 then (tattlelaw01_WireLong.j0 k a2 t123 true) else (if (t123.size : Int) > 10 then (tattlelaw01_WireLong.j0 k a2 t123 true) else (if (t119.size : Int) > (t123.size : Int) then (tattlelaw01_WireLong.j0 k a2 t123 true) else (if (t123.size : Int) < 10 then (if 0 ≤ (wrap64 (7 * (t123.size : Int))) then (if (shr .u64 (mx a0 a1) (wrap64 (7 * (t123.size : Int)))) > 0 then (tattlelaw01_WireLong.j0 k a2 t123 true) else (if (t123.size : Int) > 1 then (if 0 ≤ (wrap64 (7 * (wrap64 ((t123.size : Int) - 1)))) then (tattlelaw01_WireLong.j0 k a2 t123 ((shr .u64 (mx a0 a1) (wrap64 (7 * (wrap64 ((t123.size : Int) - 1))))) == 0)) else (none)) else (tattlelaw01_WireLong.j0 k a2 t123 false))) else (none)) else (if (t123.size : Int) > 1 then (if 0 ≤ (wrap64 (7 * (wrap64 ((t123.size : Int) - 1)))) then (tattlelaw01_WireLong.j0 k a2 t123 ((shr .u64 (mx a0 a1) (wrap64 (7 * (wrap64 ((t123.size : Int) - 1))))) == 0)) else (none)) else (tattlelaw01_WireLong.j0 k a2 t123 false)))))))) = some r := h
  clear h
  obtain ⟨ji4, hji4⟩ : ∃ j_ : Int, (mn a0 a1) = j_ := ⟨_, rfl⟩
  replace H : ((wire_Num.f k (([ji4] : List Int))).bind fun t119 => ((wire_Num.f k (([mx a0 a1] : List Int))).bind fun t123 => (if (t119.size : Int) < 1 then (tattlelaw01_WireLong.j0 k a2 t123 true) else (if (t123.size : Int) > 10 then (tattlelaw01_WireLong.j0 k a2 t123 true) else (if (t119.size : Int) > (t123.size : Int) then (tattlelaw01_WireLong.j0 k a2 t123 true) else (if (t123.size : Int) < 10 then (if 0 ≤ (wrap64 (7 * (t123.size : Int))) then (if (shr .u64 (mx a0 a1) (wrap64 (7 * (t123.size : Int)))) > 0 then (tattlelaw01_WireLong.j0 k a2 t123 true) else (if (t123.size : Int) > 1 then (if 0 ≤ (wrap64 (7 * (wrap64 ((t123.size : Int) - 1)))) then (tattlelaw01_WireLong.j0 k a2 t123 ((shr .u64 (mx a0 a1) (wrap64 (7 * (wrap64 ((t123.size : Int) - 1))))) == 0)) else (none)) else (tattlelaw01_WireLong.j0 k a2 t123 false))) else (none)) else (if (t123.size : Int) > 1 then (if 0 ≤ (wrap64 (7 * (wrap64 ((t123.size : Int) - 1)))) then (tattlelaw01_WireLong.j0 k a2 t123 ((shr .u64 (mx a0 a1) (wrap64 (7 * (wrap64 ((t123.size : Int) - 1))))) == 0)) else (none)) else (tattlelaw01_WireLong.j0 k a2 t123 false)))))))) = some r := by first | (rw [hji4] at H; exact H) | (simp only [hji4] at H ⊢; exact H)
  have hji4_ : (if a1 < a0 then a1 else a0) = ji4 := hji4
  obtain ⟨y116, hy116⟩ : ∃ y_ : List Int, y_ = (([ji4] : List Int)) := ⟨_, rfl⟩
  replace H : ((wire_Num.f k y116).bind fun t119 => ((wire_Num.f k (([mx a0 a1] : List Int))).bind fun t123 => (if (t119.size : Int) < 1 then (tattlelaw01_WireLong.j0 k a2 t123 true) else (if (t123.size : Int) > 10 then (tattlelaw01_WireLong.j0 k a2 t123 true) else (if (t119.size : Int) > (t123.size : Int) then (tattlelaw01_WireLong.j0 k a2 t123 true) else (if (t123.size : Int) < 10 then (if 0 ≤ (wrap64 (7 * (t123.size : Int))) then (if (shr .u64 (mx a0 a1) (wrap64 (7 * (t123.size : Int)))) > 0 then (tattlelaw01_WireLong.j0 k a2 t123 true) else (if (t123.size : Int) > 1 then (if 0 ≤ (wrap64 (7 * (wrap64 ((t123.size : Int) - 1)))) then (tattlelaw01_WireLong.j0 k a2 t123 ((shr .u64 (mx a0 a1) (wrap64 (7 * (wrap64 ((t123.size : Int) - 1))))) == 0)) else (none)) else (tattlelaw01_WireLong.j0 k a2 t123 false))) else (none)) else (if (t123.size : Int) > 1 then (if 0 ≤ (wrap64 (7 * (wrap64 ((t123.size : Int) - 1)))) then (tattlelaw01_WireLong.j0 k a2 t123 ((shr .u64 (mx a0 a1) (wrap64 (7 * (wrap64 ((t123.size : Int) - 1))))) == 0)) else (none)) else (tattlelaw01_WireLong.j0 k a2 t123 false)))))))) = some r := by first | (rw [hy116]; with_reducible exact H) | (have H2_ := (Option.bind_some _ _).symm.trans H; rw [hy116]; with_reducible exact H2_) | (have H2_ := (Option.bind_some _ _).symm.trans H; with_reducible exact H2_) | with_reducible exact H | (rw [hy116]; exact H) | exact H
  have Ny116 := Aside0.mk hy116
  clear hy116
  replace H := Option.bind_eq_some_iff.mp H
  obtain ⟨t119, A50, H⟩ := H
  replace H : ((wire_Num.f k (([mx a0 a1] : List Int))).bind fun t123 => (if (t119.size : Int) < 1 then (tattlelaw01_WireLong.j0 k a2 t123 true) else (if (t123.size : Int) > 10 then (tattlelaw01_WireLong.j0 k a2 t123 true) else (if (t119.size : Int) > (t123.size : Int) then (tattlelaw01_WireLong.j0 k a2 t123 true) else (if (t123.size : Int) < 10 then (if 0 ≤ (wrap64 (7 * (t123.size : Int))) then (if (shr .u64 (mx a0 a1) (wrap64 (7 * (t123.size : Int)))) > 0 then (tattlelaw01_WireLong.j0 k a2 t123 true) else (if (t123.size : Int) > 1 then (if 0 ≤ (wrap64 (7 * (wrap64 ((t123.size : Int) - 1)))) then (tattlelaw01_WireLong.j0 k a2 t123 ((shr .u64 (mx a0 a1) (wrap64 (7 * (wrap64 ((t123.size : Int) - 1))))) == 0)) else (none)) else (tattlelaw01_WireLong.j0 k a2 t123 false))) else (none)) else (if (t123.size : Int) > 1 then (if 0 ≤ (wrap64 (7 * (wrap64 ((t123.size : Int) - 1)))) then (tattlelaw01_WireLong.j0 k a2 t123 ((shr .u64 (mx a0 a1) (wrap64 (7 * (wrap64 ((t123.size : Int) - 1))))) == 0)) else (none)) else (tattlelaw01_WireLong.j0 k a2 t123 false))))))) = some r := H
  have A5 := Aside0.mk A50
  clear A50
  obtain ⟨ji6, hji6⟩ : ∃ j_ : Int, (mx a0 a1) = j_ := ⟨_, rfl⟩
  replace H : ((wire_Num.f k (([ji6] : List Int))).bind fun t123 => (if (t119.size : Int) < 1 then (tattlelaw01_WireLong.j0 k a2 t123 true) else (if (t123.size : Int) > 10 then (tattlelaw01_WireLong.j0 k a2 t123 true) else (if (t119.size : Int) > (t123.size : Int) then (tattlelaw01_WireLong.j0 k a2 t123 true) else (if (t123.size : Int) < 10 then (if 0 ≤ (wrap64 (7 * (t123.size : Int))) then (if (shr .u64 (ji6) (wrap64 (7 * (t123.size : Int)))) > 0 then (tattlelaw01_WireLong.j0 k a2 t123 true) else (if (t123.size : Int) > 1 then (if 0 ≤ (wrap64 (7 * (wrap64 ((t123.size : Int) - 1)))) then (tattlelaw01_WireLong.j0 k a2 t123 ((shr .u64 (ji6) (wrap64 (7 * (wrap64 ((t123.size : Int) - 1))))) == 0)) else (none)) else (tattlelaw01_WireLong.j0 k a2 t123 false))) else (none)) else (if (t123.size : Int) > 1 then (if 0 ≤ (wrap64 (7 * (wrap64 ((t123.size : Int) - 1)))) then (tattlelaw01_WireLong.j0 k a2 t123 ((shr .u64 (ji6) (wrap64 (7 * (wrap64 ((t123.size : Int) - 1))))) == 0)) else (none)) else (tattlelaw01_WireLong.j0 k a2 t123 false))))))) = some r := by first | (rw [hji6] at H; exact H) | (simp only [hji6] at H ⊢; exact H)
  (try rw [hji6] at A5)
  have hji6_ : (if a0 < a1 then a1 else a0) = ji6 := hji6
  obtain ⟨y120, hy120⟩ : ∃ y_ : List Int, y_ = (([ji6] : List Int)) := ⟨_, rfl⟩
  replace H : ((wire_Num.f k y120).bind fun t123 => (if (t119.size : Int) < 1 then (tattlelaw01_WireLong.j0 k a2 t123 true) else (if (t123.size : Int) > 10 then (tattlelaw01_WireLong.j0 k a2 t123 true) else (if (t119.size : Int) > (t123.size : Int) then (tattlelaw01_WireLong.j0 k a2 t123 true) else (if (t123.size : Int) < 10 then (if 0 ≤ (wrap64 (7 * (t123.size : Int))) then (if (shr .u64 (ji6) (wrap64 (7 * (t123.size : Int)))) > 0 then (tattlelaw01_WireLong.j0 k a2 t123 true) else (if (t123.size : Int) > 1 then (if 0 ≤ (wrap64 (7 * (wrap64 ((t123.size : Int) - 1)))) then (tattlelaw01_WireLong.j0 k a2 t123 ((shr .u64 (ji6) (wrap64 (7 * (wrap64 ((t123.size : Int) - 1))))) == 0)) else (none)) else (tattlelaw01_WireLong.j0 k a2 t123 false))) else (none)) else (if (t123.size : Int) > 1 then (if 0 ≤ (wrap64 (7 * (wrap64 ((t123.size : Int) - 1)))) then (tattlelaw01_WireLong.j0 k a2 t123 ((shr .u64 (ji6) (wrap64 (7 * (wrap64 ((t123.size : Int) - 1))))) == 0)) else (none)) else (tattlelaw01_WireLong.j0 k a2 t123 false))))))) = some r := by first | (rw [hy120]; with_reducible exact H) | (have H2_ := (Option.bind_some _ _).symm.trans H; rw [hy120]; with_reducible exact H2_) | (have H2_ := (Option.bind_some _ _).symm.trans H; with_reducible exact H2_) | with_reducible exact H | (rw [hy120]; exact H) | exact H
  have Ny120 := Aside0.mk hy120
  clear hy120
  replace H := Option.bind_eq_some_iff.mp H
  obtain ⟨t123, A70, H⟩ := H
  replace H : (if (t119.size : Int) < 1 then (tattlelaw01_WireLong.j0 k a2 t123 true) else (if (t123.size : Int) > 10 then (tattlelaw01_WireLong.j0 k a2 t123 true) else (if (t119.size : Int) > (t123.size : Int) then (tattlelaw01_WireLong.j0 k a2 t123 true) else (if (t123.size : Int) < 10 then (if 0 ≤ (wrap64 (7 * (t123.size : Int))) then (if (shr .u64 (ji6) (wrap64 (7 * (t123.size : Int)))) > 0 then (tattlelaw01_WireLong.j0 k a2 t123 true) else (if (t123.size : Int) > 1 then (if 0 ≤ (wrap64 (7 * (wrap64 ((t123.size : Int) - 1)))) then (tattlelaw01_WireLong.j0 k a2 t123 ((shr .u64 (ji6) (wrap64 (7 * (wrap64 ((t123.size : Int) - 1))))) == 0)) else (none)) else (tattlelaw01_WireLong.j0 k a2 t123 false))) else (none)) else (if (t123.size : Int) > 1 then (if 0 ≤ (wrap64 (7 * (wrap64 ((t123.size : Int) - 1)))) then (tattlelaw01_WireLong.j0 k a2 t123 ((shr .u64 (ji6) (wrap64 (7 * (wrap64 ((t123.size : Int) - 1))))) == 0)) else (none)) else (tattlelaw01_WireLong.j0 k a2 t123 false)))))) = some r := H
  have A7 := Aside0.mk A70
  clear A70
  have HC8 := Aside0.mk H
  clear H
  go_enter Try.func5, Try.ntmps5
  go_upto_region 2 with (first | ((with_reducible refine gate_dst (N := 15) rfl ?_); (try (refine gate_guard (by rfl) ?_; dsimp only)); refine Kd.R_lit (Kd.int .u64) _ 24 ?hg (N := 15) ?hd (xs := ([ji4] : List Int)) (inner := [.int .u64 ji4]) (ok := fun _ => True) (okp := fun _ => True) ?hr ?hp (fun _ hk => hk) trivial (Below.refl _ _) (Nat.le_refl _) (by simp) ?_; (case hd => rfl); (case hg => rfl); (case hr => first | (go_simp; done) | (go_simp; rfl)); (case hp => exact (Reps.one (show Kd.M (Kd.int .u64) _ _ _ ji4 [.int .u64 ji4] from rfl) (Reps.none _ _))); intro v117 w9 ho10 hb hg_ hnew_; clear hg_ hnew_; (first | rw [← Ny116.out] at ho10 | (simp only [Int.reduceToNat] at ho10; rw [← Ny116.out] at ho10)); have n0_ := Aside0.mk (Kd.R_lower ho10 (below_size (by repeat (first | (with_reducible first | exact HB.out | apply below_alloc | apply pw_below_drewN | apply below_drew1) | exact HB.out)))); have n1_ := Aside0.mk (below_step (by repeat (first | (with_reducible first | exact HB.out | apply below_alloc | apply pw_below_drewN | apply below_drew1) | exact HB.out)) hb); clear HB; have HO118 := n0_; have HB := n1_; clear n0_ n1_; clear hb ho10; obtain ⟨Ao11, co11, eo11⟩ := Kd.R_slice HO118.out; subst eo11) | ((with_reducible refine gate_callee (f := 13) rfl ?_); refine goesL_ (some 16) rfl rfl Try.func13 (by kernel_rfl) rfl #[.slice Ao11 y116.length co11] rfl (by (try simp only [List.map_toArray, List.map_cons, List.map_nil]); first | done | rfl | (simp only [List.length_drop, List.length_take]; rfl)) ?_; (with_reducible refine (wire_Num.calls k _ _ y116 t119 _ ?side1 ?side2 A5.out).mono ?_); (case side1 => repeat (first | exact (Kd.R_reads' HO118.out).2.2 | (with_reducible refine Kd.C_alloc ?_ _) | (with_reducible refine Kd.C_drewN ?_ _) | (with_reducible refine Kd.C_drew ?_))); (case side2 => exact (Kd.R_reads' HO118.out).2.1); rintro e w12 ⟨rfl, hb⟩; refine ⟨_, rfl, ?_⟩; have n0_ := Aside0.mk (Kd.R_below (by (with_reducible repeat (first | apply Kd.R_alloc | apply Kd.R_drewN | apply Kd.R_drew)); exact HO118.out) hb); have n1_ := Aside0.mk (below_step (by repeat (first | (with_reducible first | exact HB.out | apply below_alloc | apply pw_below_drewN | apply below_drew1) | exact HB.out)) hb); clear HO118; clear HB; have HO118 := n0_; have HB := n1_; clear n0_ n1_; (try clear hb); (try clear hb2); (try clear hk); (try clear hi)) | ((with_reducible refine gate_dst (N := 20) rfl ?_); (try (refine gate_guard (by rfl) ?_; dsimp only)); refine Kd.R_lit (Kd.int .u64) _ 24 ?hg (N := 20) ?hd (xs := ([ji6] : List Int)) (inner := [.int .u64 ji6]) (ok := fun _ => True) (okp := fun _ => True) ?hr ?hp (fun _ hk => hk) trivial (Below.refl _ _) (Nat.le_refl _) (by simp) ?_; (case hd => rfl); (case hg => rfl); (case hr => first | (go_simp; done) | (go_simp; rfl)); (case hp => exact (Reps.one (show Kd.M (Kd.int .u64) _ _ _ ji6 [.int .u64 ji6] from rfl) (Reps.none _ _))); intro v121 w13 ho14 hb hg_ hnew_; clear hg_ hnew_; (first | rw [← Ny120.out] at ho14 | (simp only [Int.reduceToNat] at ho14; rw [← Ny120.out] at ho14)); have n0_ := Aside0.mk (Kd.R_elder' (by (with_reducible repeat (first | apply Kd.R_alloc | apply Kd.R_drewN | apply Kd.R_drew)); exact HO118.out) (Kd.R_base ho14) hb); have n1_ := Aside0.mk (Kd.R_lower (Kd.R_new' ho14 (Kd.R_lt (by (with_reducible repeat (first | apply Kd.R_alloc | apply Kd.R_drewN | apply Kd.R_drew)); exact HO118.out))) (below_size (by repeat (first | (with_reducible first | exact HB.out | apply below_alloc | apply pw_below_drewN | apply below_drew1) | exact HB.out)))); have n2_ := Aside0.mk (below_step (by repeat (first | (with_reducible first | exact HB.out | apply below_alloc | apply pw_below_drewN | apply below_drew1) | exact HB.out)) hb); clear HO118; clear HB; have HO118 := n0_; have HO122 := n1_; have HB := n2_; clear n0_ n1_ n2_; clear hb ho14; obtain ⟨Ao15, co15, eo15⟩ := Kd.R_slice HO122.out; subst eo15) | ((with_reducible refine gate_callee (f := 13) rfl ?_); refine goesL_ (some 21) rfl rfl Try.func13 (by kernel_rfl) rfl #[.slice Ao15 y120.length co15] rfl (by (try simp only [List.map_toArray, List.map_cons, List.map_nil]); first | done | rfl | (simp only [List.length_drop, List.length_take]; rfl)) ?_; (with_reducible refine (wire_Num.calls k _ _ y120 t123 _ ?side1 ?side2 A7.out).mono ?_); (case side1 => repeat (first | exact (Kd.R_reads' HO122.out).2.2 | (with_reducible refine Kd.C_alloc ?_ _) | (with_reducible refine Kd.C_drewN ?_ _) | (with_reducible refine Kd.C_drew ?_))); (case side2 => exact (Kd.R_reads' HO122.out).2.1); rintro e w16 ⟨rfl, hb⟩; refine ⟨_, rfl, ?_⟩; have n0_ := Aside0.mk (Kd.R_below (by (with_reducible repeat (first | apply Kd.R_alloc | apply Kd.R_drewN | apply Kd.R_drew)); exact HO118.out) hb); have n1_ := Aside0.mk (Kd.R_below (by (with_reducible repeat (first | apply Kd.R_alloc | apply Kd.R_drewN | apply Kd.R_drew)); exact HO122.out) hb); have n2_ := Aside0.mk (below_step (by repeat (first | (with_reducible first | exact HB.out | apply below_alloc | apply pw_below_drewN | apply below_drew1) | exact HB.out)) hb); clear HO118; clear HO122; clear HB; have HO118 := n0_; have HO122 := n1_; have HB := n2_; clear n0_ n1_ n2_; (try clear hb); (try clear hb2); (try clear hk); (try clear hi)))
  (try simp only [Act.put, List.setIfInBounds_toArray, List.set_cons_zero, List.set_cons_succ])
  go_cut [67] (fun v67 wc => ∃ (kq : Nat) (x67_7 : Bool), v67 = .bool x67_7 ∧ Aside0 (tattlelaw01_WireLong.j0 kq a2 t123 x67_7 = some r) ∧ Aside0 (kq ≤ k) ∧ Aside0 (Below w.heap.size w wc))
  case first =>
    have H := HC8.out
    clear HC8
    by_cases c17 : (t119.size : Int) < 1
    · rw [if_pos c17] at H
      have c17b0 : decide ((t119.size : Int) < 1) = true := decide_eq_true c17
      have c17b1 : decide (t119.size < 1) = true := decide_eq_true (by omega)
      clear c17
      (first | rw [c17b0] | (simp only [i64_w, i32_w]; rw [c17b0]) | skip)
      have H' := Aside0.mk H
      clear H
      go_wp2
      go_meet
      case rel => exact ⟨_, (true), (by first | rfl | (simp; done) | (simp [*]; done)), H', ⟨by first | omega | exact Nat.le_refl _⟩, ⟨by repeat (first | (with_reducible first | exact HB.out | apply below_alloc | apply pw_below_drewN | apply below_drew1) | exact HB.out)⟩⟩
    · rw [if_neg c17] at H
      have c17b0 : decide ((t119.size : Int) < 1) = false := decide_eq_false c17
      have c17b1 : decide (t119.size < 1) = false := decide_eq_false (by omega)
      clear c17
      (first | rw [c17b0] | (simp only [i64_w, i32_w]; rw [c17b0]) | skip)
      by_cases c18 : (t123.size : Int) > 10
      · rw [if_pos c18] at H
        have c18b0 : decide (10 < (t123.size : Int)) = true := decide_eq_true c18
        have c18b1 : decide (10 < t123.size) = true := decide_eq_true (by omega)
        clear c18
        have H' := Aside0.mk H
        clear H
        go_wp2
        go_meet
        case rel => exact ⟨_, (true), (by first | rfl | (simp; done) | (simp [*]; done)), H', ⟨by first | omega | exact Nat.le_refl _⟩, ⟨by repeat (first | (with_reducible first | exact HB.out | apply below_alloc | apply pw_below_drewN | apply below_drew1) | exact HB.out)⟩⟩
      · rw [if_neg c18] at H
        have c18b0 : decide (10 < (t123.size : Int)) = false := decide_eq_false c18
        have c18b1 : decide (10 < t123.size) = false := decide_eq_false (by omega)
        clear c18
        by_cases c19 : (t119.size : Int) > (t123.size : Int)
        · rw [if_pos c19] at H
          have c19b0 : decide ((t123.size : Int) < (t119.size : Int)) = true := decide_eq_true c19
          have c19b1 : decide (t123.size < t119.size) = true := decide_eq_true (Int.ofNat_lt.mp c19)
          clear c19
          have H' := Aside0.mk H
          clear H
          go_wp2
          go_meet
          case rel => exact ⟨_, (true), (by first | rfl | (simp; done) | (simp [*]; done)), H', ⟨by first | omega | exact Nat.le_refl _⟩, ⟨by repeat (first | (with_reducible first | exact HB.out | apply below_alloc | apply pw_below_drewN | apply below_drew1) | exact HB.out)⟩⟩
        · rw [if_neg c19] at H
          have c19b0 : decide ((t123.size : Int) < (t119.size : Int)) = false := decide_eq_false c19
          have c19b1 : decide (t123.size < t119.size) = false := decide_eq_false (fun h => c19 (Int.ofNat_lt.mpr h))
          clear c19
          by_cases c20 : (t123.size : Int) < 10
          · rw [if_pos c20] at H
            have c20b0 : decide ((t123.size : Int) < 10) = true := decide_eq_true c20
            have c20b1 : decide (t123.size < 10) = true := decide_eq_true (by omega)
            clear c20
            obtain ⟨ji22, hji22⟩ : ∃ j_ : Int, (wrap64 (7 * (t123.size : Int))) = j_ := ⟨_, rfl⟩
            replace H : (if 0 ≤ (ji22) then (if (shr .u64 (ji6) (ji22)) > 0 then (tattlelaw01_WireLong.j0 k a2 t123 true) else (if (t123.size : Int) > 1 then (if 0 ≤ (wrap64 (7 * (wrap64 ((t123.size : Int) - 1)))) then (tattlelaw01_WireLong.j0 k a2 t123 ((shr .u64 (ji6) (wrap64 (7 * (wrap64 ((t123.size : Int) - 1))))) == 0)) else (none)) else (tattlelaw01_WireLong.j0 k a2 t123 false))) else (none)) = some r := by first | (rw [hji22] at H; exact H) | (simp only [hji22] at H ⊢; exact H)
            have hji22w : (IntKind.i64.wrap (7 * (t123.size : Int))) = ji22 := (i64_w _).trans hji22
            by_cases c23 : 0 ≤ (ji22)
            · rw [if_pos c23] at H
              have c23b0 := eq_true c23
              have c23b1 : decide (0 ≤ (ji22)) = true := decide_eq_true c23
              clear c23
              obtain ⟨ji24, hji24⟩ : ∃ j_ : Int, (shr .u64 (ji6) (ji22)) = j_ := ⟨_, rfl⟩
              replace H : (if (ji24) > 0 then (tattlelaw01_WireLong.j0 k a2 t123 true) else (if (t123.size : Int) > 1 then (if 0 ≤ (wrap64 (7 * (wrap64 ((t123.size : Int) - 1)))) then (tattlelaw01_WireLong.j0 k a2 t123 ((shr .u64 (ji6) (wrap64 (7 * (wrap64 ((t123.size : Int) - 1))))) == 0)) else (none)) else (tattlelaw01_WireLong.j0 k a2 t123 false))) = some r := by first | (rw [hji24] at H; exact H) | (simp only [hji24] at H ⊢; exact H)
              have hji24_ : ((ji6) / 2 ^ min (ji22).toNat 64) = ji24 := hji24
              have hji24z : (ji22) ≤ 64 → ((ji6) / 2 ^ (ji22).toNat) = ji24 := shr_small hji24
              by_cases c25 : (ji24) > 0
              · rw [if_pos c25] at H
                have c25b0 : decide (0 < (ji24)) = true := decide_eq_true c25
                clear c25
                have H' := Aside0.mk H
                clear H
                go_wp2
                go_meet
                case rel => exact ⟨_, (true), (by first | rfl | (simp; done) | (simp [*]; done)), H', ⟨by first | omega | exact Nat.le_refl _⟩, ⟨by repeat (first | (with_reducible first | exact HB.out | apply below_alloc | apply pw_below_drewN | apply below_drew1) | exact HB.out)⟩⟩
              · rw [if_neg c25] at H
                have c25b0 : decide (0 < (ji24)) = false := decide_eq_false c25
                clear c25
                by_cases c26 : (t123.size : Int) > 1
                · rw [if_pos c26] at H
                  have c26b0 : decide (1 < (t123.size : Int)) = true := decide_eq_true c26
                  have c26b1 : decide (1 < t123.size) = true := decide_eq_true (by omega)
                  clear c26
                  obtain ⟨ji28, hji28⟩ : ∃ j_ : Int, (wrap64 (7 * (wrap64 ((t123.size : Int) - 1)))) = j_ := ⟨_, rfl⟩
                  replace H : (if 0 ≤ (ji28) then (tattlelaw01_WireLong.j0 k a2 t123 ((shr .u64 (ji6) (ji28)) == 0)) else (none)) = some r := by first | (rw [hji28] at H; exact H) | (simp only [hji28] at H ⊢; exact H)
                  have hji28w : (IntKind.i64.wrap (7 * (wrap64 ((t123.size : Int) - 1)))) = ji28 := (i64_w _).trans hji28
                  by_cases c29 : 0 ≤ (ji28)
                  · rw [if_pos c29] at H
                    have c29b0 := eq_true c29
                    have c29b1 : decide (0 ≤ (ji28)) = true := decide_eq_true c29
                    clear c29
                    obtain ⟨ji30, hji30⟩ : ∃ j_ : Int, (shr .u64 (ji6) (ji28)) = j_ := ⟨_, rfl⟩
                    replace H : (tattlelaw01_WireLong.j0 k a2 t123 ((ji30) == 0)) = some r := by first | (rw [hji30] at H; exact H) | (simp only [hji30] at H ⊢; exact H)
                    have hji30_ : ((ji6) / 2 ^ min (ji28).toNat 64) = ji30 := hji30
                    have hji30z : (ji28) ≤ 64 → ((ji6) / 2 ^ (ji28).toNat) = ji30 := shr_small hji30
                    have H' := Aside0.mk H
                    clear H
                    go_wp2
                    go_meet
                    case rel => exact ⟨_, (((ji30) == 0)), (by first | rfl | (simp; done) | (simp only [← hji30] <;> (first | rfl | simp)) | (simp [*]; done)), H', ⟨by first | omega | exact Nat.le_refl _⟩, ⟨by repeat (first | (with_reducible first | exact HB.out | apply below_alloc | apply pw_below_drewN | apply below_drew1) | exact HB.out)⟩⟩
                  · rw [if_neg c29] at H
                    exact absurd H (by simp)
                · rw [if_neg c26] at H
                  have c26b0 : decide (1 < (t123.size : Int)) = false := decide_eq_false c26
                  have c26b1 : decide (1 < t123.size) = false := decide_eq_false (by omega)
                  clear c26
                  have H' := Aside0.mk H
                  clear H
                  go_wp2
                  go_meet
                  case rel => exact ⟨_, (false), (by first | rfl | (simp; done) | (simp [*]; done)), H', ⟨by first | omega | exact Nat.le_refl _⟩, ⟨by repeat (first | (with_reducible first | exact HB.out | apply below_alloc | apply pw_below_drewN | apply below_drew1) | exact HB.out)⟩⟩
            · rw [if_neg c23] at H
              exact absurd H (by simp)
          · rw [if_neg c20] at H
            have c20b0 : decide ((t123.size : Int) < 10) = false := decide_eq_false c20
            have c20b1 : decide (t123.size < 10) = false := decide_eq_false (by omega)
            clear c20
            by_cases c31 : (t123.size : Int) > 1
            · rw [if_pos c31] at H
              have c31b0 : decide (1 < (t123.size : Int)) = true := decide_eq_true c31
              have c31b1 : decide (1 < t123.size) = true := decide_eq_true (by omega)
              clear c31
              obtain ⟨ji33, hji33⟩ : ∃ j_ : Int, (wrap64 (7 * (wrap64 ((t123.size : Int) - 1)))) = j_ := ⟨_, rfl⟩
              replace H : (if 0 ≤ (ji33) then (tattlelaw01_WireLong.j0 k a2 t123 ((shr .u64 (ji6) (ji33)) == 0)) else (none)) = some r := by first | (rw [hji33] at H; exact H) | (simp only [hji33] at H ⊢; exact H)
              have hji33w : (IntKind.i64.wrap (7 * (wrap64 ((t123.size : Int) - 1)))) = ji33 := (i64_w _).trans hji33
              by_cases c34 : 0 ≤ (ji33)
              · rw [if_pos c34] at H
                have c34b0 := eq_true c34
                have c34b1 : decide (0 ≤ (ji33)) = true := decide_eq_true c34
                clear c34
                obtain ⟨ji35, hji35⟩ : ∃ j_ : Int, (shr .u64 (ji6) (ji33)) = j_ := ⟨_, rfl⟩
                replace H : (tattlelaw01_WireLong.j0 k a2 t123 ((ji35) == 0)) = some r := by first | (rw [hji35] at H; exact H) | (simp only [hji35] at H ⊢; exact H)
                have hji35_ : ((ji6) / 2 ^ min (ji33).toNat 64) = ji35 := hji35
                have hji35z : (ji33) ≤ 64 → ((ji6) / 2 ^ (ji33).toNat) = ji35 := shr_small hji35
                have H' := Aside0.mk H
                clear H
                go_wp2
                go_meet
                case rel => exact ⟨_, (((ji35) == 0)), (by first | rfl | (simp; done) | (simp only [← hji35] <;> (first | rfl | simp)) | (simp [*]; done)), H', ⟨by first | omega | exact Nat.le_refl _⟩, ⟨by repeat (first | (with_reducible first | exact HB.out | apply below_alloc | apply pw_below_drewN | apply below_drew1) | exact HB.out)⟩⟩
              · rw [if_neg c34] at H
                exact absurd H (by simp)
            · rw [if_neg c31] at H
              have c31b0 : decide (1 < (t123.size : Int)) = false := decide_eq_false c31
              have c31b1 : decide (1 < t123.size) = false := decide_eq_false (by omega)
              clear c31
              have H' := Aside0.mk H
              clear H
              go_wp2
              go_meet
              case rel => exact ⟨_, (false), (by first | rfl | (simp; done) | (simp [*]; done)), H', ⟨by first | omega | exact Nat.le_refl _⟩, ⟨by repeat (first | (with_reducible first | exact HB.out | apply below_alloc | apply pw_below_drewN | apply below_drew1) | exact HB.out)⟩⟩
  case rest =>
    clear HC8
    try clear c1
    try clear c2
    try clear p2
    try clear c3
    try clear c5
    try clear p6
    try clear c13
    try clear c17
    try clear c17b0
    try clear c17b1
    try clear c18
    try clear c18b0
    try clear c18b1
    try clear c19
    try clear c19b0
    try clear c19b1
    try clear c20
    try clear c20b0
    try clear c20b1
    try clear c21
    try clear c21b0
    try clear c23
    try clear c23b0
    try clear c23b1
    try clear c25
    try clear c25b0
    try clear c26
    try clear c26b0
    try clear c26b1
    try clear c27
    try clear c27b0
    try clear c29
    try clear c29b0
    try clear c29b1
    try clear c31
    try clear c31b0
    try clear c31b1
    try clear c32
    try clear c32b0
    try clear c34
    try clear c34b0
    try clear c34b1
    obtain ⟨kq, x67_7, rfl, HA, HJ7, HB⟩ := hcut
    cases kq with
    | zero => exact absurd HA.out (by simp [tattlelaw01_WireLong.j0])
    | succ kj7 =>
      have H := HA.out
      clear HA
      simp only [tattlelaw01_WireLong.j0] at H
      by_cases c36 : x67_7 = true
      · subst c36
        have H1 : (none) = some r := by rw [if_pos rfl] at H; exact H
        clear H
        have H := H1
        clear H1
        exact absurd H (by simp)
      · replace c36 := Bool.eq_false_iff.mpr c36
        subst c36
        have H1 : (if (t123.size : Int) = 0 then (none) else (if 0 ≤ (Int.tmod (wrap64 (a2)) (t123.size : Int)) then (if (Int.tmod (wrap64 (a2)) (t123.size : Int)) ≤ (t123.size : Int) then ((wire_TakeNum.f kj7 (t123.extract 0 ((Int.tmod (wrap64 (a2)) (t123.size : Int)) : Int).toNat) 0).bind fun bt124 => (if bt124.2.2 = 3 then (if bt124.2.1 = 0 then ((tattlelaw01_awake.f kj7).bind fun t127 => (some t127)) else (none)) else (none))) else (none)) else (none))) = some r := by rw [if_neg (show ¬ (false = true) by decide)] at H; exact H
        clear H
        have H := H1
        clear H1
        by_cases c37 : (t123.size : Int) = 0
        · rw [if_pos c37] at H
          exact absurd H (by simp)
        · rw [if_neg c37] at H
          have c37b0 : ((t123.size : Int) == 0) = false := beq_eq_false_iff_ne.mpr c37
          have c37b1 : ((t123.size : Int) != 0) = true := bne_iff_ne.mpr c37
          obtain ⟨ji38, hji38⟩ : ∃ j_ : Int, (Int.tmod (wrap64 (a2)) (t123.size : Int)) = j_ := ⟨_, rfl⟩
          replace H : (if 0 ≤ (ji38) then (if (ji38) ≤ (t123.size : Int) then ((wire_TakeNum.f kj7 (t123.extract 0 ((ji38) : Int).toNat) 0).bind fun bt124 => (if bt124.2.2 = 3 then (if bt124.2.1 = 0 then ((tattlelaw01_awake.f kj7).bind fun t127 => (some t127)) else (none)) else (none))) else (none)) else (none)) = some r := by first | (rw [hji38] at H; exact H) | (simp only [hji38] at H ⊢; exact H)
          by_cases c39 : 0 ≤ (ji38)
          · rw [if_pos c39] at H
            have c39b0 := eq_true c39
            have c39b1 : decide (0 ≤ (ji38)) = true := decide_eq_true c39
            clear c39
            by_cases c40 : (ji38) ≤ (t123.size : Int)
            · rw [if_pos c40] at H
              have c40b0 := eq_true c40
              have c40b1 : decide ((ji38) ≤ (t123.size : Int)) = true := decide_eq_true c40
              clear c40
              replace H := Option.bind_eq_some_iff.mp H
              obtain ⟨⟨t124, t125, t126⟩, A410, H⟩ := H
              replace H : (if t126 = 3 then (if t125 = 0 then ((tattlelaw01_awake.f kj7).bind fun t127 => (some t127)) else (none)) else (none)) = some r := H
              have A41 := Aside0.mk A410
              clear A410
              by_cases c42 : t126 = 3
              · rw [if_pos c42] at H
                have c42b0 : (t126 == 3) = true := beq_iff_eq.mpr c42
                have c42b1 : (t126 != 3) = false := bne_eq_false_iff_eq.mpr c42
                clear c42
                by_cases c43 : t125 = 0
                · rw [if_pos c43] at H
                  have c43b0 : (t125 == 0) = true := beq_iff_eq.mpr c43
                  have c43b1 : (t125 != 0) = false := bne_eq_false_iff_eq.mpr c43
                  clear c43
                  replace H := Option.bind_eq_some_iff.mp H
                  obtain ⟨t127, A440, H⟩ := H
                  replace H : (some t127) = some r := H
                  have A44 := Aside0.mk A440
                  clear A440
                  obtain rfl := Option.some.inj H
                  go_wp2_with (first | ((with_reducible refine gate_callee (f := 11) rfl ?_); refine goesL_ (some 76) rfl rfl Try.func11 (by kernel_rfl) rfl #[.string (t123.extract 0 ((ji38) : Int).toNat), .int .i64 0] rfl (by (try simp only [List.map_toArray, List.map_cons, List.map_nil]); first | done | (simp only [hji38]; rfl) | rfl | (simp only [List.length_drop, List.length_take]; rfl)) ?_; (with_reducible refine (wire_TakeNum.calls kj7 (t123.extract 0 ((ji38) : Int).toNat) 0 t124 t125 t126 _ A41.out).mono ?_); rintro e w' ⟨rfl, ⟨nd, rfl⟩⟩; refine ⟨_, rfl, ?_⟩) | (go_at_call 15; (with_reducible refine (tattlelaw01_awake.calls kj7  t127 _ A44.out).mono ?_); rintro e w45 ⟨rfl, hb⟩; have n0_ := Aside0.mk (below_step (by repeat (first | (with_reducible first | exact HB.out | apply below_alloc | apply pw_below_drewN | apply below_drew1) | exact HB.out)) hb); clear HB; have HB := n0_; clear n0_; (try clear hb); (try clear hb2); (try clear hk); (try clear hi)))
                  go_ret
                  exact ⟨by first | rfl | (simp [errW_none, errW_some] <;> rfl) | (simp only [← hji4, ← hji6, ← hji38]; first | rfl | (simp [errW_none, errW_some] <;> rfl)) | (simp [*, errW_none, errW_some] <;> rfl), by repeat (first | (with_reducible first | exact HB.out | apply below_alloc | apply pw_below_drewN | apply below_drew1) | exact HB.out)⟩
                · rw [if_neg c43] at H
                  exact absurd H (by simp)
              · rw [if_neg c42] at H
                exact absurd H (by simp)
            · rw [if_neg c40] at H
              exact absurd H (by simp)
          · rw [if_neg c39] at H
            exact absurd H (by simp)

/-- THE ONE PURE STATEMENT of tattlelaw01_WireLong: yours. -/
def tattlelaw01_WireLong.Pure : Prop := ∀ (a0 : Int) (a1 : Int) (a2 : Int), (Lit.int .u64 a0).wf = true → (Lit.int .u64 a1).wf = true → (Lit.int .u8 a2).wf = true → ∃ k, tattlelaw01_WireLong.f k a0 a1 a2 = some true
theorem tattlelaw01_WireLong.walk (P : tattlelaw01_WireLong.Pure) (a0 : Int) (a1 : Int) (a2 : Int) (w : World) (w0 : (Lit.int .u64 a0).wf = true) (w1 : (Lit.int .u64 a1).wf = true) (w2 : (Lit.int .u8 a2).wf = true) :
    Calls Try.prog 5 #[.int .u64 a0, .int .u64 a1, .int .u8 a2] w fun e w' => e = .returned (.bool true) ∧ Below w.heap.size w w' := by
  obtain ⟨k, h⟩ := P a0 a1 a2 w0 w1 w2
  refine (tattlelaw01_WireLong.calls k a0 a1 a2 true w h).mono ?_
  rintro e w' ⟨rfl, hd⟩
  exact ⟨rfl, hd⟩

end Go.Proofs.Ytmehdghhnmnmiaa.PWireLong
