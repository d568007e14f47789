-- Written by a program of this session (see NOTES.md) out of the print of Lean's own loaded functions; Lean checks it.
import Derived.Test.YtmehdghhnmnmiaaPWireNumsx0
import Derived.Test.YtmehdghhnmnmiaaPWireNumsx1
import Derived.Test.YtmehdghhnmnmiaaPWireNumsx2
namespace Go.Proofs.Ytmehdghhnmnmiaa.PWireNums
open Go.RowKit Go.Proofs.YtmehdghhnmnmiaaW.PrintWords Go.Proofs.YtmehdghhnmnmiaaW.PrintLast Go.Proofs.YtmehdghhnmnmiaaW.PrintMore
attribute [local go_sem] max2_int min2_int max_two min_two max_three min_three max_four min_four   -- for this text's walks alone
set_option linter.unusedVariables false
set_option linter.unusedSimpArgs false

/-! ### tattlelaw01_WireNums: function 3 -/
def tattlelaw01_WireNums.f (k : Nat) (l0 : List Int) (a1 : ByteArray) (a2 : Int) : Option (Bool) := (tattlelaw01_Few.f a1).bind fun t125 => (if (l0.length : Int) > 20 then (if 20 ≤ (l0.length : Int) then ((wire_TakeNum.f k t125 a2).bind fun bt127 => ((tattleref01_TakeNum.f k t125 a2).bind fun bt130 => ((wire_Num.f k (l0.take 20)).bind fun t133 => ((tattleref01_Nums.f k (l0.take 20)).bind fun t134 => (if t133.toList = t134.toList then (if bt127.1 = bt130.1 then (if bt127.2.1 = bt130.2.1 then (if bt127.2.2 = bt130.2.2 then ((tattlelaw01_awake.f k).bind fun t135 => (some t135)) else (none)) else (none)) else (none)) else (none)))))) else (none)) else ((wire_TakeNum.f k t125 a2).bind fun bt136 => ((tattleref01_TakeNum.f k t125 a2).bind fun bt139 => ((wire_Num.f k l0).bind fun t142 => ((tattleref01_Nums.f k l0).bind fun t143 => (if t142.toList = t143.toList then (if bt136.1 = bt139.1 then (if bt136.2.1 = bt139.2.1 then (if bt136.2.2 = bt139.2.2 then ((tattlelaw01_awake.f k).bind fun t144 => (some t144)) else (none)) else (none)) else (none)) else (none)))))))
theorem tattlelaw01_WireNums.mono : ∀ a0 a1 a2 k, LeO (tattlelaw01_WireNums.f k a0 a1 a2) (tattlelaw01_WireNums.f (k + 1) a0 a1 a2) := by
  intro a0 a1 a2 k
  unfold tattlelaw01_WireNums.f
  repeat' first
      | (with_reducible exact tattlelaw01_awake.mono _)
      | (with_reducible exact tattleref01_Nums.mono _ _)
      | (with_reducible exact tattleref01_TakeNum.mono _ _ _)
      | (with_reducible exact wire_Num.mono _ _)
      | (with_reducible exact wire_TakeNum.mono _ _ _)
      | (with_reducible exact LeO.refl _)
      | (with_reducible exact LeO.none _)
      | (with_reducible refine LeO.ite ?_ ?_)
      | (with_reducible refine LeO.bind ?_ (fun _ => ?_))
      | exact tattlelaw01_awake.mono _
      | exact tattleref01_Nums.mono _ _
      | exact tattleref01_TakeNum.mono _ _ _
      | exact wire_Num.mono _ _
      | exact wire_TakeNum.mono _ _ _
      | exact LeO.none _
      | refine LeO.ite ?_ ?_
      | refine LeO.bind ?_ (fun _ => ?_)
set_option maxHeartbeats 8000000 in
set_option maxRecDepth 100000 in
theorem tattlelaw01_WireNums.calls (k : Nat) (A0 : Option Addr) (c0 : Nat) (l0 : List Int) (a1 : ByteArray) (a2 : Int) (r : Bool) (w : World) (hr0 : Kd.C (Kd.int .u64) w A0 l0.length l0) (hc0 : l0.length ≤ c0) (h : tattlelaw01_WireNums.f k l0 a1 a2 = some r) :
    Calls Try.prog 3 #[.slice A0 l0.length c0, .string a1, .int .i64 a2] w fun e w' => e = .returned (.bool r) ∧ Below w.heap.size w w' := by
  have HR0 := Aside0.mk hr0
  have HC0 := Aside0.mk hc0
  clear hr0 hc0
  have HB := Aside0.mk (Below.refl w.heap.size w)
  have H : ((tattlelaw01_Few.f a1).bind fun t125 => (if (l0.length : Int) > 20 then (if 20 ≤ (l0.length : Int) then ((wire_TakeNum.f k t125 a2).bind fun bt127 => ((tattleref01_TakeNum.f k t125 a2).bind fun bt130 => ((wire_Num.f k (l0.take 20)).bind fun t133 => ((tattleref01_Nums.f k (l0.take 20)).bind fun t134 => (if t133.toList = t134.toList then (if bt127.1 = bt130.1 then (if bt127.2.1 = bt130.2.1 then (if bt127.2.2 = bt130.2.2 then ((tattlelaw01_awake.f k).bind fun t135 => (some t135)) else (none)) else (none)) else (none)) else (none)))))) else (none)) else ((wire_TakeNum.f k t125 a2).bind fun bt136 => ((tattleref01_TakeNum.f k t125 a2).bind fun bt139 => ((wire_Num.f k l0).bind fun t142 => ((tattleref01_Nums.f k l0).bind fun t143 => (if t142.toList = t143.toList then (if bt136.1 = bt139.1 then (if bt136.2.1 = bt139.2.1 then (if bt136.2.2 = bt139.2.2 then ((tattlelaw01_awake.f k).bind fun t144 => (some t144)) else (none)) else (none)) else (none)) else (none)))))))) = some r := h
  clear h
  replace H := Option.bind_eq_some_iff.mp H
  obtain ⟨t125, A40, H⟩ := H
  replace H : (if (l0.length : Int) > 20 then (if 20 ≤ (l0.length : Int) then ((wire_TakeNum.f k t125 a2).bind fun bt127 => ((tattleref01_TakeNum.f k t125 a2).bind fun bt130 => ((wire_Num.f k (l0.take 20)).bind fun t133 => ((tattleref01_Nums.f k (l0.take 20)).bind fun t134 => (if t133.toList = t134.toList then (if bt127.1 = bt130.1 then (if bt127.2.1 = bt130.2.1 then (if bt127.2.2 = bt130.2.2 then ((tattlelaw01_awake.f k).bind fun t135 => (some t135)) else (none)) else (none)) else (none)) else (none)))))) else (none)) else ((wire_TakeNum.f k t125 a2).bind fun bt136 => ((tattleref01_TakeNum.f k t125 a2).bind fun bt139 => ((wire_Num.f k l0).bind fun t142 => ((tattleref01_Nums.f k l0).bind fun t143 => (if t142.toList = t143.toList then (if bt136.1 = bt139.1 then (if bt136.2.1 = bt139.2.1 then (if bt136.2.2 = bt139.2.2 then ((tattlelaw01_awake.f k).bind fun t144 => (some t144)) else (none)) else (none)) else (none)) else (none))))))) = some r := H
  have A4 := Aside0.mk A40
  clear A40
  by_cases c5 : (l0.length : Int) > 20
  · rw [if_pos c5] at H
    have c5b0 : decide (20 < (l0.length : Int)) = true := decide_eq_true c5
    have c5b1 : decide (20 < l0.length) = true := decide_eq_true (by omega)
    clear c5
    by_cases c6 : 20 ≤ (l0.length : Int)
    · rw [if_pos c6] at H
      have c6b0 := eq_true c6
      have c6b1 : decide (20 ≤ (l0.length : Int)) = true := decide_eq_true c6
      clear c6
      replace H := Option.bind_eq_some_iff.mp H
      obtain ⟨⟨t127, t128, t129⟩, A70, H⟩ := H
      replace H : ((tattleref01_TakeNum.f k t125 a2).bind fun bt130 => ((wire_Num.f k (l0.take 20)).bind fun t133 => ((tattleref01_Nums.f k (l0.take 20)).bind fun t134 => (if t133.toList = t134.toList then (if t127 = bt130.1 then (if t128 = bt130.2.1 then (if t129 = bt130.2.2 then ((tattlelaw01_awake.f k).bind fun t135 => (some t135)) else (none)) else (none)) else (none)) else (none))))) = some r := H
      have A7 := Aside0.mk A70
      clear A70
      replace H := Option.bind_eq_some_iff.mp H
      obtain ⟨⟨t130, t131, t132⟩, A80, H⟩ := H
      replace H : ((wire_Num.f k (l0.take 20)).bind fun t133 => ((tattleref01_Nums.f k (l0.take 20)).bind fun t134 => (if t133.toList = t134.toList then (if t127 = t130 then (if t128 = t131 then (if t129 = t132 then ((tattlelaw01_awake.f k).bind fun t135 => (some t135)) else (none)) else (none)) else (none)) else (none)))) = some r := H
      have A8 := Aside0.mk A80
      clear A80
      replace H := Option.bind_eq_some_iff.mp H
      obtain ⟨t133, A90, H⟩ := H
      replace H : ((tattleref01_Nums.f k (l0.take 20)).bind fun t134 => (if t133.toList = t134.toList then (if t127 = t130 then (if t128 = t131 then (if t129 = t132 then ((tattlelaw01_awake.f k).bind fun t135 => (some t135)) else (none)) else (none)) else (none)) else (none))) = some r := H
      have A9 := Aside0.mk A90
      clear A90
      replace H := Option.bind_eq_some_iff.mp H
      obtain ⟨t134, A100, H⟩ := H
      replace H : (if t133.toList = t134.toList then (if t127 = t130 then (if t128 = t131 then (if t129 = t132 then ((tattlelaw01_awake.f k).bind fun t135 => (some t135)) else (none)) else (none)) else (none)) else (none)) = some r := H
      have A10 := Aside0.mk A100
      clear A100
      by_cases c11 : t133.toList = t134.toList
      · rw [if_pos c11] at H
        have c11b0 : (t133.toList == t134.toList) = true := beq_iff_eq.mpr c11
        have c11b1 : (t133.toList != t134.toList) = false := bne_eq_false_iff_eq.mpr c11
        clear c11
        by_cases c12 : t127 = t130
        · rw [if_pos c12] at H
          have c12b0 : (t127 == t130) = true := beq_iff_eq.mpr c12
          have c12b1 : (t127 != t130) = false := bne_eq_false_iff_eq.mpr c12
          clear c12
          by_cases c13 : t128 = t131
          · rw [if_pos c13] at H
            have c13b0 : (t128 == t131) = true := beq_iff_eq.mpr c13
            have c13b1 : (t128 != t131) = false := bne_eq_false_iff_eq.mpr c13
            clear c13
            by_cases c14 : t129 = t132
            · rw [if_pos c14] at H
              have c14b0 : (t129 == t132) = true := beq_iff_eq.mpr c14
              have c14b1 : (t129 != t132) = false := bne_eq_false_iff_eq.mpr c14
              clear c14
              replace H := Option.bind_eq_some_iff.mp H
              obtain ⟨t135, A150, H⟩ := H
              replace H : (some t135) = some r := H
              have A15 := Aside0.mk A150
              clear A150
              obtain rfl := Option.some.inj H
              go_enter Try.func3, Try.ntmps3
              go_wp2_with (first | ((with_reducible refine gate_callee (f := 10) rfl ?_); refine goesL_ (some 14) rfl rfl Try.func10 (by kernel_rfl) rfl #[.string a1] rfl (by (try simp only [List.map_toArray, List.map_cons, List.map_nil]); first | done | rfl | (simp only [List.length_drop, List.length_take]; rfl)) ?_; (with_reducible refine (tattlelaw01_Few.calls a1 t125 _ A4.out).mono ?_); rintro e w' ⟨rfl, ⟨nd, rfl⟩⟩; refine ⟨_, rfl, ?_⟩; obtain ⟨i016, hi016, _, hsz16, _⟩ := info_parts info24; obtain ⟨hcut16, hA16, hC16⟩ := print_take_of (P := Try.prog) (Value.int .u64) 0 22 24 .i64 Try.underlying22 hi016 hsz16 A0 c0 l0 20 (by omega) (of_decide_eq_true (by first | (with_reducible assumption) | assumption)) HC0.out; have HR126 := Aside0.mk (Kd.C_of_reads (h1 := fun _ => rfl) (hA16 _ (Kd.reads_of_C HR0.out))); have HC126 := Aside0.mk hC16; clear hA16 hC16 hi016 hsz16) | ((with_reducible refine gate_callee (f := 11) rfl ?_); refine goesL_ (some 23) rfl rfl Try.func11 (by kernel_rfl) rfl #[.string t125, .int .i64 a2] rfl (by (try simp only [List.map_toArray, List.map_cons, List.map_nil]); first | done | rfl | (simp only [List.length_drop, List.length_take]; rfl)) ?_; (with_reducible refine (wire_TakeNum.calls k t125 a2 t127 t128 t129 _ A7.out).mono ?_); rintro e w' ⟨rfl, ⟨nd, rfl⟩⟩; refine ⟨_, rfl, ?_⟩) | ((with_reducible refine gate_callee (f := 12) rfl ?_); refine goesL_ (some 30) rfl rfl Try.func12 (by kernel_rfl) rfl #[.string t125, .int .i64 a2] rfl (by (try simp only [List.map_toArray, List.map_cons, List.map_nil]); first | done | rfl | (simp only [List.length_drop, List.length_take]; rfl)) ?_; (with_reducible refine (tattleref01_TakeNum.calls k t125 a2 t130 t131 t132 _ A8.out).mono ?_); rintro e w' ⟨rfl, ⟨nd, rfl⟩⟩; refine ⟨_, rfl, ?_⟩) | ((with_reducible refine gate_callee (f := 13) rfl ?_); refine goesL_ (some 35) rfl rfl Try.func13 (by kernel_rfl) rfl #[.slice A0 (l0.take 20).length c0] rfl (by (try simp only [List.map_toArray, List.map_cons, List.map_nil]); first | done | (rw [show (l0.take 20).length = 20 from (by rw [List.length_take]; have h_ : (20 : Int) ≤ (l0.length : Int) := of_decide_eq_true (by first | (with_reducible assumption) | assumption); omega)] <;> rfl) | rfl | (simp only [List.length_drop, List.length_take]; rfl)) ?_; (with_reducible refine (wire_Num.calls k _ _ (l0.take 20) t133 _ ?side1 ?side2 A9.out).mono ?_); (case side1 => repeat (first | exact HR126.out | (with_reducible refine Kd.C_alloc ?_ _) | (with_reducible refine Kd.C_drewN ?_ _) | (with_reducible refine Kd.C_drew ?_))); (case side2 => exact HC126.out); rintro e w17 ⟨rfl, hb⟩; refine ⟨_, rfl, ?_⟩; have n0_ := Aside0.mk (below_step (by repeat (first | (with_reducible first | exact HB.out | apply below_alloc | apply pw_below_drewN | apply below_drew1) | exact HB.out)) hb); clear HB; have HB := n0_; clear n0_; (try clear hb); (try clear hb2); (try clear hk); (try clear hi)) | ((with_reducible refine gate_callee (f := 14) rfl ?_); refine goesL_ (some 37) rfl rfl Try.func14 (by kernel_rfl) rfl #[.slice A0 (l0.take 20).length c0] rfl (by (try simp only [List.map_toArray, List.map_cons, List.map_nil]); first | done | (rw [show (l0.take 20).length = 20 from (by rw [List.length_take]; have h_ : (20 : Int) ≤ (l0.length : Int) := of_decide_eq_true (by first | (with_reducible assumption) | assumption); omega)] <;> rfl) | rfl | (simp only [List.length_drop, List.length_take]; rfl)) ?_; (with_reducible refine (tattleref01_Nums.calls k _ _ (l0.take 20) t134 _ ?side1 ?side2 A10.out).mono ?_); (case side1 => repeat (first | exact (Kd.C_below HR126.out HB.out) | (with_reducible refine Kd.C_alloc ?_ _) | (with_reducible refine Kd.C_drewN ?_ _) | (with_reducible refine Kd.C_drew ?_))); (case side2 => exact HC126.out); rintro e w18 ⟨rfl, hb⟩; refine ⟨_, rfl, ?_⟩; have n0_ := Aside0.mk (below_step (by repeat (first | (with_reducible first | exact HB.out | apply below_alloc | apply pw_below_drewN | apply below_drew1) | exact HB.out)) hb); clear HB; have HB := n0_; clear n0_; (try clear hb); (try clear hb2); (try clear hk); (try clear hi)) | (go_at_call 15; (with_reducible refine (tattlelaw01_awake.calls k  t135 _ A15.out).mono ?_); rintro e w19 ⟨rfl, hb⟩; have n0_ := Aside0.mk (below_step (by repeat (first | (with_reducible first | exact HB.out | apply below_alloc | apply pw_below_drewN | apply below_drew1) | exact HB.out)) hb); clear HB; have HB := n0_; clear n0_; (try clear hb); (try clear hb2); (try clear hk); (try clear hi)))
              go_ret
              exact ⟨by first | rfl | (simp [errW_none, errW_some] <;> rfl) | (simp [*, errW_none, errW_some] <;> rfl), by repeat (first | (with_reducible first | exact HB.out | apply below_alloc | apply pw_below_drewN | apply below_drew1) | exact HB.out)⟩
            · rw [if_neg c14] at H
              exact absurd H (by simp)
          · rw [if_neg c13] at H
            exact absurd H (by simp)
        · rw [if_neg c12] at H
          exact absurd H (by simp)
      · rw [if_neg c11] at H
        exact absurd H (by simp)
    · rw [if_neg c6] at H
      exact absurd H (by simp)
  · rw [if_neg c5] at H
    have c5b0 : decide (20 < (l0.length : Int)) = false := decide_eq_false c5
    have c5b1 : decide (20 < l0.length) = false := decide_eq_false (by omega)
    clear c5
    replace H := Option.bind_eq_some_iff.mp H
    obtain ⟨⟨t136, t137, t138⟩, A200, H⟩ := H
    replace H : ((tattleref01_TakeNum.f k t125 a2).bind fun bt139 => ((wire_Num.f k l0).bind fun t142 => ((tattleref01_Nums.f k l0).bind fun t143 => (if t142.toList = t143.toList then (if t136 = bt139.1 then (if t137 = bt139.2.1 then (if t138 = bt139.2.2 then ((tattlelaw01_awake.f k).bind fun t144 => (some t144)) else (none)) else (none)) else (none)) else (none))))) = some r := H
    have A20 := Aside0.mk A200
    clear A200
    replace H := Option.bind_eq_some_iff.mp H
    obtain ⟨⟨t139, t140, t141⟩, A210, H⟩ := H
    replace H : ((wire_Num.f k l0).bind fun t142 => ((tattleref01_Nums.f k l0).bind fun t143 => (if t142.toList = t143.toList then (if t136 = t139 then (if t137 = t140 then (if t138 = t141 then ((tattlelaw01_awake.f k).bind fun t144 => (some t144)) else (none)) else (none)) else (none)) else (none)))) = some r := H
    have A21 := Aside0.mk A210
    clear A210
    replace H := Option.bind_eq_some_iff.mp H
    obtain ⟨t142, A220, H⟩ := H
    replace H : ((tattleref01_Nums.f k l0).bind fun t143 => (if t142.toList = t143.toList then (if t136 = t139 then (if t137 = t140 then (if t138 = t141 then ((tattlelaw01_awake.f k).bind fun t144 => (some t144)) else (none)) else (none)) else (none)) else (none))) = some r := H
    have A22 := Aside0.mk A220
    clear A220
    replace H := Option.bind_eq_some_iff.mp H
    obtain ⟨t143, A230, H⟩ := H
    replace H : (if t142.toList = t143.toList then (if t136 = t139 then (if t137 = t140 then (if t138 = t141 then ((tattlelaw01_awake.f k).bind fun t144 => (some t144)) else (none)) else (none)) else (none)) else (none)) = some r := H
    have A23 := Aside0.mk A230
    clear A230
    by_cases c24 : t142.toList = t143.toList
    · rw [if_pos c24] at H
      have c24b0 : (t142.toList == t143.toList) = true := beq_iff_eq.mpr c24
      have c24b1 : (t142.toList != t143.toList) = false := bne_eq_false_iff_eq.mpr c24
      clear c24
      by_cases c25 : t136 = t139
      · rw [if_pos c25] at H
        have c25b0 : (t136 == t139) = true := beq_iff_eq.mpr c25
        have c25b1 : (t136 != t139) = false := bne_eq_false_iff_eq.mpr c25
        clear c25
        by_cases c26 : t137 = t140
        · rw [if_pos c26] at H
          have c26b0 : (t137 == t140) = true := beq_iff_eq.mpr c26
          have c26b1 : (t137 != t140) = false := bne_eq_false_iff_eq.mpr c26
          clear c26
          by_cases c27 : t138 = t141
          · rw [if_pos c27] at H
            have c27b0 : (t138 == t141) = true := beq_iff_eq.mpr c27
            have c27b1 : (t138 != t141) = false := bne_eq_false_iff_eq.mpr c27
            clear c27
            replace H := Option.bind_eq_some_iff.mp H
            obtain ⟨t144, A280, H⟩ := H
            replace H : (some t144) = some r := H
            have A28 := Aside0.mk A280
            clear A280
            obtain rfl := Option.some.inj H
            go_enter Try.func3, Try.ntmps3
            go_wp2_with (first | ((with_reducible refine gate_callee (f := 10) rfl ?_); refine goesL_ (some 14) rfl rfl Try.func10 (by kernel_rfl) rfl #[.string a1] rfl (by (try simp only [List.map_toArray, List.map_cons, List.map_nil]); first | done | rfl | (simp only [List.length_drop, List.length_take]; rfl)) ?_; (with_reducible refine (tattlelaw01_Few.calls a1 t125 _ A4.out).mono ?_); rintro e w' ⟨rfl, ⟨nd, rfl⟩⟩; refine ⟨_, rfl, ?_⟩) | ((with_reducible refine gate_callee (f := 11) rfl ?_); refine goesL_ (some 23) rfl rfl Try.func11 (by kernel_rfl) rfl #[.string t125, .int .i64 a2] rfl (by (try simp only [List.map_toArray, List.map_cons, List.map_nil]); first | done | rfl | (simp only [List.length_drop, List.length_take]; rfl)) ?_; (with_reducible refine (wire_TakeNum.calls k t125 a2 t136 t137 t138 _ A20.out).mono ?_); rintro e w' ⟨rfl, ⟨nd, rfl⟩⟩; refine ⟨_, rfl, ?_⟩) | ((with_reducible refine gate_callee (f := 12) rfl ?_); refine goesL_ (some 30) rfl rfl Try.func12 (by kernel_rfl) rfl #[.string t125, .int .i64 a2] rfl (by (try simp only [List.map_toArray, List.map_cons, List.map_nil]); first | done | rfl | (simp only [List.length_drop, List.length_take]; rfl)) ?_; (with_reducible refine (tattleref01_TakeNum.calls k t125 a2 t139 t140 t141 _ A21.out).mono ?_); rintro e w' ⟨rfl, ⟨nd, rfl⟩⟩; refine ⟨_, rfl, ?_⟩) | ((with_reducible refine gate_callee (f := 13) rfl ?_); refine goesL_ (some 35) rfl rfl Try.func13 (by kernel_rfl) rfl #[.slice A0 l0.length c0] rfl (by (try simp only [List.map_toArray, List.map_cons, List.map_nil]); first | done | rfl | (simp only [List.length_drop, List.length_take]; rfl)) ?_; (with_reducible refine (wire_Num.calls k _ _ l0 t142 _ ?side1 ?side2 A22.out).mono ?_); (case side1 => repeat (first | exact HR0.out | (with_reducible refine Kd.C_alloc ?_ _) | (with_reducible refine Kd.C_drewN ?_ _) | (with_reducible refine Kd.C_drew ?_))); (case side2 => exact HC0.out); rintro e w29 ⟨rfl, hb⟩; refine ⟨_, rfl, ?_⟩; have n0_ := Aside0.mk (below_step (by repeat (first | (with_reducible first | exact HB.out | apply below_alloc | apply pw_below_drewN | apply below_drew1) | exact HB.out)) hb); clear HB; have HB := n0_; clear n0_; (try clear hb); (try clear hb2); (try clear hk); (try clear hi)) | ((with_reducible refine gate_callee (f := 14) rfl ?_); refine goesL_ (some 37) rfl rfl Try.func14 (by kernel_rfl) rfl #[.slice A0 l0.length c0] rfl (by (try simp only [List.map_toArray, List.map_cons, List.map_nil]); first | done | rfl | (simp only [List.length_drop, List.length_take]; rfl)) ?_; (with_reducible refine (tattleref01_Nums.calls k _ _ l0 t143 _ ?side1 ?side2 A23.out).mono ?_); (case side1 => repeat (first | exact (Kd.C_below HR0.out HB.out) | (with_reducible refine Kd.C_alloc ?_ _) | (with_reducible refine Kd.C_drewN ?_ _) | (with_reducible refine Kd.C_drew ?_))); (case side2 => exact HC0.out); rintro e w30 ⟨rfl, hb⟩; refine ⟨_, rfl, ?_⟩; have n0_ := Aside0.mk (below_step (by repeat (first | (with_reducible first | exact HB.out | apply below_alloc | apply pw_below_drewN | apply below_drew1) | exact HB.out)) hb); clear HB; have HB := n0_; clear n0_; (try clear hb); (try clear hb2); (try clear hk); (try clear hi)) | (go_at_call 15; (with_reducible refine (tattlelaw01_awake.calls k  t144 _ A28.out).mono ?_); rintro e w31 ⟨rfl, hb⟩; have n0_ := Aside0.mk (below_step (by repeat (first | (with_reducible first | exact HB.out | apply below_alloc | apply pw_below_drewN | apply below_drew1) | exact HB.out)) hb); clear HB; have HB := n0_; clear n0_; (try clear hb); (try clear hb2); (try clear hk); (try clear hi)))
            go_ret
            exact ⟨by first | rfl | (simp [errW_none, errW_some] <;> rfl) | (simp [*, errW_none, errW_some] <;> rfl), by repeat (first | (with_reducible first | exact HB.out | apply below_alloc | apply pw_below_drewN | apply below_drew1) | exact HB.out)⟩
          · rw [if_neg c27] at H
            exact absurd H (by simp)
        · rw [if_neg c26] at H
          exact absurd H (by simp)
      · rw [if_neg c25] at H
        exact absurd H (by simp)
    · rw [if_neg c24] at H
      exact absurd H (by simp)

/-- THE ONE PURE STATEMENT of tattlelaw01_WireNums: yours. -/
def tattlelaw01_WireNums.Pure : Prop := ∀ (l0 : List Int) (a1 : ByteArray) (a2 : Int), l0.length ≤ maxLen → l0.length * 8 ≤ 140737488351232 → (∀ x ∈ l0, (Lit.int .u64 x).wf = true) → a1.size ≤ 140737488351232 → (Lit.int .i64 a2).wf = true → ∃ k, tattlelaw01_WireNums.f k l0 a1 a2 = some true
theorem tattlelaw01_WireNums.walk (P : tattlelaw01_WireNums.Pure) (a0 : Option Addr) (len0 cap0 : Nat) (z0 : List Int) (a1 : ByteArray) (a2 : Int) (w : World) (w0 : (a0 = none ∧ len0 = 0 ∧ cap0 = 0 ∧ z0 = []) ∨ ∃ x, a0 = some x ∧ len0 ≤ cap0 ∧ cap0 ≤ maxLen ∧ z0.length = cap0 ∧ (∀ i, i < z0.length → w.cell? (x.add i) = some (.int .u64 (z0.getD i 0))) ∧ ∀ n ∈ z0, (Lit.int .u64 n).wf = true) (y0 : len0 * 8 ≤ 140737488351232) (w1 : a1.size ≤ 140737488351232) (w2 : (Lit.int .i64 a2).wf = true) :
    Calls Try.prog 3 #[.slice a0 len0 cap0, .string a1, .int .i64 a2] w fun e w' => e = .returned (.bool true) ∧ Below w.heap.size w w' := by
  obtain ⟨l0, rfl, hr0, hm0, hw0, hc0⟩ := ReadsInt.ofRowC w0
  obtain ⟨k, h⟩ := P l0 a1 a2 hm0 y0 hw0 w1 w2
  refine (tattlelaw01_WireNums.calls k _ _ l0 a1 a2 true w (Kd.C_of_reads (d := (0 : Int)) (h1 := fun _ => rfl) hr0) hc0 h).mono ?_
  rintro e w' ⟨rfl, hd⟩
  exact ⟨rfl, hd⟩

end Go.Proofs.Ytmehdghhnmnmiaa.PWireNums
