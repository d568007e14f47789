-- Written by a program of this session (see NOTES.md) out of the print of Lean's own loaded functions; Lean checks it.
import Derived.Test.YtmehdghhnmnmiaaPWireSealsx0
import Derived.Test.YtmehdghhnmnmiaaPWireSealsx1
import Derived.Test.YtmehdghhnmnmiaaPWireSealsx2
namespace Go.Proofs.Ytmehdghhnmnmiaa.PWireSeals
open Go.RowKit Go.Proofs.YtmehdghhnmnmiaaW.PrintWords Go.Proofs.YtmehdghhnmnmiaaW.PrintLast Go.Proofs.YtmehdghhnmnmiaaW.PrintMore
attribute [local go_sem] max2_int min2_int max_two min_two max_three min_three max_four min_four   -- for this text's walks alone
set_option linter.unusedVariables false
set_option linter.unusedSimpArgs false

/-! ### tattlelaw01_WireSeals: function 8 -/
mutual
def tattlelaw01_WireSeals.j0 : Nat → ByteArray → Option (Bool)
  | 0, _ => none
  | k + 1, x0 => (wire_Seal.f x0).bind fun bt128 => ((wire_Open.f x0).bind fun bt130 => ((tattleref01_Open.f k x0).bind fun bt132 => (if bt130.1.toList = bt132.1.toList then (if bt130.2 = bt132.2 then ((wire_Sum.f x0).bind fun t134 => ((tattleref01_Sum.f k x0).bind fun t135 => (tattlelaw01_WireSeals.j1 k x0 bt128.1 bt128.2 (t134 != t135)))) else (tattlelaw01_WireSeals.j1 k x0 bt128.1 bt128.2 true)) else (tattlelaw01_WireSeals.j1 k x0 bt128.1 bt128.2 true))))
def tattlelaw01_WireSeals.j1 : Nat → ByteArray → ByteArray → Int → Bool → Option (Bool)
  | 0, _, _, _, _ => none
  | k + 1, x0, x3, x4, x43 => if x43 = true then (none) else (if (x0.size : Int) > 4096 then (if x3.toList = ([] : List UInt8) then (if x4 = 4 then ((tattlelaw01_awake.f k).bind fun t136 => (some t136)) else (none)) else (none)) else ((tattleref01_Seal.f k x0).bind fun t137 => (if x3.toList = t137.toList then (if x4 = 0 then ((tattlelaw01_awake.f k).bind fun t138 => (some t138)) else (none)) else (none))))
end
def tattlelaw01_WireSeals.f (k : Nat) (a0 : ByteArray) : Option (Bool) := if (a0.size : Int) > 4110 then (if 0 ≤ 4110 then (if 4110 ≤ (a0.size : Int) then (tattlelaw01_WireSeals.j0 k (a0.extract 0 4110)) else (none)) else (none)) else (tattlelaw01_WireSeals.j0 k a0)
theorem tattlelaw01_WireSeals.mono_l : ∀ k, (∀ y0, LeO (tattlelaw01_WireSeals.j0 k y0) (tattlelaw01_WireSeals.j0 (k + 1) y0)) ∧ (∀ y0 y1 y2 y3, LeO (tattlelaw01_WireSeals.j1 k y0 y1 y2 y3) (tattlelaw01_WireSeals.j1 (k + 1) y0 y1 y2 y3))
  | 0 => ⟨fun _ r h => by simp [tattlelaw01_WireSeals.j0] at h, fun _ _ _ _ r h => by simp [tattlelaw01_WireSeals.j1] at h⟩
  | k + 1 => by
    obtain ⟨ih0, ih1⟩ := tattlelaw01_WireSeals.mono_l k
    refine ⟨?_, ?_⟩
    · intro y0
      unfold tattlelaw01_WireSeals.j0
      repeat' first
      | (with_reducible exact ih0 _)
      | (with_reducible exact ih1 _ _ _ _)
      | (with_reducible exact tattlelaw01_awake.mono _)
      | (with_reducible exact tattleref01_Open.mono _ _)
      | (with_reducible exact tattleref01_Seal.mono _ _)
      | (with_reducible exact tattleref01_Sum.mono _ _)
      | (with_reducible exact LeO.refl _)
      | (with_reducible exact LeO.none _)
      | (with_reducible refine LeO.ite ?_ ?_)
      | (with_reducible refine LeO.bind ?_ (fun _ => ?_))
      | exact ih0 _
      | exact ih1 _ _ _ _
      | exact tattlelaw01_awake.mono _
      | exact tattleref01_Open.mono _ _
      | exact tattleref01_Seal.mono _ _
      | exact tattleref01_Sum.mono _ _
      | exact LeO.none _
      | refine LeO.ite ?_ ?_
      | refine LeO.bind ?_ (fun _ => ?_)
    · intro y0 y1 y2 y3
      unfold tattlelaw01_WireSeals.j1
      repeat' first
      | (with_reducible exact ih0 _)
      | (with_reducible exact ih1 _ _ _ _)
      | (with_reducible exact tattlelaw01_awake.mono _)
      | (with_reducible exact tattleref01_Open.mono _ _)
      | (with_reducible exact tattleref01_Seal.mono _ _)
      | (with_reducible exact tattleref01_Sum.mono _ _)
      | (with_reducible exact LeO.refl _)
      | (with_reducible exact LeO.none _)
      | (with_reducible refine LeO.ite ?_ ?_)
      | (with_reducible refine LeO.bind ?_ (fun _ => ?_))
      | exact ih0 _
      | exact ih1 _ _ _ _
      | exact tattlelaw01_awake.mono _
      | exact tattleref01_Open.mono _ _
      | exact tattleref01_Seal.mono _ _
      | exact tattleref01_Sum.mono _ _
      | exact LeO.none _
      | refine LeO.ite ?_ ?_
      | refine LeO.bind ?_ (fun _ => ?_)
theorem tattlelaw01_WireSeals.mono : ∀ a0 k, LeO (tattlelaw01_WireSeals.f k a0) (tattlelaw01_WireSeals.f (k + 1) a0) := by
  intro a0 k
  obtain ⟨ih0, ih1⟩ := tattlelaw01_WireSeals.mono_l k
  unfold tattlelaw01_WireSeals.f
  repeat' first
      | (with_reducible exact ih0 _)
      | (with_reducible exact ih1 _ _ _ _)
      | (with_reducible exact tattlelaw01_awake.mono _)
      | (with_reducible exact tattleref01_Open.mono _ _)
      | (with_reducible exact tattleref01_Seal.mono _ _)
      | (with_reducible exact tattleref01_Sum.mono _ _)
      | (with_reducible exact LeO.refl _)
      | (with_reducible exact LeO.none _)
      | (with_reducible refine LeO.ite ?_ ?_)
      | (with_reducible refine LeO.bind ?_ (fun _ => ?_))
      | exact ih0 _
      | exact ih1 _ _ _ _
      | exact tattlelaw01_awake.mono _
      | exact tattleref01_Open.mono _ _
      | exact tattleref01_Seal.mono _ _
      | exact tattleref01_Sum.mono _ _
      | exact LeO.none _
      | refine LeO.ite ?_ ?_
      | refine LeO.bind ?_ (fun _ => ?_)
set_option maxHeartbeats 8000000 in
set_option maxRecDepth 100000 in
theorem tattlelaw01_WireSeals.calls (k : Nat) (a0 : ByteArray) (r : Bool) (w : World) (h : tattlelaw01_WireSeals.f k a0 = some r) :
    Calls Try.prog 8 #[.string a0] w fun e w' => e = .returned (.bool r) ∧ Below w.heap.size w w' := by
  have HB := Aside0.mk (Below.refl w.heap.size w)
  have H : (if (a0.size : Int) > 4110 then (if 0 ≤ 4110 then (if 4110 ≤ (a0.size : Int) then (tattlelaw01_WireSeals.j0 k (a0.extract 0 4110)) else (none)) else (none)) else (tattlelaw01_WireSeals.j0 k a0)) = some r := h
  clear h
  have HC2 := Aside0.mk H
  clear H
  go_enter Try.func8, Try.ntmps8
  go_upto_if 11 with (fail)
  go_cut [0] (fun v0 wc => ∃ (kq : Nat) (x0_1 : ByteArray), v0 = .string x0_1 ∧ Aside0 (tattlelaw01_WireSeals.j0 kq x0_1 = some r) ∧ Aside0 (kq ≤ k) ∧ Aside0 (Below w.heap.size w wc))
  case first =>
    have H := HC2.out
    clear HC2
    by_cases c3 : (a0.size : Int) > 4110
    · rw [if_pos c3] at H
      have c3b0 : decide (4110 < (a0.size : Int)) = true := decide_eq_true c3
      have c3b1 : decide (4110 < a0.size) = true := decide_eq_true (by omega)
      clear c3
      (first | rw [c3b0] | (simp only [i64_w, i32_w]; rw [c3b0]) | skip)
      by_cases c4 : 0 ≤ 4110
      · rw [if_pos c4] at H
        have c4b0 := eq_true c4
        have c4b1 : decide (0 ≤ 4110) = true := decide_eq_true c4
        clear c4
        by_cases c5 : 4110 ≤ (a0.size : Int)
        · rw [if_pos c5] at H
          have c5b0 := eq_true c5
          have c5b1 : decide (4110 ≤ (a0.size : Int)) = true := decide_eq_true c5
          clear c5
          have H' := Aside0.mk H
          clear H
          go_wp2
          go_meet
          case rel => exact ⟨_, (a0.extract 0 4110), (by first | rfl | (simp; done) | (simp [*]; done)), H', ⟨by first | omega | exact Nat.le_refl _⟩, ⟨by repeat (first | (with_reducible first | exact HB.out | apply below_alloc | apply pw_below_drewN | apply below_drew1) | exact HB.out)⟩⟩
        · rw [if_neg c5] at H
          exact absurd H (by simp)
      · rw [if_neg c4] at H
        exact absurd H (by simp)
    · rw [if_neg c3] at H
      have c3b0 : decide (4110 < (a0.size : Int)) = false := decide_eq_false c3
      have c3b1 : decide (4110 < a0.size) = false := decide_eq_false (by omega)
      clear c3
      (first | rw [c3b0] | (simp only [i64_w, i32_w]; rw [c3b0]) | skip)
      have H' := Aside0.mk H
      clear H
      go_wp2
      go_meet
      case rel => exact ⟨_, (a0), (by first | rfl | (simp; done) | (simp [*]; done)), H', ⟨by first | omega | exact Nat.le_refl _⟩, ⟨by repeat (first | (with_reducible first | exact HB.out | apply below_alloc | apply pw_below_drewN | apply below_drew1) | exact HB.out)⟩⟩
  case rest =>
    clear HC2
    try clear p2
    try clear c3
    try clear c3b0
    try clear c3b1
    try clear c4
    try clear c4b0
    try clear c4b1
    try clear c5
    try clear c5b0
    try clear c5b1
    obtain ⟨kq, x0_1, rfl, HA, HJ1, HB⟩ := hcut
    cases kq with
    | zero => exact absurd HA.out (by simp [tattlelaw01_WireSeals.j0])
    | succ kj1 =>
      have H := HA.out
      clear HA
      simp only [tattlelaw01_WireSeals.j0] at H
      replace H := Option.bind_eq_some_iff.mp H
      obtain ⟨⟨t128, t129⟩, A60, H⟩ := H
      replace H : ((wire_Open.f x0_1).bind fun bt130 => ((tattleref01_Open.f kj1 x0_1).bind fun bt132 => (if bt130.1.toList = bt132.1.toList then (if bt130.2 = bt132.2 then ((wire_Sum.f x0_1).bind fun t134 => ((tattleref01_Sum.f kj1 x0_1).bind fun t135 => (tattlelaw01_WireSeals.j1 kj1 x0_1 t128 t129 (t134 != t135)))) else (tattlelaw01_WireSeals.j1 kj1 x0_1 t128 t129 true)) else (tattlelaw01_WireSeals.j1 kj1 x0_1 t128 t129 true)))) = some r := H
      have A6 := Aside0.mk A60
      clear A60
      replace H := Option.bind_eq_some_iff.mp H
      obtain ⟨⟨t130, t131⟩, A70, H⟩ := H
      replace H : ((tattleref01_Open.f kj1 x0_1).bind fun bt132 => (if t130.toList = bt132.1.toList then (if t131 = bt132.2 then ((wire_Sum.f x0_1).bind fun t134 => ((tattleref01_Sum.f kj1 x0_1).bind fun t135 => (tattlelaw01_WireSeals.j1 kj1 x0_1 t128 t129 (t134 != t135)))) else (tattlelaw01_WireSeals.j1 kj1 x0_1 t128 t129 true)) else (tattlelaw01_WireSeals.j1 kj1 x0_1 t128 t129 true))) = some r := H
      have A7 := Aside0.mk A70
      clear A70
      replace H := Option.bind_eq_some_iff.mp H
      obtain ⟨⟨t132, t133⟩, A80, H⟩ := H
      replace H : (if t130.toList = t132.toList then (if t131 = t133 then ((wire_Sum.f x0_1).bind fun t134 => ((tattleref01_Sum.f kj1 x0_1).bind fun t135 => (tattlelaw01_WireSeals.j1 kj1 x0_1 t128 t129 (t134 != t135)))) else (tattlelaw01_WireSeals.j1 kj1 x0_1 t128 t129 true)) else (tattlelaw01_WireSeals.j1 kj1 x0_1 t128 t129 true)) = some r := H
      have A8 := Aside0.mk A80
      clear A80
      have HC9 := Aside0.mk H
      clear H
      go_upto_region 6 with (first | ((with_reducible refine gate_callee (f := 21) rfl ?_); refine goesL_ (some 16) rfl rfl Try.func21 (by kernel_rfl) rfl #[.string x0_1] rfl (by (try simp only [List.map_toArray, List.map_cons, List.map_nil]); first | done | rfl | (simp only [List.length_drop, List.length_take]; rfl)) ?_; (with_reducible refine (wire_Seal.calls x0_1 t128 t129 _ A6.out).mono ?_); rintro e w10 ⟨rfl, hb⟩; refine ⟨_, rfl, ?_⟩; have n0_ := Aside0.mk (below_step (by repeat (first | (with_reducible first | exact HB.out | apply below_alloc | apply pw_below_drewN | apply below_drew1) | exact HB.out)) hb); clear HB; have HB := n0_; clear n0_; (try clear hb); (try clear hb2); (try clear hk); (try clear hi)) | ((with_reducible refine gate_callee (f := 22) rfl ?_); refine goesL_ (some 21) rfl rfl Try.func22 (by kernel_rfl) rfl #[.string x0_1] rfl (by (try simp only [List.map_toArray, List.map_cons, List.map_nil]); first | done | rfl | (simp only [List.length_drop, List.length_take]; rfl)) ?_; (with_reducible refine (wire_Open.calls x0_1 t130 t131 _ A7.out).mono ?_); rintro e w11 ⟨rfl, hb⟩; refine ⟨_, rfl, ?_⟩; have n0_ := Aside0.mk (below_step (by repeat (first | (with_reducible first | exact HB.out | apply below_alloc | apply pw_below_drewN | apply below_drew1) | exact HB.out)) hb); clear HB; have HB := n0_; clear n0_; (try clear hb); (try clear hb2); (try clear hk); (try clear hi)) | ((with_reducible refine gate_callee (f := 23) rfl ?_); refine goesL_ (some 26) rfl rfl Try.func23 (by kernel_rfl) rfl #[.string x0_1] rfl (by (try simp only [List.map_toArray, List.map_cons, List.map_nil]); first | done | rfl | (simp only [List.length_drop, List.length_take]; rfl)) ?_; (with_reducible refine (tattleref01_Open.calls kj1 x0_1 t132 t133 _ A8.out).mono ?_); rintro e w12 ⟨rfl, hb⟩; refine ⟨_, rfl, ?_⟩; have n0_ := Aside0.mk (below_step (by repeat (first | (with_reducible first | exact HB.out | apply below_alloc | apply pw_below_drewN | apply below_drew1) | exact HB.out)) hb); clear HB; have HB := n0_; clear n0_; (try clear hb); (try clear hb2); (try clear hk); (try clear hi)))
      (try simp only [Act.put, List.setIfInBounds_toArray, List.set_cons_zero, List.set_cons_succ])
      go_cut [43] (fun v43 wc => ∃ (kq : Nat) (x43_8 : Bool), v43 = .bool x43_8 ∧ Aside0 (tattlelaw01_WireSeals.j1 kq x0_1 t128 t129 x43_8 = some r) ∧ Aside0 (kq ≤ kj1) ∧ Aside0 (Below w.heap.size w wc))
      case first =>
        have H := HC9.out
        clear HC9
        by_cases c13 : t130.toList = t132.toList
        · rw [if_pos c13] at H
          have c13b0 : (t130.toList == t132.toList) = true := beq_iff_eq.mpr c13
          have c13b1 : (t130.toList != t132.toList) = false := bne_eq_false_iff_eq.mpr c13
          clear c13
          (first | rw [c13b0] | (simp only [i64_w, i32_w]; rw [c13b0]) | skip)
          by_cases c14 : t131 = t133
          · rw [if_pos c14] at H
            have c14b0 : (t131 == t133) = true := beq_iff_eq.mpr c14
            have c14b1 : (t131 != t133) = false := bne_eq_false_iff_eq.mpr c14
            clear c14
            replace H := Option.bind_eq_some_iff.mp H
            obtain ⟨t134, A150, H⟩ := H
            replace H : ((tattleref01_Sum.f kj1 x0_1).bind fun t135 => (tattlelaw01_WireSeals.j1 kj1 x0_1 t128 t129 (t134 != t135))) = some r := H
            have A15 := Aside0.mk A150
            clear A150
            replace H := Option.bind_eq_some_iff.mp H
            obtain ⟨t135, A160, H⟩ := H
            replace H : (tattlelaw01_WireSeals.j1 kj1 x0_1 t128 t129 (t134 != t135)) = some r := H
            have A16 := Aside0.mk A160
            clear A160
            have H' := Aside0.mk H
            clear H
            go_wp2_with (first | (go_at_call 16; (with_reducible refine (wire_Sum.calls x0_1 t134 _ A15.out).mono ?_); rintro e w17 ⟨rfl, hb⟩; have n0_ := Aside0.mk (below_step (by repeat (first | (with_reducible first | exact HB.out | apply below_alloc | apply pw_below_drewN | apply below_drew1) | exact HB.out)) hb); clear HB; have HB := n0_; clear n0_; (try clear hb); (try clear hb2); (try clear hk); (try clear hi)) | (go_at_call 24; (with_reducible refine (tattleref01_Sum.calls kj1 x0_1 t135 _ A16.out).mono ?_); rintro e w' ⟨rfl, ⟨nd, rfl⟩⟩))
            go_meet
            case rel => exact ⟨_, ((t134 != t135)), (by first | rfl | (simp; done) | (simp [*]; done)), H', ⟨by have := HJ1.out; first | omega | exact Nat.le_refl _⟩, ⟨by repeat (first | (with_reducible first | exact HB.out | apply below_alloc | apply pw_below_drewN | apply below_drew1) | exact HB.out)⟩⟩
          · rw [if_neg c14] at H
            have c14b0 : (t131 == t133) = false := beq_eq_false_iff_ne.mpr c14
            have c14b1 : (t131 != t133) = true := bne_iff_ne.mpr c14
            have H' := Aside0.mk H
            clear H
            go_wp2
            go_meet
            case rel => exact ⟨_, (true), (by first | rfl | (simp; done) | (simp [*]; done)), H', ⟨by have := HJ1.out; first | omega | exact Nat.le_refl _⟩, ⟨by repeat (first | (with_reducible first | exact HB.out | apply below_alloc | apply pw_below_drewN | apply below_drew1) | exact HB.out)⟩⟩
        · rw [if_neg c13] at H
          have c13b0 : (t130.toList == t132.toList) = false := beq_eq_false_iff_ne.mpr c13
          have c13b1 : (t130.toList != t132.toList) = true := bne_iff_ne.mpr c13
          (first | rw [c13b0] | (simp only [i64_w, i32_w]; rw [c13b0]) | skip)
          have H' := Aside0.mk H
          clear H
          go_wp2
          go_meet
          case rel => exact ⟨_, (true), (by first | rfl | (simp; done) | (simp [*]; done)), H', ⟨by have := HJ1.out; first | omega | exact Nat.le_refl _⟩, ⟨by repeat (first | (with_reducible first | exact HB.out | apply below_alloc | apply pw_below_drewN | apply below_drew1) | exact HB.out)⟩⟩
      case rest =>
        clear HC9
        try clear c1
        try clear c2
        try clear p2
        try clear c3
        try clear c3b0
        try clear c3b1
        try clear c4
        try clear c4b0
        try clear c4b1
        try clear c5
        try clear c5b0
        try clear c5b1
        try clear c8
        try clear c13
        try clear c13b0
        try clear c13b1
        try clear c14
        try clear c14b0
        try clear c14b1
        try clear p2
        obtain ⟨kq, x43_8, rfl, HA, HJ8, HB⟩ := hcut
        cases kq with
        | zero => exact absurd HA.out (by simp [tattlelaw01_WireSeals.j1])
        | succ kj8 =>
          have H := HA.out
          clear HA
          simp only [tattlelaw01_WireSeals.j1] at H
          by_cases c18 : x43_8 = true
          · subst c18
            have H1 : (none) = some r := by rw [if_pos rfl] at H; exact H
            clear H
            have H := H1
            clear H1
            exact absurd H (by simp)
          · replace c18 := Bool.eq_false_iff.mpr c18
            subst c18
            have H1 : (if (x0_1.size : Int) > 4096 then (if t128.toList = ([] : List UInt8) then (if t129 = 4 then ((tattlelaw01_awake.f kj8).bind fun t136 => (some t136)) else (none)) else (none)) else ((tattleref01_Seal.f kj8 x0_1).bind fun t137 => (if t128.toList = t137.toList then (if t129 = 0 then ((tattlelaw01_awake.f kj8).bind fun t138 => (some t138)) else (none)) else (none)))) = some r := by rw [if_neg (show ¬ (false = true) by decide)] at H; exact H
            clear H
            have H := H1
            clear H1
            by_cases c19 : (x0_1.size : Int) > 4096
            · rw [if_pos c19] at H
              have c19b0 : decide (4096 < (x0_1.size : Int)) = true := decide_eq_true c19
              have c19b1 : decide (4096 < x0_1.size) = true := decide_eq_true (by omega)
              clear c19
              by_cases c20 : t128.toList = ([] : List UInt8)
              · rw [if_pos c20] at H
                have c20b0 : (t128.toList == ([] : List UInt8)) = true := beq_iff_eq.mpr c20
                have c20b1 : (t128.toList != ([] : List UInt8)) = false := bne_eq_false_iff_eq.mpr c20
                clear c20
                by_cases c21 : t129 = 4
                · rw [if_pos c21] at H
                  have c21b0 : (t129 == 4) = true := beq_iff_eq.mpr c21
                  have c21b1 : (t129 != 4) = false := bne_eq_false_iff_eq.mpr c21
                  clear c21
                  replace H := Option.bind_eq_some_iff.mp H
                  obtain ⟨t136, A220, H⟩ := H
                  replace H : (some t136) = some r := H
                  have A22 := Aside0.mk A220
                  clear A220
                  obtain rfl := Option.some.inj H
                  go_wp2_with (first | (go_at_call 15; (with_reducible refine (tattlelaw01_awake.calls kj8  t136 _ A22.out).mono ?_); rintro e w23 ⟨rfl, hb⟩; have n0_ := Aside0.mk (below_step (by repeat (first | (with_reducible first | exact HB.out | apply below_alloc | apply pw_below_drewN | apply below_drew1) | exact HB.out)) hb); clear HB; have HB := n0_; clear n0_; (try clear hb); (try clear hb2); (try clear hk); (try clear hi)))
                  go_ret
                  exact ⟨by first | rfl | (simp [errW_none, errW_some] <;> rfl) | (simp [*, errW_none, errW_some] <;> rfl), by repeat (first | (with_reducible first | exact HB.out | apply below_alloc | apply pw_below_drewN | apply below_drew1) | exact HB.out)⟩
                · rw [if_neg c21] at H
                  exact absurd H (by simp)
              · rw [if_neg c20] at H
                exact absurd H (by simp)
            · rw [if_neg c19] at H
              have c19b0 : decide (4096 < (x0_1.size : Int)) = false := decide_eq_false c19
              have c19b1 : decide (4096 < x0_1.size) = false := decide_eq_false (by omega)
              clear c19
              replace H := Option.bind_eq_some_iff.mp H
              obtain ⟨t137, A240, H⟩ := H
              replace H : (if t128.toList = t137.toList then (if t129 = 0 then ((tattlelaw01_awake.f kj8).bind fun t138 => (some t138)) else (none)) else (none)) = some r := H
              have A24 := Aside0.mk A240
              clear A240
              by_cases c25 : t128.toList = t137.toList
              · rw [if_pos c25] at H
                have c25b0 : (t128.toList == t137.toList) = true := beq_iff_eq.mpr c25
                have c25b1 : (t128.toList != t137.toList) = false := bne_eq_false_iff_eq.mpr c25
                clear c25
                by_cases c26 : t129 = 0
                · rw [if_pos c26] at H
                  have c26b0 : (t129 == 0) = true := beq_iff_eq.mpr c26
                  have c26b1 : (t129 != 0) = false := bne_eq_false_iff_eq.mpr c26
                  clear c26
                  replace H := Option.bind_eq_some_iff.mp H
                  obtain ⟨t138, A270, H⟩ := H
                  replace H : (some t138) = some r := H
                  have A27 := Aside0.mk A270
                  clear A270
                  obtain rfl := Option.some.inj H
                  go_wp2_with (first | ((with_reducible refine gate_callee (f := 25) rfl ?_); refine goesL_ (some 58) rfl rfl Try.func25 (by kernel_rfl) rfl #[.string x0_1] rfl (by (try simp only [List.map_toArray, List.map_cons, List.map_nil]); first | done | rfl | (simp only [List.length_drop, List.length_take]; rfl)) ?_; (with_reducible refine (tattleref01_Seal.calls kj8 x0_1 t137 _ A24.out).mono ?_); rintro e w28 ⟨rfl, hb⟩; refine ⟨_, rfl, ?_⟩; have n0_ := Aside0.mk (below_step (by repeat (first | (with_reducible first | exact HB.out | apply below_alloc | apply pw_below_drewN | apply below_drew1) | exact HB.out)) hb); clear HB; have HB := n0_; clear n0_; (try clear hb); (try clear hb2); (try clear hk); (try clear hi)) | (go_at_call 15; (with_reducible refine (tattlelaw01_awake.calls kj8  t138 _ A27.out).mono ?_); rintro e w29 ⟨rfl, hb⟩; have n0_ := Aside0.mk (below_step (by repeat (first | (with_reducible first | exact HB.out | apply below_alloc | apply pw_below_drewN | apply below_drew1) | exact HB.out)) hb); clear HB; have HB := n0_; clear n0_; (try clear hb); (try clear hb2); (try clear hk); (try clear hi)))
                  go_ret
                  exact ⟨by first | rfl | (simp [errW_none, errW_some] <;> rfl) | (simp [*, errW_none, errW_some] <;> rfl), by repeat (first | (with_reducible first | exact HB.out | apply below_alloc | apply pw_below_drewN | apply below_drew1) | exact HB.out)⟩
                · rw [if_neg c26] at H
                  exact absurd H (by simp)
              · rw [if_neg c25] at H
                exact absurd H (by simp)

/-- THE ONE PURE STATEMENT of tattlelaw01_WireSeals: yours. -/
def tattlelaw01_WireSeals.Pure : Prop := ∀ (a0 : ByteArray), a0.size ≤ 140737488351232 → ∃ k, tattlelaw01_WireSeals.f k a0 = some true
theorem tattlelaw01_WireSeals.walk (P : tattlelaw01_WireSeals.Pure) (a0 : ByteArray) (w : World) (w0 : a0.size ≤ 140737488351232) :
    Calls Try.prog 8 #[.string a0] w fun e w' => e = .returned (.bool true) ∧ Below w.heap.size w w' := by
  obtain ⟨k, h⟩ := P a0 w0
  refine (tattlelaw01_WireSeals.calls k a0 true w h).mono ?_
  rintro e w' ⟨rfl, hd⟩
  exact ⟨rfl, hd⟩

end Go.Proofs.Ytmehdghhnmnmiaa.PWireSeals
