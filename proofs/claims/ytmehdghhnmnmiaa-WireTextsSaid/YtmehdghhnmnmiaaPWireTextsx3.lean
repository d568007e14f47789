-- Written by a program of this session (see NOTES.md) out of the print of Lean's own loaded functions; Lean checks it.
import Derived.Test.YtmehdghhnmnmiaaPWireTextsx0
import Derived.Test.YtmehdghhnmnmiaaPWireTextsx1
import Derived.Test.YtmehdghhnmnmiaaPWireTextsx2
namespace Go.Proofs.Ytmehdghhnmnmiaa.PWireTexts
open Go.RowKit Go.Proofs.YtmehdghhnmnmiaaW.PrintWords Go.Proofs.YtmehdghhnmnmiaaW.PrintLast Go.Proofs.YtmehdghhnmnmiaaW.PrintMore
attribute [local go_sem] max2_int min2_int max_two min_two max_three min_three max_four min_four   -- for this text's walks alone
set_option linter.unusedVariables false
set_option linter.unusedSimpArgs false

/-! ### tattleref01_TakeText: function 20 -/
def tattleref01_TakeText.f (k : Nat) (a0 : ByteArray) (a1 : Int) : Option (ByteArray × Int × Int) := (tattleref01_TakeNum.f k a0 a1).bind fun bt131 => (if bt131.2.2 = 0 then (if bt131.1 > 200 then (some ((⟨#[]⟩ : ByteArray), 0, 4)) else (if (wrap64 (bt131.2.1 + (wrap64 (bt131.1)))) > (a0.size : Int) then (some ((⟨#[]⟩ : ByteArray), 0, 3)) else (if 0 ≤ bt131.2.1 then (if bt131.2.1 ≤ (wrap64 (bt131.2.1 + (wrap64 (bt131.1)))) then (if (wrap64 (bt131.2.1 + (wrap64 (bt131.1)))) ≤ (a0.size : Int) then (some (a0.extract (bt131.2.1 : Int).toNat ((wrap64 (bt131.2.1 + (wrap64 (bt131.1)))) : Int).toNat, wrap64 (bt131.2.1 + (wrap64 (bt131.1))), 0)) else (none)) else (none)) else (none)))) else (some ((⟨#[]⟩ : ByteArray), 0, bt131.2.2)))
theorem tattleref01_TakeText.mono : ∀ a0 a1 k, LeO (tattleref01_TakeText.f k a0 a1) (tattleref01_TakeText.f (k + 1) a0 a1) := by
  intro a0 a1 k
  unfold tattleref01_TakeText.f
  repeat' first
      | (with_reducible exact tattleref01_TakeNum.mono _ _ _)
      | (with_reducible exact LeO.refl _)
      | (with_reducible exact LeO.none _)
      | (with_reducible refine LeO.ite ?_ ?_)
      | (with_reducible refine LeO.bind ?_ (fun _ => ?_))
      | exact tattleref01_TakeNum.mono _ _ _
      | exact LeO.none _
      | refine LeO.ite ?_ ?_
      | refine LeO.bind ?_ (fun _ => ?_)
set_option maxHeartbeats 8000000 in
set_option maxRecDepth 100000 in
theorem tattleref01_TakeText.calls (k : Nat) (a0 : ByteArray) (a1 : Int) (r1 : ByteArray) (r2 : Int) (r3 : Int) (w : World) (h : tattleref01_TakeText.f k a0 a1 = some (r1, r2, r3)) :
    Calls Try.prog 20 #[.string a0, .int .i64 a1] w fun e w' => e = .returned (.tuple #[.string r1, .int .i64 r2, .int .i64 r3]) ∧ Drawn0 w w' := by
  have H : ((tattleref01_TakeNum.f k a0 a1).bind fun bt131 => (if bt131.2.2 = 0 then (if bt131.1 > 200 then (some ((⟨#[]⟩ : ByteArray), 0, 4)) else (if (wrap64 (bt131.2.1 + (wrap64 (bt131.1)))) > (a0.size : Int) then (some ((⟨#[]⟩ : ByteArray), 0, 3)) else (if 0 ≤ bt131.2.1 then (if bt131.2.1 ≤ (wrap64 (bt131.2.1 + (wrap64 (bt131.1)))) then (if (wrap64 (bt131.2.1 + (wrap64 (bt131.1)))) ≤ (a0.size : Int) then (some (a0.extract (bt131.2.1 : Int).toNat ((wrap64 (bt131.2.1 + (wrap64 (bt131.1)))) : Int).toNat, wrap64 (bt131.2.1 + (wrap64 (bt131.1))), 0)) else (none)) else (none)) else (none)))) else (some ((⟨#[]⟩ : ByteArray), 0, bt131.2.2)))) = some (r1, r2, r3) := h
  clear h
  replace H := Option.bind_eq_some_iff.mp H
  obtain ⟨⟨t131, t132, t133⟩, A30, H⟩ := H
  replace H : (if t133 = 0 then (if t131 > 200 then (some ((⟨#[]⟩ : ByteArray), 0, 4)) else (if (wrap64 (t132 + (wrap64 (t131)))) > (a0.size : Int) then (some ((⟨#[]⟩ : ByteArray), 0, 3)) else (if 0 ≤ t132 then (if t132 ≤ (wrap64 (t132 + (wrap64 (t131)))) then (if (wrap64 (t132 + (wrap64 (t131)))) ≤ (a0.size : Int) then (some (a0.extract (t132 : Int).toNat ((wrap64 (t132 + (wrap64 (t131)))) : Int).toNat, wrap64 (t132 + (wrap64 (t131))), 0)) else (none)) else (none)) else (none)))) else (some ((⟨#[]⟩ : ByteArray), 0, t133))) = some (r1, r2, r3) := H
  have A3 := Aside0.mk A30
  clear A30
  by_cases c4 : t133 = 0
  · rw [if_pos c4] at H
    have c4b0 : (t133 == 0) = true := beq_iff_eq.mpr c4
    have c4b1 : (t133 != 0) = false := bne_eq_false_iff_eq.mpr c4
    clear c4
    by_cases c5 : t131 > 200
    · rw [if_pos c5] at H
      have c5b0 : decide (200 < t131) = true := decide_eq_true c5
      clear c5
      simp only [Option.some.injEq, Prod.mk.injEq] at H
      obtain ⟨rfl, rfl, rfl⟩ := H
      go_enter Try.func20, Try.ntmps20
      go_wp2_with (first | ((with_reducible refine gate_callee (f := 12) rfl ?_); refine goesL_ (some 13) rfl rfl Try.func12 (by kernel_rfl) rfl #[.string a0, .int .i64 a1] rfl (by (try simp only [List.map_toArray, List.map_cons, List.map_nil]); first | done | rfl | (simp only [List.length_drop, List.length_take]; rfl)) ?_; (with_reducible refine (tattleref01_TakeNum.calls k a0 a1 t131 t132 t133 _ A3.out).mono ?_); rintro e w' ⟨rfl, ⟨nd, rfl⟩⟩; refine ⟨_, rfl, ?_⟩))
      go_ret3
      exact ⟨by first | rfl | (simp; done) | (simp [*]; done), by repeat (first | exact Drawn0.refl _ | apply Drawn0.step)⟩
    · rw [if_neg c5] at H
      have c5b0 : decide (200 < t131) = false := decide_eq_false c5
      clear c5
      by_cases c6 : (wrap64 (t132 + (wrap64 (t131)))) > (a0.size : Int)
      · rw [if_pos c6] at H
        have c6b0 : decide ((a0.size : Int) < (wrap64 (t132 + (wrap64 (t131))))) = true := decide_eq_true c6
        clear c6
        simp only [Option.some.injEq, Prod.mk.injEq] at H
        obtain ⟨rfl, rfl, rfl⟩ := H
        go_enter Try.func20, Try.ntmps20
        go_wp2_with (first | ((with_reducible refine gate_callee (f := 12) rfl ?_); refine goesL_ (some 13) rfl rfl Try.func12 (by kernel_rfl) rfl #[.string a0, .int .i64 a1] rfl (by (try simp only [List.map_toArray, List.map_cons, List.map_nil]); first | done | rfl | (simp only [List.length_drop, List.length_take]; rfl)) ?_; (with_reducible refine (tattleref01_TakeNum.calls k a0 a1 t131 t132 t133 _ A3.out).mono ?_); rintro e w' ⟨rfl, ⟨nd, rfl⟩⟩; refine ⟨_, rfl, ?_⟩))
        go_ret3
        exact ⟨by first | rfl | (simp; done) | (simp [*]; done), by repeat (first | exact Drawn0.refl _ | apply Drawn0.step)⟩
      · rw [if_neg c6] at H
        have c6b0 : decide ((a0.size : Int) < (wrap64 (t132 + (wrap64 (t131))))) = false := decide_eq_false c6
        clear c6
        by_cases c7 : 0 ≤ t132
        · rw [if_pos c7] at H
          have c7b0 := eq_true c7
          have c7b1 : decide (0 ≤ t132) = true := decide_eq_true c7
          clear c7
          by_cases c8 : t132 ≤ (wrap64 (t132 + (wrap64 (t131))))
          · rw [if_pos c8] at H
            have c8b0 := eq_true c8
            have c8b1 : decide (t132 ≤ (wrap64 (t132 + (wrap64 (t131))))) = true := decide_eq_true c8
            by_cases c9 : (wrap64 (t132 + (wrap64 (t131)))) ≤ (a0.size : Int)
            · rw [if_pos c9] at H
              have c9b0 := eq_true c9
              have c9b1 : decide ((wrap64 (t132 + (wrap64 (t131)))) ≤ (a0.size : Int)) = true := decide_eq_true c9
              simp only [Option.some.injEq, Prod.mk.injEq] at H
              obtain ⟨rfl, rfl, rfl⟩ := H
              go_enter Try.func20, Try.ntmps20
              go_wp2_with (first | ((with_reducible refine gate_callee (f := 12) rfl ?_); refine goesL_ (some 13) rfl rfl Try.func12 (by kernel_rfl) rfl #[.string a0, .int .i64 a1] rfl (by (try simp only [List.map_toArray, List.map_cons, List.map_nil]); first | done | rfl | (simp only [List.length_drop, List.length_take]; rfl)) ?_; (with_reducible refine (tattleref01_TakeNum.calls k a0 a1 t131 t132 t133 _ A3.out).mono ?_); rintro e w' ⟨rfl, ⟨nd, rfl⟩⟩; refine ⟨_, rfl, ?_⟩))
              go_ret3
              exact ⟨by first | rfl | (simp; done) | (simp [*]; done), by repeat (first | exact Drawn0.refl _ | apply Drawn0.step)⟩
            · rw [if_neg c9] at H
              exact absurd H (by simp)
          · rw [if_neg c8] at H
            exact absurd H (by simp)
        · rw [if_neg c7] at H
          exact absurd H (by simp)
  · rw [if_neg c4] at H
    have c4b0 : (t133 == 0) = false := beq_eq_false_iff_ne.mpr c4
    have c4b1 : (t133 != 0) = true := bne_iff_ne.mpr c4
    simp only [Option.some.injEq, Prod.mk.injEq] at H
    obtain ⟨rfl, rfl, rfl⟩ := H
    go_enter Try.func20, Try.ntmps20
    go_wp2_with (first | ((with_reducible refine gate_callee (f := 12) rfl ?_); refine goesL_ (some 13) rfl rfl Try.func12 (by kernel_rfl) rfl #[.string a0, .int .i64 a1] rfl (by (try simp only [List.map_toArray, List.map_cons, List.map_nil]); first | done | rfl | (simp only [List.length_drop, List.length_take]; rfl)) ?_; (with_reducible refine (tattleref01_TakeNum.calls k a0 a1 t131 t132 t133 _ A3.out).mono ?_); rintro e w' ⟨rfl, ⟨nd, rfl⟩⟩; refine ⟨_, rfl, ?_⟩))
    go_ret3
    exact ⟨by first | rfl | (simp; done) | (simp [*]; done), by repeat (first | exact Drawn0.refl _ | apply Drawn0.step)⟩

/-! ### tattlelaw01_WireTexts: function 6 -/
mutual
def tattlelaw01_WireTexts.j0 : Nat → ByteArray → Int → Bool → Option (Bool)
  | 0, _, _, _ => none
  | k + 1, x1, x2, x32 => if x32 = true then (none) else ((wire_TakeText.f k x1 x2).bind fun bt138 => ((tattleref01_TakeText.f k x1 x2).bind fun bt141 => (if bt138.1.toList = bt141.1.toList then (if bt138.2.1 = bt141.2.1 then (if bt138.2.2 = bt141.2.2 then ((tattlelaw01_awake.f k).bind fun t144 => (some t144)) else (none)) else (none)) else (none))))
def tattlelaw01_WireTexts.j1 : Nat → ByteArray → Int → Bool → Option (Bool)
  | 0, _, _, _ => none
  | k + 1, x1, x2, x40 => if x40 = true then (none) else ((wire_TakeText.f k x1 x2).bind fun bt146 => ((tattleref01_TakeText.f k x1 x2).bind fun bt149 => (if bt146.1.toList = bt149.1.toList then (if bt146.2.1 = bt149.2.1 then (if bt146.2.2 = bt149.2.2 then ((tattlelaw01_awake.f k).bind fun t152 => (some t152)) else (none)) else (none)) else (none))))
end
def tattlelaw01_WireTexts.f (k : Nat) (a0 : ByteArray) (a1 : ByteArray) (a2 : Int) : Option (Bool) := (tattlelaw01_Few.f a0).bind fun t134 => ((tattlelaw01_Few.f a1).bind fun t135 => ((wire_Text.f k t134).bind fun bt136 => (if (t134.size : Int) > 200 then (if bt136.1.toList = ([] : List UInt8) then (tattlelaw01_WireTexts.j0 k t135 a2 (bt136.2 != 4)) else (tattlelaw01_WireTexts.j0 k t135 a2 true)) else ((tattleref01_Text.f k t134).bind fun t145 => (if bt136.1.toList = t145.toList then (tattlelaw01_WireTexts.j1 k t135 a2 (bt136.2 != 0)) else (tattlelaw01_WireTexts.j1 k t135 a2 true))))))
theorem tattlelaw01_WireTexts.mono_l : ∀ k, (∀ y0 y1 y2, LeO (tattlelaw01_WireTexts.j0 k y0 y1 y2) (tattlelaw01_WireTexts.j0 (k + 1) y0 y1 y2)) ∧ (∀ y0 y1 y2, LeO (tattlelaw01_WireTexts.j1 k y0 y1 y2) (tattlelaw01_WireTexts.j1 (k + 1) y0 y1 y2))
  | 0 => ⟨fun _ _ _ r h => by simp [tattlelaw01_WireTexts.j0] at h, fun _ _ _ r h => by simp [tattlelaw01_WireTexts.j1] at h⟩
  | k + 1 => by
    obtain ⟨ih0, ih1⟩ := tattlelaw01_WireTexts.mono_l k
    refine ⟨?_, ?_⟩
    · intro y0 y1 y2
      unfold tattlelaw01_WireTexts.j0
      repeat' first
      | (with_reducible exact ih0 _ _ _)
      | (with_reducible exact ih1 _ _ _)
      | (with_reducible exact tattlelaw01_awake.mono _)
      | (with_reducible exact tattleref01_TakeText.mono _ _ _)
      | (with_reducible exact tattleref01_Text.mono _ _)
      | (with_reducible exact wire_TakeText.mono _ _ _)
      | (with_reducible exact wire_Text.mono _ _)
      | (with_reducible exact LeO.refl _)
      | (with_reducible exact LeO.none _)
      | (with_reducible refine LeO.ite ?_ ?_)
      | (with_reducible refine LeO.bind ?_ (fun _ => ?_))
      | exact ih0 _ _ _
      | exact ih1 _ _ _
      | exact tattlelaw01_awake.mono _
      | exact tattleref01_TakeText.mono _ _ _
      | exact tattleref01_Text.mono _ _
      | exact wire_TakeText.mono _ _ _
      | exact wire_Text.mono _ _
      | exact LeO.none _
      | refine LeO.ite ?_ ?_
      | refine LeO.bind ?_ (fun _ => ?_)
    · intro y0 y1 y2
      unfold tattlelaw01_WireTexts.j1
      repeat' first
      | (with_reducible exact ih0 _ _ _)
      | (with_reducible exact ih1 _ _ _)
      | (with_reducible exact tattlelaw01_awake.mono _)
      | (with_reducible exact tattleref01_TakeText.mono _ _ _)
      | (with_reducible exact tattleref01_Text.mono _ _)
      | (with_reducible exact wire_TakeText.mono _ _ _)
      | (with_reducible exact wire_Text.mono _ _)
      | (with_reducible exact LeO.refl _)
      | (with_reducible exact LeO.none _)
      | (with_reducible refine LeO.ite ?_ ?_)
      | (with_reducible refine LeO.bind ?_ (fun _ => ?_))
      | exact ih0 _ _ _
      | exact ih1 _ _ _
      | exact tattlelaw01_awake.mono _
      | exact tattleref01_TakeText.mono _ _ _
      | exact tattleref01_Text.mono _ _
      | exact wire_TakeText.mono _ _ _
      | exact wire_Text.mono _ _
      | exact LeO.none _
      | refine LeO.ite ?_ ?_
      | refine LeO.bind ?_ (fun _ => ?_)
theorem tattlelaw01_WireTexts.mono : ∀ a0 a1 a2 k, LeO (tattlelaw01_WireTexts.f k a0 a1 a2) (tattlelaw01_WireTexts.f (k + 1) a0 a1 a2) := by
  intro a0 a1 a2 k
  obtain ⟨ih0, ih1⟩ := tattlelaw01_WireTexts.mono_l k
  unfold tattlelaw01_WireTexts.f
  repeat' first
      | (with_reducible exact ih0 _ _ _)
      | (with_reducible exact ih1 _ _ _)
      | (with_reducible exact tattlelaw01_awake.mono _)
      | (with_reducible exact tattleref01_TakeText.mono _ _ _)
      | (with_reducible exact tattleref01_Text.mono _ _)
      | (with_reducible exact wire_TakeText.mono _ _ _)
      | (with_reducible exact wire_Text.mono _ _)
      | (with_reducible exact LeO.refl _)
      | (with_reducible exact LeO.none _)
      | (with_reducible refine LeO.ite ?_ ?_)
      | (with_reducible refine LeO.bind ?_ (fun _ => ?_))
      | exact ih0 _ _ _
      | exact ih1 _ _ _
      | exact tattlelaw01_awake.mono _
      | exact tattleref01_TakeText.mono _ _ _
      | exact tattleref01_Text.mono _ _
      | exact wire_TakeText.mono _ _ _
      | exact wire_Text.mono _ _
      | exact LeO.none _
      | refine LeO.ite ?_ ?_
      | refine LeO.bind ?_ (fun _ => ?_)
set_option maxHeartbeats 8000000 in
set_option maxRecDepth 100000 in
theorem tattlelaw01_WireTexts.calls (k : Nat) (a0 : ByteArray) (a1 : ByteArray) (a2 : Int) (r : Bool) (w : World) (h : tattlelaw01_WireTexts.f k a0 a1 a2 = some r) :
    Calls Try.prog 6 #[.string a0, .string a1, .int .i64 a2] w fun e w' => e = .returned (.bool r) ∧ Below w.heap.size w w' := by
  have HB := Aside0.mk (Below.refl w.heap.size w)
  have H : ((tattlelaw01_Few.f a0).bind fun t134 => ((tattlelaw01_Few.f a1).bind fun t135 => ((wire_Text.f k t134).bind fun bt136 => (if (t134.size : Int) > 200 then (if bt136.1.toList = ([] : List UInt8) then (tattlelaw01_WireTexts.j0 k t135 a2 (bt136.2 != 4)) else (tattlelaw01_WireTexts.j0 k t135 a2 true)) else ((tattleref01_Text.f k t134).bind fun t145 => (if bt136.1.toList = t145.toList then (tattlelaw01_WireTexts.j1 k t135 a2 (bt136.2 != 0)) else (tattlelaw01_WireTexts.j1 k t135 a2 true))))))) = some r := h
  clear h
  replace H := Option.bind_eq_some_iff.mp H
  obtain ⟨t134, A40, H⟩ := H
  replace H : ((tattlelaw01_Few.f a1).bind fun t135 => ((wire_Text.f k t134).bind fun bt136 => (if (t134.size : Int) > 200 then (if bt136.1.toList = ([] : List UInt8) then (tattlelaw01_WireTexts.j0 k t135 a2 (bt136.2 != 4)) else (tattlelaw01_WireTexts.j0 k t135 a2 true)) else ((tattleref01_Text.f k t134).bind fun t145 => (if bt136.1.toList = t145.toList then (tattlelaw01_WireTexts.j1 k t135 a2 (bt136.2 != 0)) else (tattlelaw01_WireTexts.j1 k t135 a2 true)))))) = some r := H
  have A4 := Aside0.mk A40
  clear A40
  replace H := Option.bind_eq_some_iff.mp H
  obtain ⟨t135, A50, H⟩ := H
  replace H : ((wire_Text.f k t134).bind fun bt136 => (if (t134.size : Int) > 200 then (if bt136.1.toList = ([] : List UInt8) then (tattlelaw01_WireTexts.j0 k t135 a2 (bt136.2 != 4)) else (tattlelaw01_WireTexts.j0 k t135 a2 true)) else ((tattleref01_Text.f k t134).bind fun t145 => (if bt136.1.toList = t145.toList then (tattlelaw01_WireTexts.j1 k t135 a2 (bt136.2 != 0)) else (tattlelaw01_WireTexts.j1 k t135 a2 true))))) = some r := H
  have A5 := Aside0.mk A50
  clear A50
  replace H := Option.bind_eq_some_iff.mp H
  obtain ⟨⟨t136, t137⟩, A60, H⟩ := H
  replace H : (if (t134.size : Int) > 200 then (if t136.toList = ([] : List UInt8) then (tattlelaw01_WireTexts.j0 k t135 a2 (t137 != 4)) else (tattlelaw01_WireTexts.j0 k t135 a2 true)) else ((tattleref01_Text.f k t134).bind fun t145 => (if t136.toList = t145.toList then (tattlelaw01_WireTexts.j1 k t135 a2 (t137 != 0)) else (tattlelaw01_WireTexts.j1 k t135 a2 true)))) = some r := H
  have A6 := Aside0.mk A60
  clear A60
  by_cases c7 : (t134.size : Int) > 200
  · rw [if_pos c7] at H
    have c7b0 : decide (200 < (t134.size : Int)) = true := decide_eq_true c7
    have c7b1 : decide (200 < t134.size) = true := decide_eq_true (by omega)
    clear c7
    have HC8 := Aside0.mk H
    clear H
    go_enter Try.func6, Try.ntmps6
    go_upto_region 4 with (first | ((with_reducible refine gate_callee (f := 10) rfl ?_); refine goesL_ (some 16) rfl rfl Try.func10 (by kernel_rfl) rfl #[.string a0] rfl (by (try simp only [List.map_toArray, List.map_cons, List.map_nil]); first | done | rfl | (simp only [List.length_drop, List.length_take]; rfl)) ?_; (with_reducible refine (tattlelaw01_Few.calls a0 t134 _ A4.out).mono ?_); rintro e w' ⟨rfl, ⟨nd, rfl⟩⟩; refine ⟨_, rfl, ?_⟩) | ((with_reducible refine gate_callee (f := 10) rfl ?_); refine goesL_ (some 18) rfl rfl Try.func10 (by kernel_rfl) rfl #[.string a1] rfl (by (try simp only [List.map_toArray, List.map_cons, List.map_nil]); first | done | rfl | (simp only [List.length_drop, List.length_take]; rfl)) ?_; (with_reducible refine (tattlelaw01_Few.calls a1 t135 _ A5.out).mono ?_); rintro e w' ⟨rfl, ⟨nd, rfl⟩⟩; refine ⟨_, rfl, ?_⟩) | ((with_reducible refine gate_callee (f := 17) rfl ?_); refine goesL_ (some 21) rfl rfl Try.func17 (by kernel_rfl) rfl #[.string t134] rfl (by (try simp only [List.map_toArray, List.map_cons, List.map_nil]); first | done | rfl | (simp only [List.length_drop, List.length_take]; rfl)) ?_; (with_reducible refine (wire_Text.calls k t134 t136 t137 _ A6.out).mono ?_); rintro e w9 ⟨rfl, hb⟩; refine ⟨_, rfl, ?_⟩; have n0_ := Aside0.mk (below_step (by repeat (first | (with_reducible first | exact HB.out | apply below_alloc | apply pw_below_drewN | apply below_drew1) | exact HB.out)) hb); clear HB; have HB := n0_; clear n0_; (try clear hb); (try clear hb2); (try clear hk); (try clear hi)))
    (try simp only [Act.put, List.setIfInBounds_toArray, List.set_cons_zero, List.set_cons_succ])
    go_cut [32] (fun v32 wc => ∃ (kq : Nat) (x32_7 : Bool), v32 = .bool x32_7 ∧ Aside0 (tattlelaw01_WireTexts.j0 kq t135 a2 x32_7 = some r) ∧ Aside0 (kq ≤ k) ∧ Aside0 (Below w.heap.size w wc))
    case first =>
      have H := HC8.out
      clear HC8
      by_cases c10 : t136.toList = ([] : List UInt8)
      · rw [if_pos c10] at H
        have c10b0 : (t136.toList == ([] : List UInt8)) = true := beq_iff_eq.mpr c10
        have c10b1 : (t136.toList != ([] : List UInt8)) = false := bne_eq_false_iff_eq.mpr c10
        clear c10
        (first | rw [c10b0] | (simp only [i64_w, i32_w]; rw [c10b0]) | skip)
        have H' := Aside0.mk H
        clear H
        go_wp2
        go_meet
        case rel => exact ⟨_, ((t137 != 4)), (by first | rfl | (simp; done) | (simp [*]; done)), H', ⟨by first | omega | exact Nat.le_refl _⟩, ⟨by repeat (first | (with_reducible first | exact HB.out | apply below_alloc | apply pw_below_drewN | apply below_drew1) | exact HB.out)⟩⟩
      · rw [if_neg c10] at H
        have c10b0 : (t136.toList == ([] : List UInt8)) = false := beq_eq_false_iff_ne.mpr c10
        have c10b1 : (t136.toList != ([] : List UInt8)) = true := bne_iff_ne.mpr c10
        (first | rw [c10b0] | (simp only [i64_w, i32_w]; rw [c10b0]) | skip)
        have H' := Aside0.mk H
        clear H
        go_wp2
        go_meet
        case rel => exact ⟨_, (true), (by first | rfl | (simp; done) | (simp [*]; done)), H', ⟨by first | omega | exact Nat.le_refl _⟩, ⟨by repeat (first | (with_reducible first | exact HB.out | apply below_alloc | apply pw_below_drewN | apply below_drew1) | exact HB.out)⟩⟩
    case rest =>
      clear HC8
      try clear c1
      try clear p2
      try clear c6
      try clear c7
      try clear c7b0
      try clear c7b1
      try clear c10
      try clear c10b0
      try clear c10b1
      obtain ⟨kq, x32_7, rfl, HA, HJ7, HB⟩ := hcut
      cases kq with
      | zero => exact absurd HA.out (by simp [tattlelaw01_WireTexts.j0])
      | succ kj7 =>
        have H := HA.out
        clear HA
        simp only [tattlelaw01_WireTexts.j0] at H
        by_cases c11 : x32_7 = true
        · subst c11
          have H1 : (none) = some r := by rw [if_pos rfl] at H; exact H
          clear H
          have H := H1
          clear H1
          exact absurd H (by simp)
        · replace c11 := Bool.eq_false_iff.mpr c11
          subst c11
          have H1 : ((wire_TakeText.f kj7 t135 a2).bind fun bt138 => ((tattleref01_TakeText.f kj7 t135 a2).bind fun bt141 => (if bt138.1.toList = bt141.1.toList then (if bt138.2.1 = bt141.2.1 then (if bt138.2.2 = bt141.2.2 then ((tattlelaw01_awake.f kj7).bind fun t144 => (some t144)) else (none)) else (none)) else (none)))) = some r := by rw [if_neg (show ¬ (false = true) by decide)] at H; exact H
          clear H
          have H := H1
          clear H1
          replace H := Option.bind_eq_some_iff.mp H
          obtain ⟨⟨t138, t139, t140⟩, A120, H⟩ := H
          replace H : ((tattleref01_TakeText.f kj7 t135 a2).bind fun bt141 => (if t138.toList = bt141.1.toList then (if t139 = bt141.2.1 then (if t140 = bt141.2.2 then ((tattlelaw01_awake.f kj7).bind fun t144 => (some t144)) else (none)) else (none)) else (none))) = some r := H
          have A12 := Aside0.mk A120
          clear A120
          replace H := Option.bind_eq_some_iff.mp H
          obtain ⟨⟨t141, t142, t143⟩, A130, H⟩ := H
          replace H : (if t138.toList = t141.toList then (if t139 = t142 then (if t140 = t143 then ((tattlelaw01_awake.f kj7).bind fun t144 => (some t144)) else (none)) else (none)) else (none)) = some r := H
          have A13 := Aside0.mk A130
          clear A130
          by_cases c14 : t138.toList = t141.toList
          · rw [if_pos c14] at H
            have c14b0 : (t138.toList == t141.toList) = true := beq_iff_eq.mpr c14
            have c14b1 : (t138.toList != t141.toList) = false := bne_eq_false_iff_eq.mpr c14
            clear c14
            by_cases c15 : t139 = t142
            · rw [if_pos c15] at H
              have c15b0 : (t139 == t142) = true := beq_iff_eq.mpr c15
              have c15b1 : (t139 != t142) = false := bne_eq_false_iff_eq.mpr c15
              clear c15
              by_cases c16 : t140 = t143
              · rw [if_pos c16] at H
                have c16b0 : (t140 == t143) = true := beq_iff_eq.mpr c16
                have c16b1 : (t140 != t143) = false := bne_eq_false_iff_eq.mpr c16
                clear c16
                replace H := Option.bind_eq_some_iff.mp H
                obtain ⟨t144, A170, H⟩ := H
                replace H : (some t144) = some r := H
                have A17 := Aside0.mk A170
                clear A170
                obtain rfl := Option.some.inj H
                go_wp2_with (first | ((with_reducible refine gate_callee (f := 19) rfl ?_); refine goesL_ (some 44) rfl rfl Try.func19 (by kernel_rfl) rfl #[.string t135, .int .i64 a2] rfl (by (try simp only [List.map_toArray, List.map_cons, List.map_nil]); first | done | rfl | (simp only [List.length_drop, List.length_take]; rfl)) ?_; (with_reducible refine (wire_TakeText.calls kj7 t135 a2 t138 t139 t140 _ A12.out).mono ?_); rintro e w' ⟨rfl, ⟨nd, rfl⟩⟩; refine ⟨_, rfl, ?_⟩) | ((with_reducible refine gate_callee (f := 20) rfl ?_); refine goesL_ (some 51) rfl rfl Try.func20 (by kernel_rfl) rfl #[.string t135, .int .i64 a2] rfl (by (try simp only [List.map_toArray, List.map_cons, List.map_nil]); first | done | rfl | (simp only [List.length_drop, List.length_take]; rfl)) ?_; (with_reducible refine (tattleref01_TakeText.calls kj7 t135 a2 t141 t142 t143 _ A13.out).mono ?_); rintro e w' ⟨rfl, ⟨nd, rfl⟩⟩; refine ⟨_, rfl, ?_⟩) | (go_at_call 15; (with_reducible refine (tattlelaw01_awake.calls kj7  t144 _ A17.out).mono ?_); rintro e w18 ⟨rfl, hb⟩; have n0_ := Aside0.mk (below_step (by repeat (first | (with_reducible first | exact HB.out | apply below_alloc | apply pw_below_drewN | apply below_drew1) | exact HB.out)) hb); clear HB; have HB := n0_; clear n0_; (try clear hb); (try clear hb2); (try clear hk); (try clear hi)))
                go_ret
                exact ⟨by first | rfl | (simp [errW_none, errW_some] <;> rfl) | (simp [*, errW_none, errW_some] <;> rfl), by repeat (first | (with_reducible first | exact HB.out | apply below_alloc | apply pw_below_drewN | apply below_drew1) | exact HB.out)⟩
              · rw [if_neg c16] at H
                exact absurd H (by simp)
            · rw [if_neg c15] at H
              exact absurd H (by simp)
          · rw [if_neg c14] at H
            exact absurd H (by simp)
  · rw [if_neg c7] at H
    have c7b0 : decide (200 < (t134.size : Int)) = false := decide_eq_false c7
    have c7b1 : decide (200 < t134.size) = false := decide_eq_false (by omega)
    clear c7
    have HC19 := Aside0.mk H
    clear H
    go_enter Try.func6, Try.ntmps6
    go_upto_region 6 with (first | ((with_reducible refine gate_callee (f := 10) rfl ?_); refine goesL_ (some 16) rfl rfl Try.func10 (by kernel_rfl) rfl #[.string a0] rfl (by (try simp only [List.map_toArray, List.map_cons, List.map_nil]); first | done | rfl | (simp only [List.length_drop, List.length_take]; rfl)) ?_; (with_reducible refine (tattlelaw01_Few.calls a0 t134 _ A4.out).mono ?_); rintro e w' ⟨rfl, ⟨nd, rfl⟩⟩; refine ⟨_, rfl, ?_⟩) | ((with_reducible refine gate_callee (f := 10) rfl ?_); refine goesL_ (some 18) rfl rfl Try.func10 (by kernel_rfl) rfl #[.string a1] rfl (by (try simp only [List.map_toArray, List.map_cons, List.map_nil]); first | done | rfl | (simp only [List.length_drop, List.length_take]; rfl)) ?_; (with_reducible refine (tattlelaw01_Few.calls a1 t135 _ A5.out).mono ?_); rintro e w' ⟨rfl, ⟨nd, rfl⟩⟩; refine ⟨_, rfl, ?_⟩) | ((with_reducible refine gate_callee (f := 17) rfl ?_); refine goesL_ (some 21) rfl rfl Try.func17 (by kernel_rfl) rfl #[.string t134] rfl (by (try simp only [List.map_toArray, List.map_cons, List.map_nil]); first | done | rfl | (simp only [List.length_drop, List.length_take]; rfl)) ?_; (with_reducible refine (wire_Text.calls k t134 t136 t137 _ A6.out).mono ?_); rintro e w20 ⟨rfl, hb⟩; refine ⟨_, rfl, ?_⟩; have n0_ := Aside0.mk (below_step (by repeat (first | (with_reducible first | exact HB.out | apply below_alloc | apply pw_below_drewN | apply below_drew1) | exact HB.out)) hb); clear HB; have HB := n0_; clear n0_; (try clear hb); (try clear hb2); (try clear hk); (try clear hi)))
    (try simp only [Act.put, List.setIfInBounds_toArray, List.set_cons_zero, List.set_cons_succ])
    go_cut [40] (fun v40 wc => ∃ (kq : Nat) (x40_18 : Bool), v40 = .bool x40_18 ∧ Aside0 (tattlelaw01_WireTexts.j1 kq t135 a2 x40_18 = some r) ∧ Aside0 (kq ≤ k) ∧ Aside0 (Below w.heap.size w wc))
    case first =>
      have H := HC19.out
      clear HC19
      replace H := Option.bind_eq_some_iff.mp H
      obtain ⟨t145, A210, H⟩ := H
      replace H : (if t136.toList = t145.toList then (tattlelaw01_WireTexts.j1 k t135 a2 (t137 != 0)) else (tattlelaw01_WireTexts.j1 k t135 a2 true)) = some r := H
      have A21 := Aside0.mk A210
      clear A210
      by_cases c22 : t136.toList = t145.toList
      · rw [if_pos c22] at H
        have c22b0 : (t136.toList == t145.toList) = true := beq_iff_eq.mpr c22
        have c22b1 : (t136.toList != t145.toList) = false := bne_eq_false_iff_eq.mpr c22
        clear c22
        (first | rw [c22b0] | (simp only [i64_w, i32_w]; rw [c22b0]) | skip)
        have H' := Aside0.mk H
        clear H
        go_wp2_with (first | ((with_reducible refine gate_callee (f := 18) rfl ?_); refine goesL_ (some 35) rfl rfl Try.func18 (by kernel_rfl) rfl #[.string t134] rfl (by (try simp only [List.map_toArray, List.map_cons, List.map_nil]); first | done | rfl | (simp only [List.length_drop, List.length_take]; rfl)) ?_; (with_reducible refine (tattleref01_Text.calls k t134 t145 _ A21.out).mono ?_); rintro e w23 ⟨rfl, hb⟩; refine ⟨_, rfl, ?_⟩; have n0_ := Aside0.mk (below_step (by repeat (first | (with_reducible first | exact HB.out | apply below_alloc | apply pw_below_drewN | apply below_drew1) | exact HB.out)) hb); clear HB; have HB := n0_; clear n0_; (try clear hb); (try clear hb2); (try clear hk); (try clear hi)))
        go_meet
        case rel => exact ⟨_, ((t137 != 0)), (by first | rfl | (simp; done) | (simp [*]; done)), H', ⟨by first | omega | exact Nat.le_refl _⟩, ⟨by repeat (first | (with_reducible first | exact HB.out | apply below_alloc | apply pw_below_drewN | apply below_drew1) | exact HB.out)⟩⟩
      · rw [if_neg c22] at H
        have c22b0 : (t136.toList == t145.toList) = false := beq_eq_false_iff_ne.mpr c22
        have c22b1 : (t136.toList != t145.toList) = true := bne_iff_ne.mpr c22
        (first | rw [c22b0] | (simp only [i64_w, i32_w]; rw [c22b0]) | skip)
        have H' := Aside0.mk H
        clear H
        go_wp2_with (first | ((with_reducible refine gate_callee (f := 18) rfl ?_); refine goesL_ (some 35) rfl rfl Try.func18 (by kernel_rfl) rfl #[.string t134] rfl (by (try simp only [List.map_toArray, List.map_cons, List.map_nil]); first | done | rfl | (simp only [List.length_drop, List.length_take]; rfl)) ?_; (with_reducible refine (tattleref01_Text.calls k t134 t145 _ A21.out).mono ?_); rintro e w24 ⟨rfl, hb⟩; refine ⟨_, rfl, ?_⟩; have n0_ := Aside0.mk (below_step (by repeat (first | (with_reducible first | exact HB.out | apply below_alloc | apply pw_below_drewN | apply below_drew1) | exact HB.out)) hb); clear HB; have HB := n0_; clear n0_; (try clear hb); (try clear hb2); (try clear hk); (try clear hi)))
        go_meet
        case rel => exact ⟨_, (true), (by first | rfl | (simp; done) | (simp [*]; done)), H', ⟨by first | omega | exact Nat.le_refl _⟩, ⟨by repeat (first | (with_reducible first | exact HB.out | apply below_alloc | apply pw_below_drewN | apply below_drew1) | exact HB.out)⟩⟩
    case rest =>
      clear HC19
      try clear c1
      try clear c2
      try clear p2
      try clear c6
      try clear c7
      try clear c7b0
      try clear c7b1
      try clear c10
      try clear c10b0
      try clear c10b1
      try clear c11
      try clear c14
      try clear c14b0
      try clear c14b1
      try clear c15
      try clear c15b0
      try clear c15b1
      try clear c16
      try clear c16b0
      try clear c16b1
      try clear c17
      try clear c18
      try clear c19
      try clear c20
      try clear c22
      try clear c22b0
      try clear c22b1
      try clear p2
      obtain ⟨kq, x40_18, rfl, HA, HJ18, HB⟩ := hcut
      cases kq with
      | zero => exact absurd HA.out (by simp [tattlelaw01_WireTexts.j1])
      | succ kj18 =>
        have H := HA.out
        clear HA
        simp only [tattlelaw01_WireTexts.j1] at H
        by_cases c25 : x40_18 = true
        · subst c25
          have H1 : (none) = some r := by rw [if_pos rfl] at H; exact H
          clear H
          have H := H1
          clear H1
          exact absurd H (by simp)
        · replace c25 := Bool.eq_false_iff.mpr c25
          subst c25
          have H1 : ((wire_TakeText.f kj18 t135 a2).bind fun bt146 => ((tattleref01_TakeText.f kj18 t135 a2).bind fun bt149 => (if bt146.1.toList = bt149.1.toList then (if bt146.2.1 = bt149.2.1 then (if bt146.2.2 = bt149.2.2 then ((tattlelaw01_awake.f kj18).bind fun t152 => (some t152)) else (none)) else (none)) else (none)))) = some r := by rw [if_neg (show ¬ (false = true) by decide)] at H; exact H
          clear H
          have H := H1
          clear H1
          replace H := Option.bind_eq_some_iff.mp H
          obtain ⟨⟨t146, t147, t148⟩, A260, H⟩ := H
          replace H : ((tattleref01_TakeText.f kj18 t135 a2).bind fun bt149 => (if t146.toList = bt149.1.toList then (if t147 = bt149.2.1 then (if t148 = bt149.2.2 then ((tattlelaw01_awake.f kj18).bind fun t152 => (some t152)) else (none)) else (none)) else (none))) = some r := H
          have A26 := Aside0.mk A260
          clear A260
          replace H := Option.bind_eq_some_iff.mp H
          obtain ⟨⟨t149, t150, t151⟩, A270, H⟩ := H
          replace H : (if t146.toList = t149.toList then (if t147 = t150 then (if t148 = t151 then ((tattlelaw01_awake.f kj18).bind fun t152 => (some t152)) else (none)) else (none)) else (none)) = some r := H
          have A27 := Aside0.mk A270
          clear A270
          by_cases c28 : t146.toList = t149.toList
          · rw [if_pos c28] at H
            have c28b0 : (t146.toList == t149.toList) = true := beq_iff_eq.mpr c28
            have c28b1 : (t146.toList != t149.toList) = false := bne_eq_false_iff_eq.mpr c28
            clear c28
            by_cases c29 : t147 = t150
            · rw [if_pos c29] at H
              have c29b0 : (t147 == t150) = true := beq_iff_eq.mpr c29
              have c29b1 : (t147 != t150) = false := bne_eq_false_iff_eq.mpr c29
              clear c29
              by_cases c30 : t148 = t151
              · rw [if_pos c30] at H
                have c30b0 : (t148 == t151) = true := beq_iff_eq.mpr c30
                have c30b1 : (t148 != t151) = false := bne_eq_false_iff_eq.mpr c30
                clear c30
                replace H := Option.bind_eq_some_iff.mp H
                obtain ⟨t152, A310, H⟩ := H
                replace H : (some t152) = some r := H
                have A31 := Aside0.mk A310
                clear A310
                obtain rfl := Option.some.inj H
                go_wp2_with (first | ((with_reducible refine gate_callee (f := 19) rfl ?_); refine goesL_ (some 44) rfl rfl Try.func19 (by kernel_rfl) rfl #[.string t135, .int .i64 a2] rfl (by (try simp only [List.map_toArray, List.map_cons, List.map_nil]); first | done | rfl | (simp only [List.length_drop, List.length_take]; rfl)) ?_; (with_reducible refine (wire_TakeText.calls kj18 t135 a2 t146 t147 t148 _ A26.out).mono ?_); rintro e w' ⟨rfl, ⟨nd, rfl⟩⟩; refine ⟨_, rfl, ?_⟩) | ((with_reducible refine gate_callee (f := 20) rfl ?_); refine goesL_ (some 51) rfl rfl Try.func20 (by kernel_rfl) rfl #[.string t135, .int .i64 a2] rfl (by (try simp only [List.map_toArray, List.map_cons, List.map_nil]); first | done | rfl | (simp only [List.length_drop, List.length_take]; rfl)) ?_; (with_reducible refine (tattleref01_TakeText.calls kj18 t135 a2 t149 t150 t151 _ A27.out).mono ?_); rintro e w' ⟨rfl, ⟨nd, rfl⟩⟩; refine ⟨_, rfl, ?_⟩) | (go_at_call 15; (with_reducible refine (tattlelaw01_awake.calls kj18  t152 _ A31.out).mono ?_); rintro e w32 ⟨rfl, hb⟩; have n0_ := Aside0.mk (below_step (by repeat (first | (with_reducible first | exact HB.out | apply below_alloc | apply pw_below_drewN | apply below_drew1) | exact HB.out)) hb); clear HB; have HB := n0_; clear n0_; (try clear hb); (try clear hb2); (try clear hk); (try clear hi)))
                go_ret
                exact ⟨by first | rfl | (simp [errW_none, errW_some] <;> rfl) | (simp [*, errW_none, errW_some] <;> rfl), by repeat (first | (with_reducible first | exact HB.out | apply below_alloc | apply pw_below_drewN | apply below_drew1) | exact HB.out)⟩
              · rw [if_neg c30] at H
                exact absurd H (by simp)
            · rw [if_neg c29] at H
              exact absurd H (by simp)
          · rw [if_neg c28] at H
            exact absurd H (by simp)

/-- THE ONE PURE STATEMENT of tattlelaw01_WireTexts: yours. -/
def tattlelaw01_WireTexts.Pure : Prop := ∀ (a0 : ByteArray) (a1 : ByteArray) (a2 : Int), a0.size ≤ 140737488351232 → a1.size ≤ 140737488351232 → (Lit.int .i64 a2).wf = true → ∃ k, tattlelaw01_WireTexts.f k a0 a1 a2 = some true
theorem tattlelaw01_WireTexts.walk (P : tattlelaw01_WireTexts.Pure) (a0 : ByteArray) (a1 : ByteArray) (a2 : Int) (w : World) (w0 : a0.size ≤ 140737488351232) (w1 : a1.size ≤ 140737488351232) (w2 : (Lit.int .i64 a2).wf = true) :
    Calls Try.prog 6 #[.string a0, .string a1, .int .i64 a2] w fun e w' => e = .returned (.bool true) ∧ Below w.heap.size w w' := by
  obtain ⟨k, h⟩ := P a0 a1 a2 w0 w1 w2
  refine (tattlelaw01_WireTexts.calls k a0 a1 a2 true w h).mono ?_
  rintro e w' ⟨rfl, hd⟩
  exact ⟨rfl, hd⟩

end Go.Proofs.Ytmehdghhnmnmiaa.PWireTexts
