-- Written by a program of this session (see NOTES.md) out of the print of Lean's own loaded functions; Lean checks it.
import Derived.Test.YtmehdghhnmnmiaaPWireBacksx0
import Derived.Test.YtmehdghhnmnmiaaPWireBacksx1
namespace Go.Proofs.Ytmehdghhnmnmiaa.PWireBacks
open Go.RowKit Go.Proofs.YtmehdghhnmnmiaaW.PrintWords Go.Proofs.YtmehdghhnmnmiaaW.PrintLast Go.Proofs.YtmehdghhnmnmiaaW.PrintMore
attribute [local go_sem] max2_int min2_int max_two min_two max_three min_three max_four min_four   -- for this text's walks alone
set_option linter.unusedVariables false
set_option linter.unusedSimpArgs false

/-! ### wire_TakeText: function 19 -/
def wire_TakeText.f (k : Nat) (a0 : ByteArray) (a1 : Int) : Option (ByteArray × Int × Int) := (wire_TakeNum.f k a0 a1).bind fun bt120 => (if bt120.2.2 = 0 then (if bt120.1 > 200 then (some ((⟨#[]⟩ : ByteArray), 0, 4)) else (if (wrap64 (bt120.1)) > (wrap64 ((a0.size : Int) - bt120.2.1)) then (some ((⟨#[]⟩ : ByteArray), 0, 3)) else (if 0 ≤ bt120.2.1 then (if bt120.2.1 ≤ (wrap64 (bt120.2.1 + (wrap64 (bt120.1)))) then (if (wrap64 (bt120.2.1 + (wrap64 (bt120.1)))) ≤ (a0.size : Int) then (some (a0.extract (bt120.2.1 : Int).toNat ((wrap64 (bt120.2.1 + (wrap64 (bt120.1)))) : Int).toNat, wrap64 (bt120.2.1 + (wrap64 (bt120.1))), 0)) else (none)) else (none)) else (none)))) else (some ((⟨#[]⟩ : ByteArray), 0, bt120.2.2)))
theorem wire_TakeText.mono : ∀ a0 a1 k, LeO (wire_TakeText.f k a0 a1) (wire_TakeText.f (k + 1) a0 a1) := by
  intro a0 a1 k
  unfold wire_TakeText.f
  repeat' first
      | (with_reducible exact wire_TakeNum.mono _ _ _)
      | (with_reducible exact LeO.refl _)
      | (with_reducible exact LeO.none _)
      | (with_reducible refine LeO.ite ?_ ?_)
      | (with_reducible refine LeO.bind ?_ (fun _ => ?_))
      | exact wire_TakeNum.mono _ _ _
      | exact LeO.none _
      | refine LeO.ite ?_ ?_
      | refine LeO.bind ?_ (fun _ => ?_)
set_option maxHeartbeats 8000000 in
set_option maxRecDepth 100000 in
theorem wire_TakeText.calls (k : Nat) (a0 : ByteArray) (a1 : Int) (r1 : ByteArray) (r2 : Int) (r3 : Int) (w : World) (h : wire_TakeText.f k a0 a1 = some (r1, r2, r3)) :
    Calls Try.prog 19 #[.string a0, .int .i64 a1] w fun e w' => e = .returned (.tuple #[.string r1, .int .i64 r2, .int .i64 r3]) ∧ Drawn0 w w' := by
  have H : ((wire_TakeNum.f k a0 a1).bind fun bt120 => (if bt120.2.2 = 0 then (if bt120.1 > 200 then (some ((⟨#[]⟩ : ByteArray), 0, 4)) else (if (wrap64 (bt120.1)) > (wrap64 ((a0.size : Int) - bt120.2.1)) then (some ((⟨#[]⟩ : ByteArray), 0, 3)) else (if 0 ≤ bt120.2.1 then (if bt120.2.1 ≤ (wrap64 (bt120.2.1 + (wrap64 (bt120.1)))) then (if (wrap64 (bt120.2.1 + (wrap64 (bt120.1)))) ≤ (a0.size : Int) then (some (a0.extract (bt120.2.1 : Int).toNat ((wrap64 (bt120.2.1 + (wrap64 (bt120.1)))) : Int).toNat, wrap64 (bt120.2.1 + (wrap64 (bt120.1))), 0)) else (none)) else (none)) else (none)))) else (some ((⟨#[]⟩ : ByteArray), 0, bt120.2.2)))) = some (r1, r2, r3) := h
  clear h
  replace H := Option.bind_eq_some_iff.mp H
  obtain ⟨⟨t120, t121, t122⟩, A30, H⟩ := H
  replace H : (if t122 = 0 then (if t120 > 200 then (some ((⟨#[]⟩ : ByteArray), 0, 4)) else (if (wrap64 (t120)) > (wrap64 ((a0.size : Int) - t121)) then (some ((⟨#[]⟩ : ByteArray), 0, 3)) else (if 0 ≤ t121 then (if t121 ≤ (wrap64 (t121 + (wrap64 (t120)))) then (if (wrap64 (t121 + (wrap64 (t120)))) ≤ (a0.size : Int) then (some (a0.extract (t121 : Int).toNat ((wrap64 (t121 + (wrap64 (t120)))) : Int).toNat, wrap64 (t121 + (wrap64 (t120))), 0)) else (none)) else (none)) else (none)))) else (some ((⟨#[]⟩ : ByteArray), 0, t122))) = some (r1, r2, r3) := H
  have A3 := Aside0.mk A30
  clear A30
  by_cases c4 : t122 = 0
  · rw [if_pos c4] at H
    have c4b0 : (t122 == 0) = true := beq_iff_eq.mpr c4
    have c4b1 : (t122 != 0) = false := bne_eq_false_iff_eq.mpr c4
    clear c4
    by_cases c5 : t120 > 200
    · rw [if_pos c5] at H
      have c5b0 : decide (200 < t120) = true := decide_eq_true c5
      clear c5
      simp only [Option.some.injEq, Prod.mk.injEq] at H
      obtain ⟨rfl, rfl, rfl⟩ := H
      go_enter Try.func19, Try.ntmps19
      go_wp2_with (first | ((with_reducible refine gate_callee (f := 11) rfl ?_); refine goesL_ (some 13) rfl rfl Try.func11 (by kernel_rfl) rfl #[.string a0, .int .i64 a1] rfl (by (try simp only [List.map_toArray, List.map_cons, List.map_nil]); first | done | rfl | (simp only [List.length_drop, List.length_take]; rfl)) ?_; (with_reducible refine (wire_TakeNum.calls k a0 a1 t120 t121 t122 _ A3.out).mono ?_); rintro e w' ⟨rfl, ⟨nd, rfl⟩⟩; refine ⟨_, rfl, ?_⟩))
      go_ret3
      exact ⟨by first | rfl | (simp; done) | (simp [*]; done), by repeat (first | exact Drawn0.refl _ | apply Drawn0.step)⟩
    · rw [if_neg c5] at H
      have c5b0 : decide (200 < t120) = false := decide_eq_false c5
      clear c5
      by_cases c6 : (wrap64 (t120)) > (wrap64 ((a0.size : Int) - t121))
      · rw [if_pos c6] at H
        have c6b0 : decide ((wrap64 ((a0.size : Int) - t121)) < (wrap64 (t120))) = true := decide_eq_true c6
        clear c6
        simp only [Option.some.injEq, Prod.mk.injEq] at H
        obtain ⟨rfl, rfl, rfl⟩ := H
        go_enter Try.func19, Try.ntmps19
        go_wp2_with (first | ((with_reducible refine gate_callee (f := 11) rfl ?_); refine goesL_ (some 13) rfl rfl Try.func11 (by kernel_rfl) rfl #[.string a0, .int .i64 a1] rfl (by (try simp only [List.map_toArray, List.map_cons, List.map_nil]); first | done | rfl | (simp only [List.length_drop, List.length_take]; rfl)) ?_; (with_reducible refine (wire_TakeNum.calls k a0 a1 t120 t121 t122 _ A3.out).mono ?_); rintro e w' ⟨rfl, ⟨nd, rfl⟩⟩; refine ⟨_, rfl, ?_⟩))
        go_ret3
        exact ⟨by first | rfl | (simp; done) | (simp [*]; done), by repeat (first | exact Drawn0.refl _ | apply Drawn0.step)⟩
      · rw [if_neg c6] at H
        have c6b0 : decide ((wrap64 ((a0.size : Int) - t121)) < (wrap64 (t120))) = false := decide_eq_false c6
        clear c6
        by_cases c7 : 0 ≤ t121
        · rw [if_pos c7] at H
          have c7b0 := eq_true c7
          have c7b1 : decide (0 ≤ t121) = true := decide_eq_true c7
          clear c7
          by_cases c8 : t121 ≤ (wrap64 (t121 + (wrap64 (t120))))
          · rw [if_pos c8] at H
            have c8b0 := eq_true c8
            have c8b1 : decide (t121 ≤ (wrap64 (t121 + (wrap64 (t120))))) = true := decide_eq_true c8
            by_cases c9 : (wrap64 (t121 + (wrap64 (t120)))) ≤ (a0.size : Int)
            · rw [if_pos c9] at H
              have c9b0 := eq_true c9
              have c9b1 : decide ((wrap64 (t121 + (wrap64 (t120)))) ≤ (a0.size : Int)) = true := decide_eq_true c9
              simp only [Option.some.injEq, Prod.mk.injEq] at H
              obtain ⟨rfl, rfl, rfl⟩ := H
              go_enter Try.func19, Try.ntmps19
              go_wp2_with (first | ((with_reducible refine gate_callee (f := 11) rfl ?_); refine goesL_ (some 13) rfl rfl Try.func11 (by kernel_rfl) rfl #[.string a0, .int .i64 a1] rfl (by (try simp only [List.map_toArray, List.map_cons, List.map_nil]); first | done | rfl | (simp only [List.length_drop, List.length_take]; rfl)) ?_; (with_reducible refine (wire_TakeNum.calls k a0 a1 t120 t121 t122 _ A3.out).mono ?_); rintro e w' ⟨rfl, ⟨nd, rfl⟩⟩; refine ⟨_, rfl, ?_⟩))
              go_ret3
              exact ⟨by first | rfl | (simp; done) | (simp [*]; done), by repeat (first | exact Drawn0.refl _ | apply Drawn0.step)⟩
            · rw [if_neg c9] at H
              exact absurd H (by simp)
          · rw [if_neg c8] at H
            exact absurd H (by simp)
        · rw [if_neg c7] at H
          exact absurd H (by simp)
  · rw [if_neg c4] at H
    have c4b0 : (t122 == 0) = false := beq_eq_false_iff_ne.mpr c4
    have c4b1 : (t122 != 0) = true := bne_iff_ne.mpr c4
    simp only [Option.some.injEq, Prod.mk.injEq] at H
    obtain ⟨rfl, rfl, rfl⟩ := H
    go_enter Try.func19, Try.ntmps19
    go_wp2_with (first | ((with_reducible refine gate_callee (f := 11) rfl ?_); refine goesL_ (some 13) rfl rfl Try.func11 (by kernel_rfl) rfl #[.string a0, .int .i64 a1] rfl (by (try simp only [List.map_toArray, List.map_cons, List.map_nil]); first | done | rfl | (simp only [List.length_drop, List.length_take]; rfl)) ?_; (with_reducible refine (wire_TakeNum.calls k a0 a1 t120 t121 t122 _ A3.out).mono ?_); rintro e w' ⟨rfl, ⟨nd, rfl⟩⟩; refine ⟨_, rfl, ?_⟩))
    go_ret3
    exact ⟨by first | rfl | (simp; done) | (simp [*]; done), by repeat (first | exact Drawn0.refl _ | apply Drawn0.step)⟩

end Go.Proofs.Ytmehdghhnmnmiaa.PWireBacks
