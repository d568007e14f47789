-- Written by a program of this session (see NOTES.md) out of the print of Lean's own loaded functions; Lean checks it.
import Derived.Test.YtmehdghhnmnmiaaPWireTurnsx0
import Derived.Test.YtmehdghhnmnmiaaPWireTurnsx1
namespace Go.Proofs.Ytmehdghhnmnmiaa.PWireTurns
open Go.RowKit Go.Proofs.YtmehdghhnmnmiaaW.PrintWords Go.Proofs.YtmehdghhnmnmiaaW.PrintLast Go.Proofs.YtmehdghhnmnmiaaW.PrintMore
attribute [local go_sem] max2_int min2_int max_two min_two max_three min_three max_four min_four   -- for this text's walks alone
set_option linter.unusedVariables false
set_option linter.unusedSimpArgs false

/-! ### wire_Open: function 22 -/
def wire_Open.f (a0 : ByteArray) : Option (ByteArray × Int) := if (wrap64 ((a0.size : Int) - 4)) < 0 then (some ((⟨#[]⟩ : ByteArray), 3)) else (if (wrap64 ((a0.size : Int) - 4)) > 4096 then (some ((⟨#[]⟩ : ByteArray), 4)) else (if 0 ≤ (wrap64 ((a0.size : Int) - 4)) then (if (wrap64 ((a0.size : Int) - 4)) ≤ (a0.size : Int) then ((wire_Sum.f (a0.extract 0 ((wrap64 ((a0.size : Int) - 4)) : Int).toNat)).bind fun t121 => ((wire_four.f t121).bind fun t122 => (if (a0.extract ((wrap64 ((a0.size : Int) - 4)) : Int).toNat a0.size).toList = t122.toList then (some (a0.extract 0 ((wrap64 ((a0.size : Int) - 4)) : Int).toNat, 0)) else (some ((⟨#[]⟩ : ByteArray), 10))))) else (none)) else (none)))
def wire_Open.T6 : Bool × List (List Nat × List Nat) := (true, [([], []), ([], []), ([0, 1], [0, 1]), ([], []), ([], []), ([3, 4], [3, 4]), ([5], [5]), ([6, 6], [6]), ([2, 7], [2, 7]), ([8, 7], [8])])
def wire_Open.B6 : List Nat := [0, 0, 3, 0, 0, 24, 56, 120, 255, 511]
theorem wire_Open.tab6 : rtab .any (opsOf Try.f22 6) = wire_Open.T6 := by kernel_rfl
theorem wire_Open.bits6 : waitsOk wire_Open.T6.2 wire_Open.B6 = true := by kernel_rfl
set_option maxHeartbeats 8000000 in
set_option maxRecDepth 100000 in
theorem wire_Open.calls (a0 : ByteArray) (r1 : ByteArray) (r2 : Int) (w : World) (h : wire_Open.f a0 = some (r1, r2)) :
    Calls Try.prog 22 #[.string a0] w fun e w' => e = .returned (.tuple #[.string r1, .int .i64 r2]) ∧ Below w.heap.size w w' := by
  have HB := Aside0.mk (Below.refl w.heap.size w)
  have H : (if (wrap64 ((a0.size : Int) - 4)) < 0 then (some ((⟨#[]⟩ : ByteArray), 3)) else (if (wrap64 ((a0.size : Int) - 4)) > 4096 then (some ((⟨#[]⟩ : ByteArray), 4)) else (if 0 ≤ (wrap64 ((a0.size : Int) - 4)) then (if (wrap64 ((a0.size : Int) - 4)) ≤ (a0.size : Int) then ((wire_Sum.f (a0.extract 0 ((wrap64 ((a0.size : Int) - 4)) : Int).toNat)).bind fun t121 => ((wire_four.f t121).bind fun t122 => (if (a0.extract ((wrap64 ((a0.size : Int) - 4)) : Int).toNat a0.size).toList = t122.toList then (some (a0.extract 0 ((wrap64 ((a0.size : Int) - 4)) : Int).toNat, 0)) else (some ((⟨#[]⟩ : ByteArray), 10))))) else (none)) else (none)))) = some (r1, r2) := h
  clear h
  by_cases c2 : (wrap64 ((a0.size : Int) - 4)) < 0
  · rw [if_pos c2] at H
    have c2b0 : decide ((wrap64 ((a0.size : Int) - 4)) < 0) = true := decide_eq_true c2
    clear c2
    simp only [Option.some.injEq, Prod.mk.injEq] at H
    obtain ⟨rfl, rfl⟩ := H
    go_enter Try.func22, Try.ntmps22
    go_wp2
    go_ret2
    exact ⟨by first | rfl | (simp [errW_none, errW_some] <;> rfl) | (simp [*, errW_none, errW_some] <;> rfl), by repeat (first | (with_reducible first | exact HB.out | apply below_alloc | apply pw_below_drewN | apply below_drew1) | exact HB.out)⟩
  · rw [if_neg c2] at H
    have c2b0 : decide ((wrap64 ((a0.size : Int) - 4)) < 0) = false := decide_eq_false c2
    clear c2
    by_cases c3 : (wrap64 ((a0.size : Int) - 4)) > 4096
    · rw [if_pos c3] at H
      have c3b0 : decide (4096 < (wrap64 ((a0.size : Int) - 4))) = true := decide_eq_true c3
      clear c3
      simp only [Option.some.injEq, Prod.mk.injEq] at H
      obtain ⟨rfl, rfl⟩ := H
      go_enter Try.func22, Try.ntmps22
      go_wp2
      go_ret2
      exact ⟨by first | rfl | (simp [errW_none, errW_some] <;> rfl) | (simp [*, errW_none, errW_some] <;> rfl), by repeat (first | (with_reducible first | exact HB.out | apply below_alloc | apply pw_below_drewN | apply below_drew1) | exact HB.out)⟩
    · rw [if_neg c3] at H
      have c3b0 : decide (4096 < (wrap64 ((a0.size : Int) - 4))) = false := decide_eq_false c3
      clear c3
      obtain ⟨ji4, hji4⟩ : ∃ j_ : Int, (wrap64 ((a0.size : Int) - 4)) = j_ := ⟨_, rfl⟩
      replace H : (if 0 ≤ (ji4) then (if (ji4) ≤ (a0.size : Int) then ((wire_Sum.f (a0.extract 0 ((ji4) : Int).toNat)).bind fun t121 => ((wire_four.f t121).bind fun t122 => (if (a0.extract ((ji4) : Int).toNat a0.size).toList = t122.toList then (some (a0.extract 0 ((ji4) : Int).toNat, 0)) else (some ((⟨#[]⟩ : ByteArray), 10))))) else (none)) else (none)) = some (r1, r2) := by first | (rw [hji4] at H; exact H) | (simp only [hji4] at H ⊢; exact H)
      (try rw [hji4] at c2b0)
      (try rw [hji4] at c3b0)
      have hji4w : (IntKind.i64.wrap ((a0.size : Int) - 4)) = ji4 := (i64_w _).trans hji4
      by_cases c5 : 0 ≤ (ji4)
      · rw [if_pos c5] at H
        have c5b0 := eq_true c5
        have c5b1 : decide (0 ≤ (ji4)) = true := decide_eq_true c5
        clear c5
        by_cases c6 : (ji4) ≤ (a0.size : Int)
        · rw [if_pos c6] at H
          have c6b0 := eq_true c6
          have c6b1 : decide ((ji4) ≤ (a0.size : Int)) = true := decide_eq_true c6
          clear c6
          have c7b0 := eq_true (of_decide_eq_true (by first | (with_reducible assumption) | assumption) : 0 ≤ (ji4))
          have c8b0 := eq_true (of_decide_eq_true (by first | (with_reducible assumption) | assumption) : (ji4) ≤ (a0.size : Int))
          replace H := Option.bind_eq_some_iff.mp H
          obtain ⟨t121, A90, H⟩ := H
          replace H : ((wire_four.f t121).bind fun t122 => (if (a0.extract ((ji4) : Int).toNat a0.size).toList = t122.toList then (some (a0.extract 0 ((ji4) : Int).toNat, 0)) else (some ((⟨#[]⟩ : ByteArray), 10)))) = some (r1, r2) := H
          have A9 := Aside0.mk A90
          clear A90
          replace H := Option.bind_eq_some_iff.mp H
          obtain ⟨t122, A100, H⟩ := H
          replace H : (if (a0.extract ((ji4) : Int).toNat a0.size).toList = t122.toList then (some (a0.extract 0 ((ji4) : Int).toNat, 0)) else (some ((⟨#[]⟩ : ByteArray), 10))) = some (r1, r2) := H
          have A10 := Aside0.mk A100
          clear A100
          by_cases c11 : (a0.extract ((ji4) : Int).toNat a0.size).toList = t122.toList
          · rw [if_pos c11] at H
            have c11b0 : ((a0.extract ((ji4) : Int).toNat a0.size).toList == t122.toList) = true := beq_iff_eq.mpr c11
            have c11b1 : ((a0.extract ((ji4) : Int).toNat a0.size).toList != t122.toList) = false := bne_eq_false_iff_eq.mpr c11
            clear c11
            have c12b0 := eq_true (of_decide_eq_true (by first | (with_reducible assumption) | assumption) : 0 ≤ (ji4))
            have c13b0 := eq_true (of_decide_eq_true (by first | (with_reducible assumption) | assumption) : (ji4) ≤ (a0.size : Int))
            simp only [Option.some.injEq, Prod.mk.injEq] at H
            obtain ⟨rfl, rfl⟩ := H
            go_enter Try.func22, Try.ntmps22
            try go_wp2
            have n0_ := Aside0.mk (below_drew1 HB.out)
            clear HB
            have HB := n0_
            clear n0_
            refine start_ (n := 10) (S := fun w' => True) (ds := []) #[false, false, false, false, false, false, false, false, false, false] (by kernel_rfl) rfl rfl trivial (fun hHeld => ?_); refine with_tabW wire_Open.tab6 wire_Open.bits6 (fun HT_ HW_ => ?_)
            generalize w.drew = w14 at HB hHeld ⊢
            refine pure_ (i := 0) (N := some 15) (v := ?_) (a' := ?_) #[true, false, false, false, false, false, false, false, false, false] rfl rfl (any_of HT_.out (by kernel_rfl)) (fun _ _ _ h => h) (Or.inl ⟨by rfl, ?_⟩) ?_ ?_
            rotate_left
            · intro w'
              go_simp
              with_reducible rfl
            rotate_left
            · simp only [Act.put, List.setIfInBounds_toArray, List.set_cons_zero, List.set_cons_succ, i64_w, i32_w]
              rfl
            refine pure_ (i := 1) (N := some 16) (v := ?_) (a' := ?_) #[true, true, false, false, false, false, false, false, false, false] rfl rfl (any_of HT_.out (by kernel_rfl)) (fun _ _ _ h => h) (Or.inl ⟨by rfl, ?_⟩) ?_ ?_
            rotate_left
            · intro w'
              go_simp
              with_reducible rfl
            rotate_left
            · simp only [Act.put, List.setIfInBounds_toArray, List.set_cons_zero, List.set_cons_succ, i64_w, i32_w]
              rfl
            refine pure_ (i := 2) (N := some 17) (v := ?_) (a' := ?_) #[true, true, true, false, false, false, false, false, false, false] rfl rfl (any_of HT_.out (by kernel_rfl)) (fun _ _ _ h => h) (Or.inl ⟨by rfl, ?_⟩) ?_ ?_
            rotate_left
            · intro w'
              go_simp
              with_reducible rfl
            rotate_left
            · simp only [Act.put, List.setIfInBounds_toArray, List.set_cons_zero, List.set_cons_succ, i64_w, i32_w]
              rfl
            refine pure_ (i := 3) (N := some 18) (v := ?_) (a' := ?_) #[true, true, true, true, false, false, false, false, false, false] rfl rfl (any_of HT_.out (by kernel_rfl)) (fun _ _ _ h => h) (Or.inl ⟨by rfl, ?_⟩) ?_ ?_
            rotate_left
            · intro w'
              go_simp
              with_reducible rfl
            rotate_left
            · simp only [Act.put, List.setIfInBounds_toArray, List.set_cons_zero, List.set_cons_succ, i64_w, i32_w]
              rfl
            refine pure_ (i := 4) (N := some 19) (v := ?_) (a' := ?_) #[true, true, true, true, true, false, false, false, false, false] rfl rfl (any_of HT_.out (by kernel_rfl)) (fun _ _ _ h => h) (Or.inl ⟨by rfl, ?_⟩) ?_ ?_
            rotate_left
            · intro w'
              go_simp
              with_reducible rfl
            rotate_left
            · simp only [Act.put, List.setIfInBounds_toArray, List.set_cons_zero, List.set_cons_succ, i64_w, i32_w]
              rfl
            refine pure_ (i := 5) (N := some 20) (v := ?_) (a' := ?_) #[true, true, true, true, true, true, false, false, false, false] rfl rfl (any_of HT_.out (by kernel_rfl)) (fun _ _ _ h => h) (Or.inl ⟨by rfl, ?_⟩) ?_ ?_
            rotate_left
            · intro w'
              go_simp
              with_reducible rfl
            rotate_left
            · simp only [Act.put, List.setIfInBounds_toArray, List.set_cons_zero, List.set_cons_succ, i64_w, i32_w]
              rfl
            refine one_ (i := 6) (N := some 21) #[true, true, true, true, true, true, true, false, false, false] rfl rfl (one_of HT_.out (by kernel_rfl)) (by decide) (fun K hK => ?_)
            refine goes_ Try.func16 (by kernel_rfl) rfl #[.string (a0.extract 0 ((ji4) : Int).toNat)] (by rfl) rfl rfl (by (try simp only [List.map_toArray, List.map_cons, List.map_nil]); first | done | (simp only [hji4]; rfl) | rfl | (simp only [List.length_drop, List.length_take]; rfl)) ?_
            with_reducible refine (wire_Sum.calls (a0.extract 0 ((ji4) : Int).toNat) t121 _ A9.out).mono ?_
            rintro e w15 ⟨rfl, hb⟩
            refine ⟨_, rfl, ?_⟩
            have n0_ := Aside0.mk (below_step (by repeat (first | (with_reducible first | exact HB.out | apply below_alloc | apply pw_below_drewN | apply below_drew1) | exact HB.out)) hb)
            clear HB
            have HB := n0_
            clear n0_
            (try clear hb)
            (try clear hb2)
            (try clear hk)
            (try clear hi)
            refine hK.out _ _ trivial (fun hHeld => ?_)
            clear hK K
            refine norm_ (a' := ?_) ?_ ?_
            rotate_left
            · show Act.put _ (some 21) _ = _
              simp only [Act.put, List.setIfInBounds_toArray, List.set_cons_zero, List.set_cons_succ, i64_w, i32_w]
              rfl
            refine one_ (i := 7) (N := some 22) #[true, true, true, true, true, true, true, true, false, false] rfl rfl (one_of HT_.out (by kernel_rfl)) (by decide) (fun K hK => ?_)
            refine goes_ Try.func29 (by kernel_rfl) rfl #[.int .u32 t121] (by rfl) rfl rfl (by (try simp only [List.map_toArray, List.map_cons, List.map_nil]); first | done | rfl | (simp only [List.length_drop, List.length_take]; rfl)) ?_
            with_reducible refine (wire_four.calls t121 t122 _ A10.out).mono ?_
            rintro e w16 ⟨rfl, hb⟩
            refine ⟨_, rfl, ?_⟩
            have n0_ := Aside0.mk (below_step (by repeat (first | (with_reducible first | exact HB.out | apply below_alloc | apply pw_below_drewN | apply below_drew1) | exact HB.out)) hb)
            clear HB
            have HB := n0_
            clear n0_
            (try clear hb)
            (try clear hb2)
            (try clear hk)
            (try clear hi)
            refine hK.out _ _ trivial (fun hHeld => ?_)
            clear hK K
            refine norm_ (a' := ?_) ?_ ?_
            rotate_left
            · show Act.put _ (some 22) _ = _
              simp only [Act.put, List.setIfInBounds_toArray, List.set_cons_zero, List.set_cons_succ, i64_w, i32_w]
              rfl
            refine pure_ (i := 8) (N := some 23) (v := ?_) (a' := ?_) #[true, true, true, true, true, true, true, true, true, false] rfl rfl (any_of HT_.out (by kernel_rfl)) (fun _ _ _ h => h) (Or.inl ⟨by rfl, ?_⟩) ?_ ?_
            rotate_left
            · intro w'
              go_simp
              with_reducible rfl
            rotate_left
            · simp only [Act.put, List.setIfInBounds_toArray, List.set_cons_zero, List.set_cons_succ, i64_w, i32_w]
              rfl
            refine pure_ (i := 9) (N := some 14) (v := ?_) (a' := ?_) #[true, true, true, true, true, true, true, true, true, true] rfl rfl (any_of HT_.out (by kernel_rfl)) (fun _ _ _ h => h) (Or.inl ⟨by rfl, ?_⟩) ?_ ?_
            rotate_left
            · intro w'
              go_simp
              with_reducible rfl
            rotate_left
            · simp only [Act.put, List.setIfInBounds_toArray, List.set_cons_zero, List.set_cons_succ, i64_w, i32_w]
              rfl
            refine done_ (done_of HT_.out (by kernel_rfl)) ?_
            try go_wp2
            go_ret2
            exact ⟨by first | rfl | (simp [errW_none, errW_some] <;> rfl) | (simp only [← hji4]; first | rfl | (simp [errW_none, errW_some] <;> rfl)) | (simp [*, errW_none, errW_some] <;> rfl), by repeat (first | (with_reducible first | exact HB.out | apply below_alloc | apply pw_below_drewN | apply below_drew1) | exact HB.out)⟩
          · rw [if_neg c11] at H
            have c11b0 : ((a0.extract ((ji4) : Int).toNat a0.size).toList == t122.toList) = false := beq_eq_false_iff_ne.mpr c11
            have c11b1 : ((a0.extract ((ji4) : Int).toNat a0.size).toList != t122.toList) = true := bne_iff_ne.mpr c11
            simp only [Option.some.injEq, Prod.mk.injEq] at H
            obtain ⟨rfl, rfl⟩ := H
            go_enter Try.func22, Try.ntmps22
            try go_wp2
            have n0_ := Aside0.mk (below_drew1 HB.out)
            clear HB
            have HB := n0_
            clear n0_
            refine start_ (n := 10) (S := fun w' => True) (ds := []) #[false, false, false, false, false, false, false, false, false, false] (by kernel_rfl) rfl rfl trivial (fun hHeld => ?_); refine with_tabW wire_Open.tab6 wire_Open.bits6 (fun HT_ HW_ => ?_)
            generalize w.drew = w17 at HB hHeld ⊢
            refine pure_ (i := 0) (N := some 15) (v := ?_) (a' := ?_) #[true, false, false, false, false, false, false, false, false, false] rfl rfl (any_of HT_.out (by kernel_rfl)) (fun _ _ _ h => h) (Or.inl ⟨by rfl, ?_⟩) ?_ ?_
            rotate_left
            · intro w'
              go_simp
              with_reducible rfl
            rotate_left
            · simp only [Act.put, List.setIfInBounds_toArray, List.set_cons_zero, List.set_cons_succ, i64_w, i32_w]
              rfl
            refine pure_ (i := 1) (N := some 16) (v := ?_) (a' := ?_) #[true, true, false, false, false, false, false, false, false, false] rfl rfl (any_of HT_.out (by kernel_rfl)) (fun _ _ _ h => h) (Or.inl ⟨by rfl, ?_⟩) ?_ ?_
            rotate_left
            · intro w'
              go_simp
              with_reducible rfl
            rotate_left
            · simp only [Act.put, List.setIfInBounds_toArray, List.set_cons_zero, List.set_cons_succ, i64_w, i32_w]
              rfl
            refine pure_ (i := 2) (N := some 17) (v := ?_) (a' := ?_) #[true, true, true, false, false, false, false, false, false, false] rfl rfl (any_of HT_.out (by kernel_rfl)) (fun _ _ _ h => h) (Or.inl ⟨by rfl, ?_⟩) ?_ ?_
            rotate_left
            · intro w'
              go_simp
              with_reducible rfl
            rotate_left
            · simp only [Act.put, List.setIfInBounds_toArray, List.set_cons_zero, List.set_cons_succ, i64_w, i32_w]
              rfl
            refine pure_ (i := 3) (N := some 18) (v := ?_) (a' := ?_) #[true, true, true, true, false, false, false, false, false, false] rfl rfl (any_of HT_.out (by kernel_rfl)) (fun _ _ _ h => h) (Or.inl ⟨by rfl, ?_⟩) ?_ ?_
            rotate_left
            · intro w'
              go_simp
              with_reducible rfl
            rotate_left
            · simp only [Act.put, List.setIfInBounds_toArray, List.set_cons_zero, List.set_cons_succ, i64_w, i32_w]
              rfl
            refine pure_ (i := 4) (N := some 19) (v := ?_) (a' := ?_) #[true, true, true, true, true, false, false, false, false, false] rfl rfl (any_of HT_.out (by kernel_rfl)) (fun _ _ _ h => h) (Or.inl ⟨by rfl, ?_⟩) ?_ ?_
            rotate_left
            · intro w'
              go_simp
              with_reducible rfl
            rotate_left
            · simp only [Act.put, List.setIfInBounds_toArray, List.set_cons_zero, List.set_cons_succ, i64_w, i32_w]
              rfl
            refine pure_ (i := 5) (N := some 20) (v := ?_) (a' := ?_) #[true, true, true, true, true, true, false, false, false, false] rfl rfl (any_of HT_.out (by kernel_rfl)) (fun _ _ _ h => h) (Or.inl ⟨by rfl, ?_⟩) ?_ ?_
            rotate_left
            · intro w'
              go_simp
              with_reducible rfl
            rotate_left
            · simp only [Act.put, List.setIfInBounds_toArray, List.set_cons_zero, List.set_cons_succ, i64_w, i32_w]
              rfl
            refine one_ (i := 6) (N := some 21) #[true, true, true, true, true, true, true, false, false, false] rfl rfl (one_of HT_.out (by kernel_rfl)) (by decide) (fun K hK => ?_)
            refine goes_ Try.func16 (by kernel_rfl) rfl #[.string (a0.extract 0 ((ji4) : Int).toNat)] (by rfl) rfl rfl (by (try simp only [List.map_toArray, List.map_cons, List.map_nil]); first | done | (simp only [hji4]; rfl) | rfl | (simp only [List.length_drop, List.length_take]; rfl)) ?_
            with_reducible refine (wire_Sum.calls (a0.extract 0 ((ji4) : Int).toNat) t121 _ A9.out).mono ?_
            rintro e w18 ⟨rfl, hb⟩
            refine ⟨_, rfl, ?_⟩
            have n0_ := Aside0.mk (below_step (by repeat (first | (with_reducible first | exact HB.out | apply below_alloc | apply pw_below_drewN | apply below_drew1) | exact HB.out)) hb)
            clear HB
            have HB := n0_
            clear n0_
            (try clear hb)
            (try clear hb2)
            (try clear hk)
            (try clear hi)
            refine hK.out _ _ trivial (fun hHeld => ?_)
            clear hK K
            refine norm_ (a' := ?_) ?_ ?_
            rotate_left
            · show Act.put _ (some 21) _ = _
              simp only [Act.put, List.setIfInBounds_toArray, List.set_cons_zero, List.set_cons_succ, i64_w, i32_w]
              rfl
            refine one_ (i := 7) (N := some 22) #[true, true, true, true, true, true, true, true, false, false] rfl rfl (one_of HT_.out (by kernel_rfl)) (by decide) (fun K hK => ?_)
            refine goes_ Try.func29 (by kernel_rfl) rfl #[.int .u32 t121] (by rfl) rfl rfl (by (try simp only [List.map_toArray, List.map_cons, List.map_nil]); first | done | rfl | (simp only [List.length_drop, List.length_take]; rfl)) ?_
            with_reducible refine (wire_four.calls t121 t122 _ A10.out).mono ?_
            rintro e w19 ⟨rfl, hb⟩
            refine ⟨_, rfl, ?_⟩
            have n0_ := Aside0.mk (below_step (by repeat (first | (with_reducible first | exact HB.out | apply below_alloc | apply pw_below_drewN | apply below_drew1) | exact HB.out)) hb)
            clear HB
            have HB := n0_
            clear n0_
            (try clear hb)
            (try clear hb2)
            (try clear hk)
            (try clear hi)
            refine hK.out _ _ trivial (fun hHeld => ?_)
            clear hK K
            refine norm_ (a' := ?_) ?_ ?_
            rotate_left
            · show Act.put _ (some 22) _ = _
              simp only [Act.put, List.setIfInBounds_toArray, List.set_cons_zero, List.set_cons_succ, i64_w, i32_w]
              rfl
            refine pure_ (i := 8) (N := some 23) (v := ?_) (a' := ?_) #[true, true, true, true, true, true, true, true, true, false] rfl rfl (any_of HT_.out (by kernel_rfl)) (fun _ _ _ h => h) (Or.inl ⟨by rfl, ?_⟩) ?_ ?_
            rotate_left
            · intro w'
              go_simp
              with_reducible rfl
            rotate_left
            · simp only [Act.put, List.setIfInBounds_toArray, List.set_cons_zero, List.set_cons_succ, i64_w, i32_w]
              rfl
            refine pure_ (i := 9) (N := some 14) (v := ?_) (a' := ?_) #[true, true, true, true, true, true, true, true, true, true] rfl rfl (any_of HT_.out (by kernel_rfl)) (fun _ _ _ h => h) (Or.inl ⟨by rfl, ?_⟩) ?_ ?_
            rotate_left
            · intro w'
              go_simp
              with_reducible rfl
            rotate_left
            · simp only [Act.put, List.setIfInBounds_toArray, List.set_cons_zero, List.set_cons_succ, i64_w, i32_w]
              rfl
            refine done_ (done_of HT_.out (by kernel_rfl)) ?_
            try go_wp2
            go_ret2
            exact ⟨by first | rfl | (simp [errW_none, errW_some] <;> rfl) | (simp only [← hji4]; first | rfl | (simp [errW_none, errW_some] <;> rfl)) | (simp [*, errW_none, errW_some] <;> rfl), by repeat (first | (with_reducible first | exact HB.out | apply below_alloc | apply pw_below_drewN | apply below_drew1) | exact HB.out)⟩
        · rw [if_neg c6] at H
          exact absurd H (by simp)
      · rw [if_neg c5] at H
        exact absurd H (by simp)

/-! ### tattleref01_Turn: function 26 -/
/-- a text with bit j turned -/
def turned (s : ByteArray) (j : Nat) : ByteArray := strOfNums ((bytesOf s).set (j / 8) (Go.bits .xor .u8 ((bytesOf s).getD (j / 8) 0) (2 ^ (j % 8) % 256)))
set_option maxRecDepth 100000 in
set_option maxHeartbeats 1000000 in
theorem turn_calls (s : ByteArray) (j : Nat) (hs : s.size < 1000000) (hj : j < 8 * s.size) (w : World) :
    Calls Try.prog 26 #[.string s, .int .i64 j] w fun e w' => e = .returned (.string (turned s j)) ∧ Below w.heap.size w w' := by
  have kb := fun W => print_bytes (P := Try.prog) 9 34 5 Try.underlying9 Try.underlying34 Try.underlying5 s W
  have h1 : decide ((j : Int) < 0) = false := decide_eq_false (by omega)
  have h2 : decide (8 * (s.size : Int) ≤ (j : Int)) = false := decide_eq_false (by omega)
  go_enter Try.func26, Try.ntmps26
  go_wp2
  clear kb
  obtain ⟨C, hC⟩ : ∃ C, C = grownCap w s.size 0 5 := ⟨_, rfl⟩
  rw [← hC]
  clear hC
  obtain ⟨w2, hw2⟩ : ∃ w2, w2 = Lib.bytesWorld w 5 s := ⟨_, rfl⟩
  rw [← hw2]
  have HW := Lib.hid hw2
  clear hw2
  obtain ⟨b, hb⟩ : ∃ b : Int, b = (bytesOf s).getD (j / 8) 0 := ⟨_, rfl⟩
  have hc : w2.cell? ⟨w.heap.size, j / 8, none⟩ = some (.int .u8 b) := by
    rw [HW.out, hb]
    have hl : (bytesOf s).length = s.size := bytesOf_length s
    rw [Lib.bytesWorld_cell w 5 s (j / 8) (by omega)]
    have h' : j / 8 < s.data.toList.length := by rw [data_length]; omega
    simp [bytesOf, List.getD_eq_getElem?_getD, List.getElem?_eq_getElem h']
  have hf : w2.frozen? ⟨w.heap.size, j / 8, none⟩ = false := by
    rw [HW.out]
    have hg := Lib.bytesWorld_at_new w 5 s
    have hz : s.size ≤ (Lib.bytesCells w 5 s).size := by simp [Lib.bytesCells]
    simp only [World.frozen?, hg]
    simp
    omega
  have Hb := Lib.hid hb
  clear hb
  have i0 : 0 ≤ (j : Int) := by omega
  have i1 : 0 ≤ (j : Int) / 8 := by omega
  have i2 : (j : Int) / 8 < (s.size : Int) := by omega
  have i3 : 0 ≤ (j : Int) % 8 := by omega
  have i4 : (j : Int) % 8 < 8 := by omega
  go_region
  obtain ⟨v, hv⟩ : ∃ v, v = Go.bits .xor .u8 b (2 ^ (j % 8) % 256) := ⟨_, rfl⟩
  rw [← hv]
  obtain ⟨w3, hw3⟩ : ∃ w3, w3 = (w2.setCell ⟨w.heap.size, j / 8, none⟩ (.int .u8 v)).drew := ⟨_, rfl⟩
  rw [← hw3]
  have hcell : ∀ i, i < s.size → w3.cell? ⟨w.heap.size, i, none⟩ = some (.int .u8 (((bytesOf s).set (j / 8) v).getD i 0)) := by
    intro i hi
    have hl : (bytesOf s).length = s.size := bytesOf_length s
    have hread : w2.cell? ⟨w.heap.size, i, none⟩ = some (.int .u8 ((bytesOf s).getD i 0)) := by
      rw [HW.out, Lib.bytesWorld_cell w 5 s i hi]
      have h' : i < s.data.toList.length := by rw [data_length]; exact hi
      simp [bytesOf, List.getD_eq_getElem?_getD, List.getElem?_eq_getElem h']
    rw [hw3]
    show (w2.setCell ⟨w.heap.size, j / 8, none⟩ (.int .u8 v)).cell? ⟨w.heap.size, i, none⟩ = _
    by_cases hij : i = j / 8
    · rw [hij, World.cell?_setCell_same _ _ _ hc]
      rw [List.getD_eq_getElem?_getD, List.getElem?_set_self (by omega)]; rfl
    · rw [World.cell?_setCell_other _ _ _ _ (fun h => hij (by injection h with _ h2 _; exact h2.symm)), hread]
      rw [List.getD_eq_getElem?_getD, List.getD_eq_getElem?_getD, List.getElem?_set_ne (fun h => hij h.symm)]
  have hR : ReadsInt w3 .u8 (some ⟨w.heap.size, 0, none⟩) s.size ((bytesOf s).set (j / 8) v) := by
    refine ⟨by rw [List.length_set, bytesOf_length], by omega, fun _ => ⟨_, rfl, fun i hi => ?_⟩⟩
    rw [add_plain]; exact hcell i hi
  have hB : Below w.heap.size w w3 := by
    rw [hw3, HW.out]
    exact below_drew ((bytes_below (Below.refl _ _) (Nat.le_refl _) 5 s).setCell (Nat.le_refl _) _)
  have kc := string_of_reads (P := Try.prog) (c := C) Try.underlying34 Try.underlying5 Try.underlying9 hR
  have HR := Lib.hid hB
  have Hv := Lib.hid hv
  clear hB hR hcell hc hf hv hw3
  go_wp2
  go_ret
  refine ⟨?_, HR.out⟩
  unfold turned
  rw [← Hb.out, ← Hv.out]
  rfl

set_option maxRecDepth 100000 in
set_option maxHeartbeats 1000000 in
theorem turn_neg (s : ByteArray) (j : Int) (hj : j < 0) (w : World) :
    Calls Try.prog 26 #[.string s, .int .i64 j] w fun e w' => e = .returned (.string s) ∧ Below w.heap.size w w' := by
  have h1 : decide (j < 0) = true := decide_eq_true hj
  go_enter Try.func26, Try.ntmps26
  go_wp2
  go_ret
  exact ⟨rfl, Below.refl _ _⟩
set_option maxRecDepth 100000 in
set_option maxHeartbeats 1000000 in
theorem turn_past (s : ByteArray) (j : Int) (hs : s.size < 1000000) (h0 : 0 ≤ j) (hj : 8 * (s.size : Int) ≤ j) (w : World) :
    Calls Try.prog 26 #[.string s, .int .i64 j] w fun e w' => e = .returned (.string s) ∧ Below w.heap.size w w' := by
  have h1 : decide (j < 0) = false := decide_eq_false (by omega)
  have h2 : decide (8 * (s.size : Int) ≤ j) = true := decide_eq_true hj
  go_enter Try.func26, Try.ntmps26
  go_wp2
  go_ret
  exact ⟨rfl, Below.refl _ _⟩

def tattleref01_Turn.f (a0 : ByteArray) (a1 : Int) : Option (ByteArray) := if a0.size < 1000000 then (if a1 < 0 then some a0 else if 8 * (a0.size : Int) ≤ a1 then some a0 else some (turned a0 a1.toNat)) else none
theorem tattleref01_Turn.calls (a0 : ByteArray) (a1 : Int) (r : ByteArray) (w : World) (h : tattleref01_Turn.f a0 a1 = some r) :
    Calls Try.prog 26 #[.string a0, .int .i64 a1] w fun e w' => e = .returned (.string r) ∧ Below w.heap.size w w' := by
  unfold tattleref01_Turn.f at h
  by_cases hs : a0.size < 1000000
  · rw [if_pos hs] at h
    by_cases h1 : a1 < 0
    · rw [if_pos h1] at h
      obtain rfl := Option.some.inj h
      exact turn_neg a0 a1 h1 w
    · rw [if_neg h1] at h
      by_cases h2 : 8 * (a0.size : Int) ≤ a1
      · rw [if_pos h2] at h
        obtain rfl := Option.some.inj h
        exact turn_past a0 a1 hs (by omega) h2 w
      · rw [if_neg h2] at h
        obtain rfl := Option.some.inj h
        obtain ⟨j, rfl⟩ := Int.eq_ofNat_of_zero_le (show 0 ≤ a1 by omega)
        rw [Int.toNat_natCast]
        exact turn_calls a0 j hs (by omega) w
  · rw [if_neg hs] at h
    exact absurd h (by simp)

/-! ### tattlelaw01_WireTurns: function 9 -/
mutual
def tattlelaw01_WireTurns.j0 : Nat → Int → Int → ByteArray → Bool → Option (Bool)
  | 0, _, _, _, _ => none
  | k + 1, x1, x2, x7, x46 => if x46 = true then (none) else (if (wrap64 (8 * (x7.size : Int))) = 0 then (none) else (tattlelaw01_WireTurns.l0 k x2 x7 (Int.tmod (wrap64 (x1)) (wrap64 (8 * (x7.size : Int)))) x7 0))
def tattlelaw01_WireTurns.l0 : Nat → Int → ByteArray → Int → ByteArray → Int → Option (Bool)
  | 0, _, _, _, _, _ => none
  | k + 1, x2, x7, x11, x12, x13 => if x13 < 32 then (if 0 ≤ x13 then (if (Go.bits .and .u32 (shr .u32 x2 x13) 1) = 1 then ((tattleref01_Turn.f x12 (wrap64 (x11 + x13))).bind fun t128 => (tattlelaw01_WireTurns.l0 k x2 x7 x11 t128 (wrap64 (x13 + 1)))) else (tattlelaw01_WireTurns.l0 k x2 x7 x11 x12 (wrap64 (x13 + 1)))) else (none)) else ((wire_Open.f x12).bind fun bt129 => (if ((bt129.2 == 0) == (x12.toList == x7.toList)) = true then ((tattlelaw01_awake.f k).bind fun t131 => (some t131)) else (none)))
end
def tattlelaw01_WireTurns.f (k : Nat) (a0 : ByteArray) (a1 : Int) (a2 : Int) : Option (Bool) := (tattlelaw01_Few.f a0).bind fun t123 => ((wire_Seal.f t123).bind fun bt124 => ((wire_Open.f bt124.1).bind fun bt126 => (if bt124.2 = 0 then (if bt126.2 = 0 then (if bt126.1.toList = t123.toList then (tattlelaw01_WireTurns.j0 k a1 a2 bt124.1 ((bt124.1.size : Int) != (wrap64 ((t123.size : Int) + 4)))) else (tattlelaw01_WireTurns.j0 k a1 a2 bt124.1 true)) else (tattlelaw01_WireTurns.j0 k a1 a2 bt124.1 true)) else (tattlelaw01_WireTurns.j0 k a1 a2 bt124.1 true))))
theorem tattlelaw01_WireTurns.mono_l : ∀ k, (∀ y0 y1 y2 y3, LeO (tattlelaw01_WireTurns.j0 k y0 y1 y2 y3) (tattlelaw01_WireTurns.j0 (k + 1) y0 y1 y2 y3)) ∧ (∀ y0 y1 y2 y3 y4, LeO (tattlelaw01_WireTurns.l0 k y0 y1 y2 y3 y4) (tattlelaw01_WireTurns.l0 (k + 1) y0 y1 y2 y3 y4))
  | 0 => ⟨fun _ _ _ _ r h => by simp [tattlelaw01_WireTurns.j0] at h, fun _ _ _ _ _ r h => by simp [tattlelaw01_WireTurns.l0] at h⟩
  | k + 1 => by
    obtain ⟨ih0, ih1⟩ := tattlelaw01_WireTurns.mono_l k
    refine ⟨?_, ?_⟩
    · intro y0 y1 y2 y3
      unfold tattlelaw01_WireTurns.j0
      repeat' first
      | (with_reducible exact ih0 _ _ _ _)
      | (with_reducible exact ih1 _ _ _ _ _)
      | (with_reducible exact tattlelaw01_awake.mono _)
      | (with_reducible exact LeO.refl _)
      | (with_reducible exact LeO.none _)
      | (with_reducible refine LeO.ite ?_ ?_)
      | (with_reducible refine LeO.bind ?_ (fun _ => ?_))
      | exact ih0 _ _ _ _
      | exact ih1 _ _ _ _ _
      | exact tattlelaw01_awake.mono _
      | exact LeO.none _
      | refine LeO.ite ?_ ?_
      | refine LeO.bind ?_ (fun _ => ?_)
    · intro y0 y1 y2 y3 y4
      unfold tattlelaw01_WireTurns.l0
      repeat' first
      | (with_reducible exact ih0 _ _ _ _)
      | (with_reducible exact ih1 _ _ _ _ _)
      | (with_reducible exact tattlelaw01_awake.mono _)
      | (with_reducible exact LeO.refl _)
      | (with_reducible exact LeO.none _)
      | (with_reducible refine LeO.ite ?_ ?_)
      | (with_reducible refine LeO.bind ?_ (fun _ => ?_))
      | exact ih0 _ _ _ _
      | exact ih1 _ _ _ _ _
      | exact tattlelaw01_awake.mono _
      | exact LeO.none _
      | refine LeO.ite ?_ ?_
      | refine LeO.bind ?_ (fun _ => ?_)
theorem tattlelaw01_WireTurns.mono : ∀ a0 a1 a2 k, LeO (tattlelaw01_WireTurns.f k a0 a1 a2) (tattlelaw01_WireTurns.f (k + 1) a0 a1 a2) := by
  intro a0 a1 a2 k
  obtain ⟨ih0, ih1⟩ := tattlelaw01_WireTurns.mono_l k
  unfold tattlelaw01_WireTurns.f
  repeat' first
      | (with_reducible exact ih0 _ _ _ _)
      | (with_reducible exact ih1 _ _ _ _ _)
      | (with_reducible exact tattlelaw01_awake.mono _)
      | (with_reducible exact LeO.refl _)
      | (with_reducible exact LeO.none _)
      | (with_reducible refine LeO.ite ?_ ?_)
      | (with_reducible refine LeO.bind ?_ (fun _ => ?_))
      | exact ih0 _ _ _ _
      | exact ih1 _ _ _ _ _
      | exact tattlelaw01_awake.mono _
      | exact LeO.none _
      | refine LeO.ite ?_ ?_
      | refine LeO.bind ?_ (fun _ => ?_)
set_option maxHeartbeats 8000000 in
set_option maxRecDepth 100000 in
theorem tattlelaw01_WireTurns.calls (k : Nat) (a0 : ByteArray) (a1 : Int) (a2 : Int) (r : Bool) (w : World) (h : tattlelaw01_WireTurns.f k a0 a1 a2 = some r) :
    Calls Try.prog 9 #[.string a0, .int .u16 a1, .int .u32 a2] w fun e w' => e = .returned (.bool r) ∧ Below w.heap.size w w' := by
  have HB := Aside0.mk (Below.refl w.heap.size w)
  have H : ((tattlelaw01_Few.f a0).bind fun t123 => ((wire_Seal.f t123).bind fun bt124 => ((wire_Open.f bt124.1).bind fun bt126 => (if bt124.2 = 0 then (if bt126.2 = 0 then (if bt126.1.toList = t123.toList then (tattlelaw01_WireTurns.j0 k a1 a2 bt124.1 ((bt124.1.size : Int) != (wrap64 ((t123.size : Int) + 4)))) else (tattlelaw01_WireTurns.j0 k a1 a2 bt124.1 true)) else (tattlelaw01_WireTurns.j0 k a1 a2 bt124.1 true)) else (tattlelaw01_WireTurns.j0 k a1 a2 bt124.1 true))))) = some r := h
  clear h
  replace H := Option.bind_eq_some_iff.mp H
  obtain ⟨t123, A40, H⟩ := H
  replace H : ((wire_Seal.f t123).bind fun bt124 => ((wire_Open.f bt124.1).bind fun bt126 => (if bt124.2 = 0 then (if bt126.2 = 0 then (if bt126.1.toList = t123.toList then (tattlelaw01_WireTurns.j0 k a1 a2 bt124.1 ((bt124.1.size : Int) != (wrap64 ((t123.size : Int) + 4)))) else (tattlelaw01_WireTurns.j0 k a1 a2 bt124.1 true)) else (tattlelaw01_WireTurns.j0 k a1 a2 bt124.1 true)) else (tattlelaw01_WireTurns.j0 k a1 a2 bt124.1 true)))) = some r := H
  have A4 := Aside0.mk A40
  clear A40
  replace H := Option.bind_eq_some_iff.mp H
  obtain ⟨⟨t124, t125⟩, A50, H⟩ := H
  replace H : ((wire_Open.f t124).bind fun bt126 => (if t125 = 0 then (if bt126.2 = 0 then (if bt126.1.toList = t123.toList then (tattlelaw01_WireTurns.j0 k a1 a2 t124 ((t124.size : Int) != (wrap64 ((t123.size : Int) + 4)))) else (tattlelaw01_WireTurns.j0 k a1 a2 t124 true)) else (tattlelaw01_WireTurns.j0 k a1 a2 t124 true)) else (tattlelaw01_WireTurns.j0 k a1 a2 t124 true))) = some r := H
  have A5 := Aside0.mk A50
  clear A50
  replace H := Option.bind_eq_some_iff.mp H
  obtain ⟨⟨t126, t127⟩, A60, H⟩ := H
  replace H : (if t125 = 0 then (if t127 = 0 then (if t126.toList = t123.toList then (tattlelaw01_WireTurns.j0 k a1 a2 t124 ((t124.size : Int) != (wrap64 ((t123.size : Int) + 4)))) else (tattlelaw01_WireTurns.j0 k a1 a2 t124 true)) else (tattlelaw01_WireTurns.j0 k a1 a2 t124 true)) else (tattlelaw01_WireTurns.j0 k a1 a2 t124 true)) = some r := H
  have A6 := Aside0.mk A60
  clear A60
  have HC7 := Aside0.mk H
  clear H
  go_enter Try.func9, Try.ntmps9
  go_upto_region 4 with (first | ((with_reducible refine gate_callee (f := 10) rfl ?_); refine goesL_ (some 17) rfl rfl Try.func10 (by kernel_rfl) rfl #[.string a0] rfl (by (try simp only [List.map_toArray, List.map_cons, List.map_nil]); first | done | rfl | (simp only [List.length_drop, List.length_take]; rfl)) ?_; (with_reducible refine (tattlelaw01_Few.calls a0 t123 _ A4.out).mono ?_); rintro e w' ⟨rfl, ⟨nd, rfl⟩⟩; refine ⟨_, rfl, ?_⟩) | ((with_reducible refine gate_callee (f := 21) rfl ?_); refine goesL_ (some 20) rfl rfl Try.func21 (by kernel_rfl) rfl #[.string t123] rfl (by (try simp only [List.map_toArray, List.map_cons, List.map_nil]); first | done | rfl | (simp only [List.length_drop, List.length_take]; rfl)) ?_; (with_reducible refine (wire_Seal.calls t123 t124 t125 _ A5.out).mono ?_); rintro e w8 ⟨rfl, hb⟩; refine ⟨_, rfl, ?_⟩; have n0_ := Aside0.mk (below_step (by repeat (first | (with_reducible first | exact HB.out | apply below_alloc | apply pw_below_drewN | apply below_drew1) | exact HB.out)) hb); clear HB; have HB := n0_; clear n0_; (try clear hb); (try clear hb2); (try clear hk); (try clear hi)) | ((with_reducible refine gate_callee (f := 22) rfl ?_); refine goesL_ (some 25) rfl rfl Try.func22 (by kernel_rfl) rfl #[.string t124] rfl (by (try simp only [List.map_toArray, List.map_cons, List.map_nil]); first | done | rfl | (simp only [List.length_drop, List.length_take]; rfl)) ?_; (with_reducible refine (wire_Open.calls t124 t126 t127 _ A6.out).mono ?_); rintro e w9 ⟨rfl, hb⟩; refine ⟨_, rfl, ?_⟩; have n0_ := Aside0.mk (below_step (by repeat (first | (with_reducible first | exact HB.out | apply below_alloc | apply pw_below_drewN | apply below_drew1) | exact HB.out)) hb); clear HB; have HB := n0_; clear n0_; (try clear hb); (try clear hb2); (try clear hk); (try clear hi)))
  (try simp only [Act.put, List.setIfInBounds_toArray, List.set_cons_zero, List.set_cons_succ])
  go_cut [46] (fun v46 wc => ∃ (kq : Nat) (x46_6 : Bool), v46 = .bool x46_6 ∧ Aside0 (tattlelaw01_WireTurns.j0 kq a1 a2 t124 x46_6 = some r) ∧ Aside0 (kq ≤ k) ∧ Aside0 (Below w.heap.size w wc))
  case first =>
    have H := HC7.out
    clear HC7
    by_cases c10 : t125 = 0
    · rw [if_pos c10] at H
      have c10b0 : (t125 == 0) = true := beq_iff_eq.mpr c10
      have c10b1 : (t125 != 0) = false := bne_eq_false_iff_eq.mpr c10
      clear c10
      (first | rw [c10b0] | (simp only [i64_w, i32_w]; rw [c10b0]) | skip)
      by_cases c11 : t127 = 0
      · rw [if_pos c11] at H
        have c11b0 : (t127 == 0) = true := beq_iff_eq.mpr c11
        have c11b1 : (t127 != 0) = false := bne_eq_false_iff_eq.mpr c11
        clear c11
        by_cases c12 : t126.toList = t123.toList
        · rw [if_pos c12] at H
          have c12b0 : (t126.toList == t123.toList) = true := beq_iff_eq.mpr c12
          have c12b1 : (t126.toList != t123.toList) = false := bne_eq_false_iff_eq.mpr c12
          clear c12
          have H' := Aside0.mk H
          clear H
          go_wp2
          go_meet
          case rel => exact ⟨_, (((t124.size : Int) != (wrap64 ((t123.size : Int) + 4)))), (by first | rfl | (simp; done) | (simp [*]; done)), H', ⟨by first | omega | exact Nat.le_refl _⟩, ⟨by repeat (first | (with_reducible first | exact HB.out | apply below_alloc | apply pw_below_drewN | apply below_drew1) | exact HB.out)⟩⟩
        · rw [if_neg c12] at H
          have c12b0 : (t126.toList == t123.toList) = false := beq_eq_false_iff_ne.mpr c12
          have c12b1 : (t126.toList != t123.toList) = true := bne_iff_ne.mpr c12
          have H' := Aside0.mk H
          clear H
          go_wp2
          go_meet
          case rel => exact ⟨_, (true), (by first | rfl | (simp; done) | (simp [*]; done)), H', ⟨by first | omega | exact Nat.le_refl _⟩, ⟨by repeat (first | (with_reducible first | exact HB.out | apply below_alloc | apply pw_below_drewN | apply below_drew1) | exact HB.out)⟩⟩
      · rw [if_neg c11] at H
        have c11b0 : (t127 == 0) = false := beq_eq_false_iff_ne.mpr c11
        have c11b1 : (t127 != 0) = true := bne_iff_ne.mpr c11
        have H' := Aside0.mk H
        clear H
        go_wp2
        go_meet
        case rel => exact ⟨_, (true), (by first | rfl | (simp; done) | (simp [*]; done)), H', ⟨by first | omega | exact Nat.le_refl _⟩, ⟨by repeat (first | (with_reducible first | exact HB.out | apply below_alloc | apply pw_below_drewN | apply below_drew1) | exact HB.out)⟩⟩
    · rw [if_neg c10] at H
      have c10b0 : (t125 == 0) = false := beq_eq_false_iff_ne.mpr c10
      have c10b1 : (t125 != 0) = true := bne_iff_ne.mpr c10
      (first | rw [c10b0] | (simp only [i64_w, i32_w]; rw [c10b0]) | skip)
      have H' := Aside0.mk H
      clear H
      go_wp2
      go_meet
      case rel => exact ⟨_, (true), (by first | rfl | (simp; done) | (simp [*]; done)), H', ⟨by first | omega | exact Nat.le_refl _⟩, ⟨by repeat (first | (with_reducible first | exact HB.out | apply below_alloc | apply pw_below_drewN | apply below_drew1) | exact HB.out)⟩⟩
  case rest =>
    clear HC7
    try clear c1
    try clear c2
    try clear p2
    try clear p6
    try clear c9
    try clear c10
    try clear c10b0
    try clear c10b1
    try clear c11
    try clear c11b0
    try clear c11b1
    try clear c12
    try clear c12b0
    try clear c12b1
    obtain ⟨kq, x46_6, rfl, HA, HJ6, HB⟩ := hcut
    cases kq with
    | zero => exact absurd HA.out (by simp [tattlelaw01_WireTurns.j0])
    | succ kj6 =>
      have H := HA.out
      clear HA
      simp only [tattlelaw01_WireTurns.j0] at H
      by_cases c13 : x46_6 = true
      · subst c13
        have H1 : (none) = some r := by rw [if_pos rfl] at H; exact H
        clear H
        have H := H1
        clear H1
        exact absurd H (by simp)
      · replace c13 := Bool.eq_false_iff.mpr c13
        subst c13
        have H1 : (if (wrap64 (8 * (t124.size : Int))) = 0 then (none) else (tattlelaw01_WireTurns.l0 kj6 a2 t124 (Int.tmod (wrap64 (a1)) (wrap64 (8 * (t124.size : Int)))) t124 0)) = some r := by rw [if_neg (show ¬ (false = true) by decide)] at H; exact H
        clear H
        have H := H1
        clear H1
        by_cases c14 : (wrap64 (8 * (t124.size : Int))) = 0
        · rw [if_pos c14] at H
          exact absurd H (by simp)
        · rw [if_neg c14] at H
          have c14b0 : ((wrap64 (8 * (t124.size : Int))) == 0) = false := beq_eq_false_iff_ne.mpr c14
          have c14b1 : ((wrap64 (8 * (t124.size : Int))) != 0) = true := bne_iff_ne.mpr c14
          have H' := Aside0.mk H
          clear H
          go_wp2
          go_loopg [12, 13] kj6 (fun kq v12 v13 w' => ∃ (x12_2 : ByteArray) (x13_2 : Int), v12 = .string x12_2 ∧ v13 = .int .i64 x13_2 ∧ Aside0 (tattlelaw01_WireTurns.l0 kq a2 t124 (Int.tmod (wrap64 (a1)) (wrap64 (8 * (t124.size : Int)))) x12_2 x13_2 = some r) ∧ Aside0 (kq ≤ kj6) ∧ Aside0 (Below w.heap.size w w'))
          case atStart => exact ⟨(t124), (0), (by first | rfl | (simp; done) | (simp [*]; done)), (by first | rfl | (simp; done) | (simp [*]; done)), H', ⟨Nat.le_refl _⟩, ⟨by repeat (first | (with_reducible first | exact HB.out | apply below_alloc | apply pw_below_drewN | apply below_drew1) | exact HB.out)⟩⟩
          case round =>
            clear H'
            try clear c1
            try clear c2
            try clear p2
            try clear p6
            try clear c9
            try clear c10
            try clear c10b0
            try clear c10b1
            try clear c11
            try clear c11b0
            try clear c11b1
            try clear c12
            try clear c12b0
            try clear c12b1
            try clear c13
            try clear c14
            try clear c14b0
            try clear c14b1
            try clear p2
            try clear p6
            obtain ⟨x12_2, x13_2, rfl, rfl, HA, HK2, HB⟩ := hrel
            cases gk with
            | zero => exact absurd HA.out (by simp [tattlelaw01_WireTurns.l0])
            | succ k2 =>
              have H := HA.out
              clear HA
              simp only [tattlelaw01_WireTurns.l0] at H
              by_cases c15 : x13_2 < 32
              · rw [if_pos c15] at H
                have c15b0 : decide (x13_2 < 32) = true := decide_eq_true c15
                clear c15
                by_cases c16 : 0 ≤ x13_2
                · rw [if_pos c16] at H
                  have c16b0 := eq_true c16
                  have c16b1 : decide (0 ≤ x13_2) = true := decide_eq_true c16
                  clear c16
                  obtain ⟨ji17, hji17⟩ : ∃ j_ : Int, (shr .u32 a2 x13_2) = j_ := ⟨_, rfl⟩
                  replace H : (if (Go.bits .and .u32 (ji17) 1) = 1 then ((tattleref01_Turn.f x12_2 (wrap64 ((Int.tmod (wrap64 (a1)) (wrap64 (8 * (t124.size : Int)))) + x13_2))).bind fun t128 => (tattlelaw01_WireTurns.l0 k2 a2 t124 (Int.tmod (wrap64 (a1)) (wrap64 (8 * (t124.size : Int)))) t128 (wrap64 (x13_2 + 1)))) else (tattlelaw01_WireTurns.l0 k2 a2 t124 (Int.tmod (wrap64 (a1)) (wrap64 (8 * (t124.size : Int)))) x12_2 (wrap64 (x13_2 + 1)))) = some r := by first | (rw [hji17] at H; exact H) | (simp only [hji17] at H ⊢; exact H)
                  have hji17_ : (a2 / 2 ^ min x13_2.toNat 32) = ji17 := hji17
                  have hji17z : x13_2 ≤ 32 → (a2 / 2 ^ x13_2.toNat) = ji17 := shr_small hji17
                  by_cases c18 : (Go.bits .and .u32 (ji17) 1) = 1
                  · rw [if_pos c18] at H
                    have c18b0 : ((Go.bits .and .u32 (ji17) 1) == 1) = true := beq_iff_eq.mpr c18
                    have c18b1 : ((Go.bits .and .u32 (ji17) 1) != 1) = false := bne_eq_false_iff_eq.mpr c18
                    clear c18
                    replace H := Option.bind_eq_some_iff.mp H
                    obtain ⟨t128, A190, H⟩ := H
                    replace H : (tattlelaw01_WireTurns.l0 k2 a2 t124 (Int.tmod (wrap64 (a1)) (wrap64 (8 * (t124.size : Int)))) t128 (wrap64 (x13_2 + 1))) = some r := H
                    have A19 := Aside0.mk A190
                    clear A190
                    have H' := Aside0.mk H
                    clear H
                    go_wp2_with (first | ((with_reducible refine gate_callee (f := 26) rfl ?_); refine goesL_ (some 67) rfl rfl Try.func26 (by kernel_rfl) rfl #[.string x12_2, .int .i64 (wrap64 ((Int.tmod (wrap64 (a1)) (wrap64 (8 * (t124.size : Int)))) + x13_2))] rfl (by (try simp only [List.map_toArray, List.map_cons, List.map_nil]); first | done | rfl | (simp only [List.length_drop, List.length_take]; rfl)) ?_; (with_reducible refine (tattleref01_Turn.calls x12_2 (wrap64 ((Int.tmod (wrap64 (a1)) (wrap64 (8 * (t124.size : Int)))) + x13_2)) t128 _ A19.out).mono ?_); rintro e w20 ⟨rfl, hb⟩; refine ⟨_, rfl, ?_⟩; have n0_ := Aside0.mk (below_step (by repeat (first | (with_reducible first | exact HB.out | apply below_alloc | apply pw_below_drewN | apply below_drew1) | exact HB.out)) hb); clear HB; have HB := n0_; clear n0_; (try clear hb); (try clear hb2); (try clear hk); (try clear hi)))
                    go_roundg k2
                    case measure => have := HJ6.out; have := HK2.out; omega
                    case rel => exact ⟨(t128), (wrap64 (x13_2 + 1)), (by first | rfl | (simp; done) | (simp [*]; done)), (by first | rfl | (simp; done) | (simp [*]; done)), H', ⟨by have := HJ6.out; have := HK2.out; omega⟩, ⟨by repeat (first | (with_reducible first | exact HB.out | apply below_alloc | apply pw_below_drewN | apply below_drew1) | exact HB.out)⟩⟩
                  · rw [if_neg c18] at H
                    have c18b0 : ((Go.bits .and .u32 (ji17) 1) == 1) = false := beq_eq_false_iff_ne.mpr c18
                    have c18b1 : ((Go.bits .and .u32 (ji17) 1) != 1) = true := bne_iff_ne.mpr c18
                    have H' := Aside0.mk H
                    clear H
                    go_wp2
                    go_roundg k2
                    case measure => have := HJ6.out; have := HK2.out; omega
                    case rel => exact ⟨(x12_2), (wrap64 (x13_2 + 1)), (by first | rfl | (simp; done) | (simp [*]; done)), (by first | rfl | (simp; done) | (simp [*]; done)), H', ⟨by have := HJ6.out; have := HK2.out; omega⟩, ⟨by repeat (first | (with_reducible first | exact HB.out | apply below_alloc | apply pw_below_drewN | apply below_drew1) | exact HB.out)⟩⟩
                · rw [if_neg c16] at H
                  exact absurd H (by simp)
              · rw [if_neg c15] at H
                have c15b0 : decide (x13_2 < 32) = false := decide_eq_false c15
                clear c15
                replace H := Option.bind_eq_some_iff.mp H
                obtain ⟨⟨t129, t130⟩, A210, H⟩ := H
                replace H : (if ((t130 == 0) == (x12_2.toList == t124.toList)) = true then ((tattlelaw01_awake.f k2).bind fun t131 => (some t131)) else (none)) = some r := H
                have A21 := Aside0.mk A210
                clear A210
                by_cases c22 : ((t130 == 0) == (x12_2.toList == t124.toList)) = true
                · rw [if_pos c22] at H
                  have c22b0 : ((t130 == 0) == (x12_2.toList == t124.toList)) = true := c22
                  (try (have c22b1 : decide ((t130 == 0) = (x12_2.toList == t124.toList)) = true := by simpa using c22))
                  (try (have c22b2 : ((t130 == 0) == (x12_2.toList == t124.toList)) = true := by simpa using c22))
                  clear c22
                  replace H := Option.bind_eq_some_iff.mp H
                  obtain ⟨t131, A230, H⟩ := H
                  replace H : (some t131) = some r := H
                  have A23 := Aside0.mk A230
                  clear A230
                  obtain rfl := Option.some.inj H
                  go_wp2_with (first | ((with_reducible refine gate_callee (f := 22) rfl ?_); refine goesL_ (some 70) rfl rfl Try.func22 (by kernel_rfl) rfl #[.string x12_2] rfl (by (try simp only [List.map_toArray, List.map_cons, List.map_nil]); first | done | rfl | (simp only [List.length_drop, List.length_take]; rfl)) ?_; (with_reducible refine (wire_Open.calls x12_2 t129 t130 _ A21.out).mono ?_); rintro e w24 ⟨rfl, hb⟩; refine ⟨_, rfl, ?_⟩; have n0_ := Aside0.mk (below_step (by repeat (first | (with_reducible first | exact HB.out | apply below_alloc | apply pw_below_drewN | apply below_drew1) | exact HB.out)) hb); clear HB; have HB := n0_; clear n0_; (try clear hb); (try clear hb2); (try clear hk); (try clear hi)) | (go_at_call 15; (with_reducible refine (tattlelaw01_awake.calls k2  t131 _ A23.out).mono ?_); rintro e w25 ⟨rfl, hb⟩; have n0_ := Aside0.mk (below_step (by repeat (first | (with_reducible first | exact HB.out | apply below_alloc | apply pw_below_drewN | apply below_drew1) | exact HB.out)) hb); clear HB; have HB := n0_; clear n0_; (try clear hb); (try clear hb2); (try clear hk); (try clear hi)))
                  go_ret
                  exact ⟨by first | rfl | (simp [errW_none, errW_some] <;> rfl) | (simp [*, errW_none, errW_some] <;> rfl), by repeat (first | (with_reducible first | exact HB.out | apply below_alloc | apply pw_below_drewN | apply below_drew1) | exact HB.out)⟩
                · rw [if_neg c22] at H
                  exact absurd H (by simp)

/-- THE ONE PURE STATEMENT of tattlelaw01_WireTurns: yours. -/
def tattlelaw01_WireTurns.Pure : Prop := ∀ (a0 : ByteArray) (a1 : Int) (a2 : Int), a0.size ≤ 140737488351232 → (Lit.int .u16 a1).wf = true → (Lit.int .u32 a2).wf = true → ∃ k, tattlelaw01_WireTurns.f k a0 a1 a2 = some true
theorem tattlelaw01_WireTurns.walk (P : tattlelaw01_WireTurns.Pure) (a0 : ByteArray) (a1 : Int) (a2 : Int) (w : World) (w0 : a0.size ≤ 140737488351232) (w1 : (Lit.int .u16 a1).wf = true) (w2 : (Lit.int .u32 a2).wf = true) :
    Calls Try.prog 9 #[.string a0, .int .u16 a1, .int .u32 a2] w fun e w' => e = .returned (.bool true) ∧ Below w.heap.size w w' := by
  obtain ⟨k, h⟩ := P a0 a1 a2 w0 w1 w2
  refine (tattlelaw01_WireTurns.calls k a0 a1 a2 true w h).mono ?_
  rintro e w' ⟨rfl, hd⟩
  exact ⟨rfl, hd⟩

end Go.Proofs.Ytmehdghhnmnmiaa.PWireTurns
