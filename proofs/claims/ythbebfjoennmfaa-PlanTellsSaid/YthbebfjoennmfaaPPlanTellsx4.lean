-- Written by a program of this session (see NOTES.md) out of the print of Lean's own loaded functions; Lean checks it.
import Derived.Test.YthbebfjoennmfaaPPlanTellsx0
namespace Go.Proofs.Ythbebfjoennmfaa.PPlanTells
open Go.RowKit Go.Proofs.YthbebfjoennmfaaW.PrintWords Go.Proofs.YthbebfjoennmfaaW.PrintLast Go.Proofs.YthbebfjoennmfaaW.PrintMore
attribute [local go_sem] max2_int min2_int max_two min_two max_three min_three max_four min_four   -- for this text's walks alone
set_option linter.unusedVariables false
set_option linter.unusedSimpArgs false

/-! ### plan_both: function 23 -/
attribute [local go_sem] Oper.semAt_some
/-! what both yields -/
def bothL : Nat → List S52 → List S52 → List S36
  | 0, _, _ => []
  | _ + 1, [], [] => []
  | k + 1, a :: xs, [] => ⟨a.f0, a.f1, -1⟩ :: bothL k xs []
  | k + 1, [], b :: ys => ⟨b.f0, -1, b.f1⟩ :: bothL k [] ys
  | k + 1, a :: xs, b :: ys =>
    if Op.bytesLess b.f0.toList a.f0.toList = true then ⟨b.f0, -1, b.f1⟩ :: bothL k (a :: xs) ys
    else if a.f0.toList = b.f0.toList then ⟨a.f0, a.f1, b.f1⟩ :: bothL k xs ys
    else ⟨a.f0, a.f1, -1⟩ :: bothL k xs (b :: ys)
theorem bytesLess_irrefl : ∀ l : List UInt8, Op.bytesLess l l = false := by
  intro l
  induction l with
  | nil => rfl
  | cons x l ih => simp [Op.bytesLess, ih]
theorem bytesLess_asymm : ∀ x y : List UInt8, Op.bytesLess x y = true → Op.bytesLess y x = false
  | _, [] => by simp [Op.bytesLess]
  | [], _ :: _ => by simp [Op.bytesLess]
  | a :: x, b :: y => by
    have ih := bytesLess_asymm x y
    simp only [Op.bytesLess, Bool.or_eq_true, Bool.and_eq_true, decide_eq_true_eq, beq_iff_eq, Bool.or_eq_false_iff, decide_eq_false_iff_not, Bool.and_eq_false_imp]
    rintro (h | ⟨rfl, h⟩)
    · refine ⟨fun h2 => ?_, fun h2 => ?_⟩
      · rw [UInt8.lt_iff_toNat_lt] at h h2; omega
      · subst h2; exact absurd h (by rw [UInt8.lt_iff_toNat_lt]; omega)
    · exact ⟨by rw [UInt8.lt_iff_toNat_lt]; omega, fun _ => ih h⟩
theorem bytesLess_total : ∀ x y : List UInt8, x ≠ y → Op.bytesLess y x = false → Op.bytesLess x y = true
  | [], [] => fun h => absurd rfl h
  | [], _ :: _ => by simp [Op.bytesLess]
  | _ :: _, [] => by simp [Op.bytesLess]
  | a :: x, b :: y => by
    have ih := bytesLess_total x y
    simp only [Op.bytesLess, Bool.or_eq_true, Bool.and_eq_true, decide_eq_true_eq, beq_iff_eq, Bool.or_eq_false_iff, decide_eq_false_iff_not, Bool.and_eq_false_imp]
    rintro hne ⟨h1, h2⟩
    by_cases e : a = b
    · subst e
      exact .inr ⟨rfl, ih (fun h => hne (by rw [h])) (h2 rfl)⟩
    · left
      rw [UInt8.lt_iff_toNat_lt] at h1 ⊢
      have : a.toNat ≠ b.toNat := fun h => e (UInt8.toNat_inj.1 h)
      omega
theorem bytesLess_trans : ∀ x y z : List UInt8, Op.bytesLess x y = true → Op.bytesLess y z = true → Op.bytesLess x z = true
  | _, [], _ => by simp [Op.bytesLess]
  | _, _ :: _, [] => by simp [Op.bytesLess]
  | [], _ :: _, _ :: _ => by simp [Op.bytesLess]
  | a :: x, b :: y, c :: z => by
    have ih := bytesLess_trans x y z
    simp only [Op.bytesLess, Bool.or_eq_true, Bool.and_eq_true, decide_eq_true_eq, beq_iff_eq]
    rintro (h | ⟨rfl, h⟩) (h' | ⟨rfl, h'⟩)
    · left; rw [UInt8.lt_iff_toNat_lt] at *; omega
    · left; exact h
    · left; exact h'
    · right; exact ⟨rfl, ih h h'⟩
/-- The world is as it was but for the two boxes and what is new. -/
structure Stp (A B : Nat) (W W' : World) : Prop where
  os : W'.os = W.os
  tape : W'.tape = W.tape
  output : W'.output = W.output
  kept : Kept W W' (fun k => k = A ∨ k = B)
theorem Stp.refl (A B : Nat) (W : World) : Stp A B W W := ⟨rfl, rfl, rfl, Kept.refl _ _⟩
theorem Stp.alloc {A B : Nat} {W W' : World} (h : Stp A B W W') (o : Obj) : Stp A B W (W'.alloc o) := ⟨h.os, h.tape, h.output, h.kept.alloc o⟩
theorem Stp.drewN {A B : Nat} {W W' : World} (h : Stp A B W W') (n : Nat) : Stp A B W (W'.drewN n) := ⟨h.os, h.tape, h.output, h.kept.drewN n⟩
theorem Stp.set_ {A B : Nat} {W W' : World} (h : Stp A B W W') {p : Addr} (hp : (p.block = A ∨ p.block = B) ∨ W.heap.size ≤ p.block) (u : Value) : Stp A B W (W'.setCell p u) := ⟨h.os, h.tape, h.output, h.kept.setCell hp u⟩
/-- The two boxes, and the rows that they lead to. -/
def BothSt (Ok : Nat → Prop) (A B : Nat) (W : World) (xs ys : List S52) : Prop :=
  ∃ (p q : Option Addr) (c d : Nat), W.heap[A]? = some (.cells #[.slice p xs.length c] 22 (0, 0)) ∧ W.heap[B]? = some (.cells #[.slice q ys.length d] 22 (0, 0)) ∧ xs.length ≤ c ∧ ys.length ≤ d ∧
    Kd.F k52 W Ok p xs.length xs ∧ Kd.F k52 W Ok q ys.length ys
def moveV (x : S36) : Value := .agg #[.string x.f0, .int .i64 x.f1, .int .i64 x.f2]
/-- In the midst of a round: what the two boxes hold, and the move's block. -/
structure Here (A B m : Nat) (wr w : World) (va vb : Value) (cs : Array Value) : Prop where
  st : Stp A B wr w
  bA : w.heap[A]? = some (.cells #[va] 22 (0, 0))
  bB : w.heap[B]? = some (.cells #[vb] 22 (0, 0))
  bM : w.heap[m]? = some (.cells cs 36 (0, 0))
  ab : A ≠ B
  am : A ≠ m
  bm : B ≠ m
  mge : wr.heap.size ≤ m
section
variable {A B m : Nat} {wr w : World} {va vb : Value} {cs : Array Value}
theorem Here.new {va vb : Value} (bA : wr.heap[A]? = some (.cells #[va] 22 (0, 0))) (bB : wr.heap[B]? = some (.cells #[vb] 22 (0, 0))) (ab : A ≠ B) (cs : Array Value) : Here A B wr.heap.size wr (wr.alloc (.cells cs 36)) va vb cs :=
  ⟨(Stp.refl _ _ _).alloc _, blk_alloc bA _, blk_alloc bB _, blk_new _ _, ab, by have := blk_lt bA; omega, by have := blk_lt bB; omega, Nat.le_refl _⟩
theorem Here.drewN (h : Here A B m wr w va vb cs) (n : Nat) : Here A B m wr (w.drewN n) va vb cs := ⟨h.st.drewN n, h.bA, h.bB, h.bM, h.ab, h.am, h.bm, h.mge⟩
theorem Here.setM (h : Here A B m wr w va vb cs) (i : Nat) (u : Value) {cs' : Array Value} (e : cs.setIfInBounds i u = cs') : Here A B m wr (w.setCell ⟨m, i, none⟩ u) va vb cs' :=
  ⟨h.st.set_ (.inr h.mge) u, blk_far h.bA h.am u, blk_far h.bB h.bm u, blk_put h.bM i u e, h.ab, h.am, h.bm, h.mge⟩
theorem Here.setA (h : Here A B m wr w va vb cs) (u : Value) : Here A B m wr (w.setCell ⟨A, 0, none⟩ u) u vb cs :=
  ⟨h.st.set_ (.inl (.inl rfl)) u, blk_put h.bA 0 u rfl, blk_far h.bB h.ab.symm u, blk_far h.bM h.am.symm u, h.ab, h.am, h.bm, h.mge⟩
theorem Here.setB (h : Here A B m wr w va vb cs) (u : Value) : Here A B m wr (w.setCell ⟨B, 0, none⟩ u) va u cs :=
  ⟨h.st.set_ (.inl (.inr rfl)) u, blk_far h.bA h.ab u, blk_put h.bB 0 u rfl, blk_far h.bM h.bm.symm u, h.ab, h.am, h.bm, h.mge⟩
theorem Here.boxes (h : Here A B m wr w va vb cs) : w.cell? ⟨A, 0, none⟩ = some va ∧ w.frozen? ⟨A, 0, none⟩ = false ∧ w.cell? ⟨B, 0, none⟩ = some vb ∧ w.frozen? ⟨B, 0, none⟩ = false :=
  ⟨(blk_cell h.bA 0).trans rfl, blk_frozen h.bA 0, (blk_cell h.bB 0).trans rfl, blk_frozen h.bB 0⟩
theorem Here.move {x y z : Value} (h : Here A B m wr w va vb #[x, y, z]) : w.cell? ⟨m, 0, none⟩ = some x ∧ w.cell? ⟨m, 1, none⟩ = some y ∧ w.cell? ⟨m, 2, none⟩ = some z ∧ w.frozen? ⟨m, 0, none⟩ = false ∧ w.frozen? ⟨m, 1, none⟩ = false ∧ w.frozen? ⟨m, 2, none⟩ = false :=
  ⟨(blk_cell h.bM 0).trans rfl, (blk_cell h.bM 1).trans rfl, (blk_cell h.bM 2).trans rfl, blk_frozen h.bM 0, blk_frozen h.bM 1, blk_frozen h.bM 2⟩
theorem put_head {Ok : Nat → Prop} {p : Option Addr} {a : S52} {xs : List S52} (hA : ¬ Ok A) (hB : ¬ Ok B) (hF : Kd.F k52 wr Ok p (a :: xs).length (a :: xs)) (h : Stp A B wr w) : ∃ ad, p = some ad ∧ w.cell? ad = some (.string a.f0) ∧ w.cell? ⟨ad.block, ad.off + 1, none⟩ = some (.int .i64 a.f1) := by
  have h2 := Kd.F_kept hF h.kept (fun k hk hn => by rcases hn with rfl | rfl <;> contradiction)
  obtain ⟨ad, e, h3, h4⟩ := at_T52 (Kd.F_now h2) 0 (by decide) (by simp)
  exact ⟨ad, e, h3, h4⟩
theorem put_tail {Ok : Nat → Prop} {p : Option Addr} {a : S52} {xs : List S52} {c : Nat} (hF : Kd.F k52 wr Ok p (a :: xs).length (a :: xs)) (hc : (a :: xs).length ≤ c) :
    ∃ p', (∀ W : World, (Instr.slice 22 (.slice p (xs.length + 1) c) (some (.int .i64 1)) none none).run Try.prog W = .ok (.slice p' xs.length (c - 1)) W) ∧ Kd.F k52 wr Ok p' xs.length xs := by
  obtain ⟨i0, hi, hzz⟩ := Option.map_eq_some_iff.1 info52
  simp only [Prod.mk.injEq] at hzz
  obtain ⟨hz0, hz1, hz2⟩ := hzz
  refine ⟨_, fun W => ?_, Kd.F_cut (m := 1) hF (by simp) hc⟩
  exact cut_from 22 52 .i64 Try.underlying22 hi 2 hz1 p (xs.length + 1) c 1 (by decide) (by omega) W
theorem BothSt.next {Ok : Nat → Prop} {p q : Option Addr} {c d : Nat} {xs ys : List S52} {W' : World} (h : Here A B m wr w (.slice p xs.length c) (.slice q ys.length d) cs) (hA : ¬ Ok A) (hB : ¬ Ok B)
    (fA : Kd.F k52 wr Ok p xs.length xs) (fB : Kd.F k52 wr Ok q ys.length ys) (hc : xs.length ≤ c) (hd : ys.length ≤ d) (hk : ∀ k, (Ok k ∨ k = A ∨ k = B) → k < w.heap.size → W'.heap[k]? = w.heap[k]?) : BothSt Ok A B W' xs ys := by
  have hn : ∀ k, Ok k → ¬ (k = A ∨ k = B) := fun k hk hn => by rcases hn with rfl | rfl <;> contradiction
  exact ⟨p, q, c, d, (hk A (.inr (.inl rfl)) (blk_lt h.bA)).trans h.bA, (hk B (.inr (.inr rfl)) (blk_lt h.bB)).trans h.bB, hc, hd,
    Kd.F_step (Kd.F_kept fA h.st.kept hn) (fun k ho hlt => hk k (.inl ho) hlt), Kd.F_step (Kd.F_kept fB h.st.kept hn) (fun k ho hlt => hk k (.inl ho) hlt)⟩
end
set_option maxRecDepth 100000 in
set_option maxHeartbeats 2000000 in
theorem both1_calls (l A B : Nat) (hAB : A ≠ B) (Ok : Nat → Prop) (hA : ¬ Ok A) (hB : ¬ Ok B) (J Jx : List S36 → World → Prop)
    (hJ : ∀ pre W W', J pre W → Stp A B W W' → J pre W')
    (k : Nat) (xs ys : List S52) (hk : xs.length + ys.length < k)
    (hY : ∀ pre x W1, J pre W1 → pre ++ [x] <+: bothL k xs ys → YieldAt Fence.wide 0 Try.prog l #[moveV x] W1 fun e W' =>
      (e = .returned (.bool true) ∧ J (pre ++ [x]) W' ∧ ∀ k, (Ok k ∨ k = A ∨ k = B) → k < W1.heap.size → W'.heap[k]? = W1.heap[k]?) ∨ (e = .returned (.bool false) ∧ Jx (pre ++ [x]) W'))
    (W : World) (hS : BothSt Ok A B W xs ys) (h0 : J [] W) :
    CallsIn Fence.wide 0 Try.prog 29 #[.func (.yield l) #[] #[], .pointer (some ⟨A, 0, none⟩), .pointer (some ⟨B, 0, none⟩)] W fun e W' => (∃ v, e = .returned v) ∧
      (J (bothL k xs ys) W' ∨ ∃ pre, pre <+: bothL k xs ys ∧ Jx pre W') := by
  refine callsIn_wide.2 ?_
  have HY := Aside0.mk hY
  have HJ := Aside0.mk hJ
  have HAB := Aside0.mk hAB
  have HnA := Aside0.mk hA
  have HnB := Aside0.mk hB
  clear hY hJ hAB hA hB
  go_enter Try.func29, Try.ntmps29
  go_wp2
  go_loopg [4] k (fun kq v4 w' => ∃ (pre : List S36) (x1 y1 : List S52), Aside0 (x1.length + y1.length < kq) ∧ Aside0 (bothL k xs ys = pre ++ bothL kq x1 y1) ∧ Aside0 (BothSt Ok A B w' x1 y1) ∧ Aside0 (J pre w'))
  case atStart => exact ⟨[], xs, ys, ⟨hk⟩, ⟨rfl⟩, ⟨hS⟩, ⟨h0⟩⟩
  case round =>
    clear hS h0 hk
    obtain ⟨pre, x1, y1, HK1, HL, ⟨hS⟩, HP⟩ := hrel
    obtain ⟨p, q, c, d, bA, bB, hc, hd, fA, fB⟩ := hS
    cases gk with
    | zero => exact absurd HK1.out (by omega)
    | succ k1 =>
    cases x1 with
    | nil =>
      cases y1 with
      | nil =>
        have cA : wr.cell? ⟨A, 0, none⟩ = some (.slice p 0 c) := (blk_cell bA 0).trans rfl
        have cB : wr.cell? ⟨B, 0, none⟩ = some (.slice q 0 d) := (blk_cell bB 0).trans rfl
        clear bA bB fA fB
        go_wp2
        go_end0
        exact ⟨⟨_, rfl⟩, .inl (by have := HP.out; rw [HL.out]; simpa [bothL] using this)⟩
      | cons b y1 =>
        have FA := Aside0.mk fA
        have FB := Aside0.mk fB
        have HC := Aside0.mk hc
        have HD := Aside0.mk hd
        have H2 := Aside0.mk (Here.new bA bB HAB.out #[.string ⟨#[]⟩, .int .i64 (-1), .int .i64 (-1)])
        have cA : wr.cell? ⟨A, 0, none⟩ = some (.slice p 0 c) := (blk_cell bA 0).trans rfl
        have cB : wr.cell? ⟨B, 0, none⟩ = some (.slice q (y1.length + 1) d) := (blk_cell bB 0).trans rfl
        clear bA bB fA fB hc hd
        have z0 : (((y1.length : Nat) : Int) + 1 == 0) = false := beq_eq_false_iff_ne.2 (by omega)
        obtain ⟨q', hcutB, fB'⟩ := put_tail FB.out HD.out
        have FB' := Aside0.mk fB'
        clear fB'
        obtain ⟨adb, rfl, _, _⟩ := put_head HnA.out HnB.out FB.out (Stp.refl A B wr)
        go_wp2
        clear cA cB
        generalize (wr.alloc (Obj.cells #[Value.string (⟨#[]⟩ : ByteArray), Value.int IntKind.i64 (-1), Value.int IntKind.i64 (-1)] 36)) = w2 at H2 ⊢
        generalize hm : wr.heap.size = m at H2 ⊢
        clear hm
        have H := H2
        clear H2
        obtain ⟨cA, gA, cB, gB⟩ := H.out.boxes
        obtain ⟨m0, m1, m2, f0, f1, f2⟩ := H.out.move
        obtain ⟨ad', e', b0, b1⟩ := put_head HnA.out HnB.out FB.out H.out.st
        cases e'
        go_quiet (fail)
        go_wp2
        clear cA gA cB gB m0 m1 m2 f0 f1 f2 b0 b1
        have H' := Aside0.mk ((H.out.drewN nq).setM 0 (.string b.f0) rfl)
        generalize ((w2.drewN nq).setCell ⟨m, 0, none⟩ (.string b.f0)) = w3 at H' ⊢
        clear H
        clear w2
        have H := H'
        clear H'
        obtain ⟨cA, gA, cB, gB⟩ := H.out.boxes
        obtain ⟨m0, m1, m2, f0, f1, f2⟩ := H.out.move
        obtain ⟨ad', e', b0, b1⟩ := put_head HnA.out HnB.out FB.out H.out.st
        cases e'
        go_quiet (fail)
        go_wp2
        clear cA gA cB gB m0 m1 m2 f0 f1 f2 b0 b1
        have H' := Aside0.mk (H.out.drewN nq)
        generalize (w3.drewN nq) = w4 at H' ⊢
        clear H
        clear w3
        have H := H'
        clear H'
        obtain ⟨cA, gA, cB, gB⟩ := H.out.boxes
        obtain ⟨m0, m1, m2, f0, f1, f2⟩ := H.out.move
        obtain ⟨ad', e', b0, b1⟩ := put_head HnA.out HnB.out FB.out H.out.st
        cases e'
        go_quiet (fail)
        go_wp2
        go_region
        go_upto_region 9 with (fail)
        clear cA gA cB gB m0 m1 m2 f0 f1 f2 b0 b1 hcutB
        have H' := Aside0.mk (((H.out.drewN (nq + 1)).setM 2 (.int .i64 b.f1) rfl).setB (.slice q' y1.length (d - 1)))
        generalize (((w4.drewN (nq + 1)).setCell ⟨m, 2, none⟩ (.int .i64 b.f1)).setCell ⟨B, 0, none⟩ (.slice q' y1.length (d - 1))) = w5 at H' ⊢
        clear H
        clear w4
        have H := H'
        clear H'
        obtain ⟨m0, m1, m2, f0, f1, f2⟩ := H.out.move
        have hL : bothL (k1 + 1) [] (b :: y1) = ⟨b.f0, -1, b.f1⟩ :: bothL k1 [] y1 := by simp [bothL]
        have HL2 := Aside0.mk hL
        clear hL
        have hlen : pre ++ [⟨b.f0, -1, b.f1⟩] <+: bothL k xs ys := ⟨bothL k1 [] y1, by rw [HL.out, HL2.out]; simp⟩
        obtain ⟨fn, tmps, assign, body, hy, hR⟩ := HY.out pre ⟨b.f0, -1, b.f1⟩ w5 (HJ.out pre wr w5 HP.out H.out.st) hlen
        dsimp only [moveV] at hy
        refine (wpIn_wide (n := 0)).1 ?_
        gi_wp2
        refine ⟨rfl, hR.mono ?_⟩
        clear hy hR m0 m1 m2 f0 f1 f2
        rintro e W' (⟨rfl, hJ', hk'⟩ | ⟨rfl, hJx'⟩)
        · have HS' := Aside0.mk (BothSt.next (xs := []) (ys := y1) H.out HnA.out HnB.out FA.out FB'.out (by have := HC.out; exact this) (by have := HD.out; simp at this; omega) hk')
          have HP' := Aside0.mk hJ'
          clear hJ' hk' H
          clear FA FB'
          gi_wp2
          go_wp2
          go_roundg k1
          case rel => exact ⟨pre ++ [⟨b.f0, -1, b.f1⟩], [], y1, ⟨by have := HK1.out; simp at this ⊢; omega⟩, ⟨by rw [HL.out, HL2.out]; simp⟩, HS', HP'⟩
          case measure => omega
        · have HX := Aside0.mk hJx'
          clear hJx'
          gi_wp2
          go_wp2
          refine bodyPost_ret (results_none rfl _ _ _) rfl ?_
          exact ⟨⟨_, rfl⟩, .inr ⟨_, ⟨bothL k1 [] y1, by rw [HL.out, HL2.out]; simp⟩, HX.out⟩⟩
    | cons a x1 =>
      cases y1 with
      | nil =>
        have FA := Aside0.mk fA
        have FB := Aside0.mk fB
        have HC := Aside0.mk hc
        have HD := Aside0.mk hd
        have H2 := Aside0.mk (Here.new bA bB HAB.out #[.string ⟨#[]⟩, .int .i64 (-1), .int .i64 (-1)])
        have cA : wr.cell? ⟨A, 0, none⟩ = some (.slice p (x1.length + 1) c) := (blk_cell bA 0).trans rfl
        have cB : wr.cell? ⟨B, 0, none⟩ = some (.slice q 0 d) := (blk_cell bB 0).trans rfl
        clear bA bB fA fB hc hd
        obtain ⟨p', hcutA, fA'⟩ := put_tail FA.out HC.out
        have FA' := Aside0.mk fA'
        clear fA'
        obtain ⟨ada, rfl, _, _⟩ := put_head HnA.out HnB.out FA.out (Stp.refl A B wr)
        go_wp2
        clear cA cB
        generalize (wr.alloc (Obj.cells #[Value.string (⟨#[]⟩ : ByteArray), Value.int IntKind.i64 (-1), Value.int IntKind.i64 (-1)] 36)) = w2 at H2 ⊢
        generalize hm : wr.heap.size = m at H2 ⊢
        clear hm
        have H := H2
        clear H2
        obtain ⟨cA, gA, cB, gB⟩ := H.out.boxes
        obtain ⟨m0, m1, m2, f0, f1, f2⟩ := H.out.move
        obtain ⟨ad', e', a0, a1⟩ := put_head HnA.out HnB.out FA.out H.out.st
        cases e'
        go_quiet (fail)
        go_wp2
        clear cA gA cB gB m0 m1 m2 f0 f1 f2 a0 a1
        have H' := Aside0.mk ((H.out.drewN nq).setM 0 (.string a.f0) rfl)
        generalize ((w2.drewN nq).setCell ⟨m, 0, none⟩ (.string a.f0)) = w3 at H' ⊢
        clear H
        clear w2
        have H := H'
        clear H'
        obtain ⟨cA, gA, cB, gB⟩ := H.out.boxes
        obtain ⟨m0, m1, m2, f0, f1, f2⟩ := H.out.move
        obtain ⟨ad', e', a0, a1⟩ := put_head HnA.out HnB.out FA.out H.out.st
        cases e'
        go_quiet (fail)
        go_wp2
        go_region
        go_wp2
        clear cA gA cB gB m0 m1 m2 f0 f1 f2 a0 a1 hcutA
        have H' := Aside0.mk (((H.out.drewN (nq + 1)).setM 1 (.int .i64 a.f1) rfl).setA (.slice p' x1.length (c - 1)))
        generalize (((w3.drewN (nq + 1)).setCell ⟨m, 1, none⟩ (.int .i64 a.f1)).setCell ⟨A, 0, none⟩ (.slice p' x1.length (c - 1))) = w4 at H' ⊢
        clear H
        clear w3
        have H := H'
        clear H'
        obtain ⟨cA, gA, cB, gB⟩ := H.out.boxes
        obtain ⟨m0, m1, m2, f0, f1, f2⟩ := H.out.move
        obtain ⟨ad', e', a0, a1⟩ := put_head HnA.out HnB.out FA.out H.out.st
        cases e'
        go_quiet (fail)
        go_upto_region 9 with (fail)
        clear cA gA cB gB m0 m1 m2 f0 f1 f2 a0 a1
        have H' := Aside0.mk (H.out.drewN nq)
        generalize (w4.drewN nq) = w5 at H' ⊢
        clear H
        clear w4
        have H := H'
        clear H'
        obtain ⟨m0, m1, m2, f0, f1, f2⟩ := H.out.move
        have hL : bothL (k1 + 1) (a :: x1) [] = ⟨a.f0, a.f1, -1⟩ :: bothL k1 x1 [] := by simp [bothL]
        have HL2 := Aside0.mk hL
        clear hL
        have hlen : pre ++ [⟨a.f0, a.f1, -1⟩] <+: bothL k xs ys := ⟨bothL k1 x1 [], by rw [HL.out, HL2.out]; simp⟩
        obtain ⟨fn, tmps, assign, body, hy, hR⟩ := HY.out pre ⟨a.f0, a.f1, -1⟩ w5 (HJ.out pre wr w5 HP.out H.out.st) hlen
        dsimp only [moveV] at hy
        refine (wpIn_wide (n := 0)).1 ?_
        gi_wp2
        refine ⟨rfl, hR.mono ?_⟩
        clear hy hR m0 m1 m2 f0 f1 f2
        rintro e W' (⟨rfl, hJ', hk'⟩ | ⟨rfl, hJx'⟩)
        · have HS' := Aside0.mk (BothSt.next (xs := x1) (ys := []) H.out HnA.out HnB.out FA'.out FB.out (by have := HC.out; simp at this; omega) (by have := HD.out; exact this) hk')
          have HP' := Aside0.mk hJ'
          clear hJ' hk' H
          clear FA' FB
          gi_wp2
          go_wp2
          go_roundg k1
          case rel => exact ⟨pre ++ [⟨a.f0, a.f1, -1⟩], x1, [], ⟨by have := HK1.out; simp at this ⊢; omega⟩, ⟨by rw [HL.out, HL2.out]; simp⟩, HS', HP'⟩
          case measure => omega
        · have HX := Aside0.mk hJx'
          clear hJx'
          gi_wp2
          go_wp2
          refine bodyPost_ret (results_none rfl _ _ _) rfl ?_
          exact ⟨⟨_, rfl⟩, .inr ⟨_, ⟨bothL k1 x1 [], by rw [HL.out, HL2.out]; simp⟩, HX.out⟩⟩
      | cons b y1 =>
        by_cases hlt : Op.bytesLess b.f0.toList a.f0.toList = true
        · have e1 : (a.f0.toList == b.f0.toList) = false := beq_eq_false_iff_ne.2 (fun h => by rw [h, bytesLess_irrefl] at hlt; cases hlt)
          have e0 := bytesLess_asymm _ _ hlt
          have HLT := Aside0.mk hlt
          clear hlt
          have FA := Aside0.mk fA
          have FB := Aside0.mk fB
          have HC := Aside0.mk hc
          have HD := Aside0.mk hd
          have H2 := Aside0.mk (Here.new bA bB HAB.out #[.string ⟨#[]⟩, .int .i64 (-1), .int .i64 (-1)])
          have cA : wr.cell? ⟨A, 0, none⟩ = some (.slice p (x1.length + 1) c) := (blk_cell bA 0).trans rfl
          have cB : wr.cell? ⟨B, 0, none⟩ = some (.slice q (y1.length + 1) d) := (blk_cell bB 0).trans rfl
          clear bA bB fA fB hc hd
          have z0 : (((y1.length : Nat) : Int) + 1 == 0) = false := beq_eq_false_iff_ne.2 (by omega)
          obtain ⟨q', hcutB, fB'⟩ := put_tail FB.out HD.out
          have FB' := Aside0.mk fB'
          clear fB'
          obtain ⟨ada, rfl, _, _⟩ := put_head HnA.out HnB.out FA.out (Stp.refl A B wr)
          obtain ⟨adb, rfl, _, _⟩ := put_head HnA.out HnB.out FB.out (Stp.refl A B wr)
          go_wp2
          clear cA cB
          generalize (wr.alloc (Obj.cells #[Value.string (⟨#[]⟩ : ByteArray), Value.int IntKind.i64 (-1), Value.int IntKind.i64 (-1)] 36)) = w2 at H2 ⊢
          generalize hm : wr.heap.size = m at H2 ⊢
          clear hm
          have H := H2
          clear H2
          obtain ⟨cA, gA, cB, gB⟩ := H.out.boxes
          obtain ⟨m0, m1, m2, f0, f1, f2⟩ := H.out.move
          obtain ⟨ad', e', a0, a1⟩ := put_head HnA.out HnB.out FA.out H.out.st
          cases e'
          obtain ⟨ad', e', b0, b1⟩ := put_head HnA.out HnB.out FB.out H.out.st
          cases e'
          go_quiet (fail)
          go_wp2
          clear cA gA cB gB m0 m1 m2 f0 f1 f2 a0 a1 b0 b1
          have H' := Aside0.mk ((H.out.drewN nq).setM 0 (.string b.f0) rfl)
          generalize ((w2.drewN nq).setCell ⟨m, 0, none⟩ (.string b.f0)) = w3 at H' ⊢
          clear H
          clear w2
          have H := H'
          clear H'
          obtain ⟨cA, gA, cB, gB⟩ := H.out.boxes
          obtain ⟨m0, m1, m2, f0, f1, f2⟩ := H.out.move
          obtain ⟨ad', e', a0, a1⟩ := put_head HnA.out HnB.out FA.out H.out.st
          cases e'
          obtain ⟨ad', e', b0, b1⟩ := put_head HnA.out HnB.out FB.out H.out.st
          cases e'
          go_quiet (fail)
          go_wp2
          clear cA gA cB gB m0 m1 m2 f0 f1 f2 a0 a1 b0 b1
          have H' := Aside0.mk (H.out.drewN nq)
          generalize (w3.drewN nq) = w4 at H' ⊢
          clear H
          clear w3
          have H := H'
          clear H'
          obtain ⟨cA, gA, cB, gB⟩ := H.out.boxes
          obtain ⟨m0, m1, m2, f0, f1, f2⟩ := H.out.move
          obtain ⟨ad', e', a0, a1⟩ := put_head HnA.out HnB.out FA.out H.out.st
          cases e'
          obtain ⟨ad', e', b0, b1⟩ := put_head HnA.out HnB.out FB.out H.out.st
          cases e'
          go_quiet (fail)
          go_wp2
          go_region
          go_upto_region 9 with (fail)
          clear cA gA cB gB m0 m1 m2 f0 f1 f2 a0 a1 b0 b1 hcutB
          have H' := Aside0.mk (((H.out.drewN (nq + 1)).setM 2 (.int .i64 b.f1) rfl).setB (.slice q' y1.length (d - 1)))
          generalize (((w4.drewN (nq + 1)).setCell ⟨m, 2, none⟩ (.int .i64 b.f1)).setCell ⟨B, 0, none⟩ (.slice q' y1.length (d - 1))) = w5 at H' ⊢
          clear H
          clear w4
          have H := H'
          clear H'
          obtain ⟨m0, m1, m2, f0, f1, f2⟩ := H.out.move
          have hL : bothL (k1 + 1) (a :: x1) (b :: y1) = ⟨b.f0, -1, b.f1⟩ :: bothL k1 (a :: x1) y1 := by rw [bothL, if_pos HLT.out]
          have HL2 := Aside0.mk hL
          clear hL
          have hlen : pre ++ [⟨b.f0, -1, b.f1⟩] <+: bothL k xs ys := ⟨bothL k1 (a :: x1) y1, by rw [HL.out, HL2.out]; simp⟩
          obtain ⟨fn, tmps, assign, body, hy, hR⟩ := HY.out pre ⟨b.f0, -1, b.f1⟩ w5 (HJ.out pre wr w5 HP.out H.out.st) hlen
          dsimp only [moveV] at hy
          refine (wpIn_wide (n := 0)).1 ?_
          gi_wp2
          refine ⟨rfl, hR.mono ?_⟩
          clear hy hR m0 m1 m2 f0 f1 f2
          rintro e W' (⟨rfl, hJ', hk'⟩ | ⟨rfl, hJx'⟩)
          · have HS' := Aside0.mk (BothSt.next (xs := (a :: x1)) (ys := y1) H.out HnA.out HnB.out FA.out FB'.out (by have := HC.out; exact this) (by have := HD.out; simp at this; omega) hk')
            have HP' := Aside0.mk hJ'
            clear hJ' hk' H
            clear FA FB'
            gi_wp2
            go_wp2
            go_roundg k1
            case rel => exact ⟨pre ++ [⟨b.f0, -1, b.f1⟩], (a :: x1), y1, ⟨by have := HK1.out; simp at this ⊢; omega⟩, ⟨by rw [HL.out, HL2.out]; simp⟩, HS', HP'⟩
            case measure => omega
          · have HX := Aside0.mk hJx'
            clear hJx'
            gi_wp2
            go_wp2
            refine bodyPost_ret (results_none rfl _ _ _) rfl ?_
            exact ⟨⟨_, rfl⟩, .inr ⟨_, ⟨bothL k1 (a :: x1) y1, by rw [HL.out, HL2.out]; simp⟩, HX.out⟩⟩
        · replace hlt : Op.bytesLess b.f0.toList a.f0.toList = false := by simpa using hlt
          by_cases heq : a.f0.toList = b.f0.toList
          · have e2 : (b.f0.toList == a.f0.toList) = true := beq_iff_eq.2 heq.symm
            have e1 : (a.f0.toList == b.f0.toList) = true := beq_iff_eq.2 heq
            have e0 : Op.bytesLess a.f0.toList b.f0.toList = false := by rw [heq]; exact bytesLess_irrefl _
            have HLT := Aside0.mk hlt
            clear hlt
            have HEQ := Aside0.mk heq
            clear heq
            have FA := Aside0.mk fA
            have FB := Aside0.mk fB
            have HC := Aside0.mk hc
            have HD := Aside0.mk hd
            have H2 := Aside0.mk (Here.new bA bB HAB.out #[.string ⟨#[]⟩, .int .i64 (-1), .int .i64 (-1)])
            have cA : wr.cell? ⟨A, 0, none⟩ = some (.slice p (x1.length + 1) c) := (blk_cell bA 0).trans rfl
            have cB : wr.cell? ⟨B, 0, none⟩ = some (.slice q (y1.length + 1) d) := (blk_cell bB 0).trans rfl
            clear bA bB fA fB hc hd
            have z0 : (((y1.length : Nat) : Int) + 1 == 0) = false := beq_eq_false_iff_ne.2 (by omega)
            obtain ⟨p', hcutA, fA'⟩ := put_tail FA.out HC.out
            have FA' := Aside0.mk fA'
            clear fA'
            obtain ⟨q', hcutB, fB'⟩ := put_tail FB.out HD.out
            have FB' := Aside0.mk fB'
            clear fB'
            obtain ⟨ada, rfl, _, _⟩ := put_head HnA.out HnB.out FA.out (Stp.refl A B wr)
            obtain ⟨adb, rfl, _, _⟩ := put_head HnA.out HnB.out FB.out (Stp.refl A B wr)
            go_wp2
            clear cA cB
            generalize (wr.alloc (Obj.cells #[Value.string (⟨#[]⟩ : ByteArray), Value.int IntKind.i64 (-1), Value.int IntKind.i64 (-1)] 36)) = w2 at H2 ⊢
            generalize hm : wr.heap.size = m at H2 ⊢
            clear hm
            have H := H2
            clear H2
            obtain ⟨cA, gA, cB, gB⟩ := H.out.boxes
            obtain ⟨m0, m1, m2, f0, f1, f2⟩ := H.out.move
            obtain ⟨ad', e', a0, a1⟩ := put_head HnA.out HnB.out FA.out H.out.st
            cases e'
            obtain ⟨ad', e', b0, b1⟩ := put_head HnA.out HnB.out FB.out H.out.st
            cases e'
            go_quiet (fail)
            go_wp2
            clear cA gA cB gB m0 m1 m2 f0 f1 f2 a0 a1 b0 b1
            have H' := Aside0.mk ((H.out.drewN nq).setM 0 (.string a.f0) rfl)
            generalize ((w2.drewN nq).setCell ⟨m, 0, none⟩ (.string a.f0)) = w3 at H' ⊢
            clear H
            clear w2
            have H := H'
            clear H'
            obtain ⟨cA, gA, cB, gB⟩ := H.out.boxes
            obtain ⟨m0, m1, m2, f0, f1, f2⟩ := H.out.move
            obtain ⟨ad', e', a0, a1⟩ := put_head HnA.out HnB.out FA.out H.out.st
            cases e'
            obtain ⟨ad', e', b0, b1⟩ := put_head HnA.out HnB.out FB.out H.out.st
            cases e'
            go_quiet (fail)
            go_wp2
            go_region
            go_wp2
            clear cA gA cB gB m0 m1 m2 f0 f1 f2 a0 a1 b0 b1 hcutA
            have H' := Aside0.mk (((H.out.drewN (nq + 1)).setM 1 (.int .i64 a.f1) rfl).setA (.slice p' x1.length (c - 1)))
            generalize (((w3.drewN (nq + 1)).setCell ⟨m, 1, none⟩ (.int .i64 a.f1)).setCell ⟨A, 0, none⟩ (.slice p' x1.length (c - 1))) = w4 at H' ⊢
            clear H
            clear w3
            have H := H'
            clear H'
            obtain ⟨cA, gA, cB, gB⟩ := H.out.boxes
            obtain ⟨m0, m1, m2, f0, f1, f2⟩ := H.out.move
            obtain ⟨ad', e', a0, a1⟩ := put_head HnA.out HnB.out FA.out H.out.st
            cases e'
            obtain ⟨ad', e', b0, b1⟩ := put_head HnA.out HnB.out FB.out H.out.st
            cases e'
            go_quiet (fail)
            go_wp2
            go_region
            go_upto_region 9 with (fail)
            clear cA gA cB gB m0 m1 m2 f0 f1 f2 a0 a1 b0 b1 hcutB
            have H' := Aside0.mk (((H.out.drewN (nq + 1)).setM 2 (.int .i64 b.f1) rfl).setB (.slice q' y1.length (d - 1)))
            generalize (((w4.drewN (nq + 1)).setCell ⟨m, 2, none⟩ (.int .i64 b.f1)).setCell ⟨B, 0, none⟩ (.slice q' y1.length (d - 1))) = w5 at H' ⊢
            clear H
            clear w4
            have H := H'
            clear H'
            obtain ⟨m0, m1, m2, f0, f1, f2⟩ := H.out.move
            have hL : bothL (k1 + 1) (a :: x1) (b :: y1) = ⟨a.f0, a.f1, b.f1⟩ :: bothL k1 x1 y1 := by rw [bothL, if_neg (by rw [HLT.out]; decide), if_pos HEQ.out]
            have HL2 := Aside0.mk hL
            clear hL
            have hlen : pre ++ [⟨a.f0, a.f1, b.f1⟩] <+: bothL k xs ys := ⟨bothL k1 x1 y1, by rw [HL.out, HL2.out]; simp⟩
            obtain ⟨fn, tmps, assign, body, hy, hR⟩ := HY.out pre ⟨a.f0, a.f1, b.f1⟩ w5 (HJ.out pre wr w5 HP.out H.out.st) hlen
            dsimp only [moveV] at hy
            refine (wpIn_wide (n := 0)).1 ?_
            gi_wp2
            refine ⟨rfl, hR.mono ?_⟩
            clear hy hR m0 m1 m2 f0 f1 f2
            rintro e W' (⟨rfl, hJ', hk'⟩ | ⟨rfl, hJx'⟩)
            · have HS' := Aside0.mk (BothSt.next (xs := x1) (ys := y1) H.out HnA.out HnB.out FA'.out FB'.out (by have := HC.out; simp at this; omega) (by have := HD.out; simp at this; omega) hk')
              have HP' := Aside0.mk hJ'
              clear hJ' hk' H
              clear FA' FB'
              gi_wp2
              go_wp2
              go_roundg k1
              case rel => exact ⟨pre ++ [⟨a.f0, a.f1, b.f1⟩], x1, y1, ⟨by have := HK1.out; simp at this ⊢; omega⟩, ⟨by rw [HL.out, HL2.out]; simp⟩, HS', HP'⟩
              case measure => omega
            · have HX := Aside0.mk hJx'
              clear hJx'
              gi_wp2
              go_wp2
              refine bodyPost_ret (results_none rfl _ _ _) rfl ?_
              exact ⟨⟨_, rfl⟩, .inr ⟨_, ⟨bothL k1 x1 y1, by rw [HL.out, HL2.out]; simp⟩, HX.out⟩⟩
          · have e2 : (b.f0.toList == a.f0.toList) = false := beq_eq_false_iff_ne.2 (fun h => heq h.symm)
            have e1 : (a.f0.toList == b.f0.toList) = false := beq_eq_false_iff_ne.2 heq
            have e0 := bytesLess_total _ _ heq hlt
            have HLT := Aside0.mk hlt
            clear hlt
            have HEQ := Aside0.mk heq
            clear heq
            have FA := Aside0.mk fA
            have FB := Aside0.mk fB
            have HC := Aside0.mk hc
            have HD := Aside0.mk hd
            have H2 := Aside0.mk (Here.new bA bB HAB.out #[.string ⟨#[]⟩, .int .i64 (-1), .int .i64 (-1)])
            have cA : wr.cell? ⟨A, 0, none⟩ = some (.slice p (x1.length + 1) c) := (blk_cell bA 0).trans rfl
            have cB : wr.cell? ⟨B, 0, none⟩ = some (.slice q (y1.length + 1) d) := (blk_cell bB 0).trans rfl
            clear bA bB fA fB hc hd
            have z0 : (((y1.length : Nat) : Int) + 1 == 0) = false := beq_eq_false_iff_ne.2 (by omega)
            obtain ⟨p', hcutA, fA'⟩ := put_tail FA.out HC.out
            have FA' := Aside0.mk fA'
            clear fA'
            obtain ⟨ada, rfl, _, _⟩ := put_head HnA.out HnB.out FA.out (Stp.refl A B wr)
            obtain ⟨adb, rfl, _, _⟩ := put_head HnA.out HnB.out FB.out (Stp.refl A B wr)
            go_wp2
            clear cA cB
            generalize (wr.alloc (Obj.cells #[Value.string (⟨#[]⟩ : ByteArray), Value.int IntKind.i64 (-1), Value.int IntKind.i64 (-1)] 36)) = w2 at H2 ⊢
            generalize hm : wr.heap.size = m at H2 ⊢
            clear hm
            have H := H2
            clear H2
            obtain ⟨cA, gA, cB, gB⟩ := H.out.boxes
            obtain ⟨m0, m1, m2, f0, f1, f2⟩ := H.out.move
            obtain ⟨ad', e', a0, a1⟩ := put_head HnA.out HnB.out FA.out H.out.st
            cases e'
            obtain ⟨ad', e', b0, b1⟩ := put_head HnA.out HnB.out FB.out H.out.st
            cases e'
            go_quiet (fail)
            go_wp2
            clear cA gA cB gB m0 m1 m2 f0 f1 f2 a0 a1 b0 b1
            have H' := Aside0.mk ((H.out.drewN nq).setM 0 (.string a.f0) rfl)
            generalize ((w2.drewN nq).setCell ⟨m, 0, none⟩ (.string a.f0)) = w3 at H' ⊢
            clear H
            clear w2
            have H := H'
            clear H'
            obtain ⟨cA, gA, cB, gB⟩ := H.out.boxes
            obtain ⟨m0, m1, m2, f0, f1, f2⟩ := H.out.move
            obtain ⟨ad', e', a0, a1⟩ := put_head HnA.out HnB.out FA.out H.out.st
            cases e'
            obtain ⟨ad', e', b0, b1⟩ := put_head HnA.out HnB.out FB.out H.out.st
            cases e'
            go_quiet (fail)
            go_wp2
            go_region
            go_wp2
            clear cA gA cB gB m0 m1 m2 f0 f1 f2 a0 a1 b0 b1 hcutA
            have H' := Aside0.mk (((H.out.drewN (nq + 1)).setM 1 (.int .i64 a.f1) rfl).setA (.slice p' x1.length (c - 1)))
            generalize (((w3.drewN (nq + 1)).setCell ⟨m, 1, none⟩ (.int .i64 a.f1)).setCell ⟨A, 0, none⟩ (.slice p' x1.length (c - 1))) = w4 at H' ⊢
            clear H
            clear w3
            have H := H'
            clear H'
            obtain ⟨cA, gA, cB, gB⟩ := H.out.boxes
            obtain ⟨m0, m1, m2, f0, f1, f2⟩ := H.out.move
            obtain ⟨ad', e', a0, a1⟩ := put_head HnA.out HnB.out FA.out H.out.st
            cases e'
            obtain ⟨ad', e', b0, b1⟩ := put_head HnA.out HnB.out FB.out H.out.st
            cases e'
            go_quiet (fail)
            go_upto_region 9 with (fail)
            clear cA gA cB gB m0 m1 m2 f0 f1 f2 a0 a1 b0 b1
            have H' := Aside0.mk (H.out.drewN nq)
            generalize (w4.drewN nq) = w5 at H' ⊢
            clear H
            clear w4
            have H := H'
            clear H'
            obtain ⟨m0, m1, m2, f0, f1, f2⟩ := H.out.move
            have hL : bothL (k1 + 1) (a :: x1) (b :: y1) = ⟨a.f0, a.f1, -1⟩ :: bothL k1 x1 (b :: y1) := by rw [bothL, if_neg (by rw [HLT.out]; decide), if_neg HEQ.out]
            have HL2 := Aside0.mk hL
            clear hL
            have hlen : pre ++ [⟨a.f0, a.f1, -1⟩] <+: bothL k xs ys := ⟨bothL k1 x1 (b :: y1), by rw [HL.out, HL2.out]; simp⟩
            obtain ⟨fn, tmps, assign, body, hy, hR⟩ := HY.out pre ⟨a.f0, a.f1, -1⟩ w5 (HJ.out pre wr w5 HP.out H.out.st) hlen
            dsimp only [moveV] at hy
            refine (wpIn_wide (n := 0)).1 ?_
            gi_wp2
            refine ⟨rfl, hR.mono ?_⟩
            clear hy hR m0 m1 m2 f0 f1 f2
            rintro e W' (⟨rfl, hJ', hk'⟩ | ⟨rfl, hJx'⟩)
            · have HS' := Aside0.mk (BothSt.next (xs := x1) (ys := (b :: y1)) H.out HnA.out HnB.out FA'.out FB.out (by have := HC.out; simp at this; omega) (by have := HD.out; exact this) hk')
              have HP' := Aside0.mk hJ'
              clear hJ' hk' H
              clear FA' FB
              gi_wp2
              go_wp2
              go_roundg k1
              case rel => exact ⟨pre ++ [⟨a.f0, a.f1, -1⟩], x1, (b :: y1), ⟨by have := HK1.out; simp at this ⊢; omega⟩, ⟨by rw [HL.out, HL2.out]; simp⟩, HS', HP'⟩
              case measure => omega
            · have HX := Aside0.mk hJx'
              clear hJx'
              gi_wp2
              go_wp2
              refine bodyPost_ret (results_none rfl _ _ _) rfl ?_
              exact ⟨⟨_, rfl⟩, .inr ⟨_, ⟨bothL k1 x1 (b :: y1), by rw [HL.out, HL2.out]; simp⟩, HX.out⟩⟩
/-- The world is as it was but for the blocks of S and what is new. -/
structure Off (S : Nat → Prop) (W W' : World) : Prop where
  os : W'.os = W.os
  tape : W'.tape = W.tape
  output : W'.output = W.output
  kept : Kept W W' S
theorem Off.refl (S : Nat → Prop) (W : World) : Off S W W := ⟨rfl, rfl, rfl, Kept.refl _ _⟩
theorem Off.alloc {S : Nat → Prop} {W W' : World} (h : Off S W W') (o : Obj) : Off S W (W'.alloc o) := ⟨h.os, h.tape, h.output, h.kept.alloc o⟩
theorem Off.putObj {S : Nat → Prop} {W W' : World} (h : Off S W W') {r : Nat} (hr : S r) (o : Obj) : Off S W (W'.putObj r o) :=
  ⟨h.os, h.tape, h.output, Nat.le_trans h.kept.1 (by simp), fun i hi hn => (World.putObj_heap_other (fun e => hn (by rw [e]; exact hr))).trans (h.kept.2 i hi hn)⟩
theorem Stp.off {S : Nat → Prop} {A B : Nat} {W W' : World} (h : Stp A B W W') (hA : S A) (hB : S B) : Off S W W' := ⟨h.os, h.tape, h.output, h.kept.mono (fun k hk => by rcases hk with rfl | rfl <;> assumption)⟩
/-- How a round of a loop over plan.both may be left. K: what it keeps. -/
def bothPost {α : Type} (K : Nat → Prop) (I Ix : List α → World → Prop) (xs : List α) (W : World) : Exit → Act → World → Prop
  | .normal, _, W' => I xs W' ∧ ∀ k, K k → k < W.heap.size → W'.heap[k]? = W.heap[k]?
  | .ret, _, W' => Ix xs W' ∧ ∀ k, K k → k < W.heap.size → W'.heap[k]? = W.heap[k]?
  | _, _, _ => False
/-- A loop over plan.both: the blocks that are none of the caller's concern: the two boxes, the loop's record, the block for the rounds' deferred calls. -/
def offB (A B : Nat) (w : World) (k : Nat) : Prop := k = A ∨ k = B ∨ k = w.heap.size ∨ k = w.heap.size + 1
theorem wpIn_range_both {g : Operand} {t : Tmp} {assign body : Code} {Q : Exit → Act → World → Prop} {a : Act} {w : World} {A B : Nat} {Ok : Nat → Prop} {xs ys : List S52}
    (hg : a.eval g = .func (.func 29) #[] #[.pointer (some ⟨A, 0, none⟩), .pointer (some ⟨B, 0, none⟩)])
    (hAB : A ≠ B) (hA : ¬ Ok A) (hB : ¬ Ok B) (hOk : ∀ k, Ok k → k < w.heap.size) (hS : BothSt Ok A B w xs ys) (k : Nat) (hk : xs.length + ys.length < k)
    (I Ix : List S36 → World → Prop) (hI : ∀ pre W W', I pre W → Off (offB A B w) W W' → I pre W') (hIx : ∀ pre W W', Ix pre W → Off (offB A B w) W W' → Ix pre W') (h0 : I [] w)
    (hround : ∀ (l : Nat) (pre : List S36) (x : S36) (W : World), I pre W → pre ++ [x] <+: bothL k xs ys → w.heap.size + 1 < W.heap.size →
      assign.wpIn (Fence.wide.inRound l) 0 Try.prog (Exit.then (fun a₁ W1 => ∃ o, W1 = W.alloc o ∧ ∀ W2, Off (offB A B w) W1 W2 → I pre W2 → W2.heap[W.heap.size]? = some o →
        body.wpIn (Fence.wide.inRound l) 0 Try.prog (bothPost (fun k => Ok k ∨ offB A B w k) I Ix (pre ++ [x]) W2) a₁ W2) (fun _ _ _ => False)) { tmps := a.tmps.setIfInBounds t (moveV x), defers := [] } W)
    (hdone : ∀ W, I (bothL k xs ys) W → W.heap[w.heap.size]? = some (.deferred (some [])) → Q .normal { a with defers := { target := .collected w.heap.size, args := #[] } :: a.defers } W)
    (hstop : ∀ pre W, pre <+: bothL k xs ys → Ix pre W → W.heap[w.heap.size]? = some (.deferred (some [])) → Code.ret.wpIn Fence.wide 0 Try.prog Q { a with defers := { target := .collected w.heap.size, args := #[] } :: a.defers } W) :
    (Code.rangeFunc g #[t] assign body).wpIn Fence.wide 0 Try.prog Q a w := by
  have hAlt : A < w.heap.size := by obtain ⟨_, _, _, _, bA, _⟩ := hS; exact blk_lt bA
  have hBlt : B < w.heap.size := by obtain ⟨_, _, _, _, _, bB, _⟩ := hS; exact blk_lt bB
  have sA : offB A B w A := .inl rfl
  have sB : offB A B w B := .inr (.inl rfl)
  have sD : offB A B w w.heap.size := .inr (.inr (.inl rfl))
  have sL : offB A B w (w.heap.size + 1) := .inr (.inr (.inr rfl))
  refine wpIn_rangeFunc ?_
  intro fn hfn
  obtain ⟨rec, hrec⟩ : ∃ rec : LoopState → Option Code → Loop, rec = fun st pe => { state := st, pending := pe, fn, tmps := a.tmps, params := #[t], assign, body, defers := w.heap.size } := ⟨_, rfl⟩
  obtain ⟨W1, hW1⟩ : ∃ W1, (w.alloc (.deferred (some []))).alloc (.loop (rec .ready none)) = W1 := ⟨_, rfl⟩
  have hsz : w.heap.size + 2 = W1.heap.size := by rw [← hW1]; simp
  have hL1 : W1.heap[w.heap.size + 1]? = some (.loop (rec .ready none)) := by
    rw [← hW1]; have := World.alloc_heap_new (w.alloc (.deferred (some []))) (.loop (rec .ready none)); rwa [World.size_alloc] at this
  have hK1 : W1.heap[w.heap.size]? = some (.deferred (some [])) := by
    rw [← hW1]; exact blk_alloc (blk_new w _) _
  have hO1 : Off (offB A B w) w W1 := by rw [← hW1]; exact ((Off.refl _ _).alloc _).alloc _
  have hS1 : BothSt Ok A B W1 xs ys := by
    have same : ∀ k, k < w.heap.size → W1.heap[k]? = w.heap[k]? := fun k hk => by
      rw [← hW1, Below.heap_alloc _ _ k (by simp; omega), Below.heap_alloc _ _ k hk]
    obtain ⟨p, q, c, d, bA, bB, hc, hd, fA, fB⟩ := hS
    exact ⟨p, q, c, d, (same A hAlt).trans bA, (same B hBlt).trans bB, hc, hd, Kd.F_step fA (fun k _ h => same k h), Kd.F_step fB (fun k _ h => same k h)⟩
  refine ⟨w.heap.size + 1, [{ target := .collected w.heap.size, args := #[] }], W1, { target := .fn (.func 29) #[.pointer (some ⟨A, 0, none⟩), .pointer (some ⟨B, 0, none⟩)], args := #[.func (.yield (w.heap.size + 1)) #[] #[]] }, W1, 29,
    #[.func (.yield (w.heap.size + 1)) #[] #[]] ++ #[.pointer (some ⟨A, 0, none⟩), .pointer (some ⟨B, 0, none⟩)], W1, ?_, ?_, ?_, ?_, (fun h => by cases h), ?_⟩
  · rw [← hW1, hrec]; exact run_enterLoop_outer _ _ _ _ _
  · simp only [resolve, hg]
    simp [go_sem]
  · intro f' hf'; trivial
  · have := enters_of Try.func29 (by kernel_rfl) rfl
    simp [invoke, go_sem, this]
  · refine (both1_calls (w.heap.size + 1) A B hAB Ok hA hB
      (fun pre W => I pre W ∧ W.heap[w.heap.size + 1]? = some (.loop (rec .ready none)) ∧ W.heap[w.heap.size]? = some (.deferred (some [])))
      (fun pre W => Ix pre W ∧ W.heap[w.heap.size + 1]? = some (.loop (rec .done (some .ret))) ∧ W.heap[w.heap.size]? = some (.deferred (some [])))
      (fun pre W W' h hs => ⟨hI pre W W' h.1 (hs.off sA sB), blk_kept h.2.1 hs.kept (by omega), blk_kept h.2.2 hs.kept (by omega)⟩)
      k xs ys hk ?_ W1 hS1 ⟨hI [] w W1 h0 hO1, hL1, hK1⟩).mono ?_
    · rintro pre x W ⟨hi, hl, hd⟩ hlen
      have hlt : w.heap.size + 1 < W.heap.size := blk_lt hl
      have hy := run_yield (P := Try.prog) (args := #[moveV x]) hl (by rw [hrec]; rfl)
      rw [hrec] at hy
      replace hy : (Instr.yield (w.heap.size + 1) #[moveV x]).run Try.prog W = .ok (.round (w.heap.size + 1) fn (a.tmps.setIfInBounds t (moveV x)) assign body) W := by simpa using hy
      refine ⟨fn, _, assign, body, hy, roundIn_of_wpIn hfn (wpIn_mono (hround (w.heap.size + 1) pre x W hi hlen hlt) ?_)⟩
      rintro e a₁ W2 he
      cases e with
      | normal =>
        obtain ⟨o, rfl, hb⟩ := he
        have hl2 : (W.alloc o).heap[w.heap.size + 1]? = some (.loop (rec .ready none)) := blk_alloc hl o
        have hd2 : (W.alloc o).heap[w.heap.size]? = some (.deferred (some [])) := blk_alloc hd o
        refine ⟨_, run_beginRound hl2 (by rw [hrec]), ?_⟩
        obtain ⟨W3, hW3⟩ : ∃ W3, W3 = (W.alloc o).putObj (w.heap.size + 1) (.loop { rec .ready none with state := .busy }) := ⟨_, rfl⟩
        have ho3 : Off (offB A B w) (W.alloc o) W3 := by rw [hW3]; exact (Off.refl _ _).putObj sL _
        have hl3 : W3.heap[w.heap.size + 1]? = some (.loop { rec .ready none with state := .busy }) := by rw [hW3]; exact World.putObj_heap_same (blk_lt hl2)
        have hd3 : W3.heap[w.heap.size]? = some (.deferred (some [])) := by rw [hW3]; exact (World.putObj_heap_other (by omega)).trans hd2
        have hi3 : I pre W3 := hI _ _ _ (hI _ _ _ hi ((Off.refl _ _).alloc o)) ho3
        have hm3 : W3.heap[W.heap.size]? = some o := by rw [hW3]; exact (World.putObj_heap_other (by omega)).trans (blk_new _ _)
        have hsame : ∀ k, k < W.heap.size → k ≠ w.heap.size + 1 → W3.heap[k]? = W.heap[k]? := fun k hk hne => by
          rw [hW3, World.putObj_heap_other hne, Below.heap_alloc _ _ _ hk]
        have h3lt : W.heap.size < W3.heap.size := by rw [hW3]; simp
        rw [← hW3]
        refine wpIn_mono (hb W3 ho3 hi3 hm3) ?_
        have fin : ∀ (jump : Option Code) (W4 : World), (∀ k, (Ok k ∨ offB A B w k) → k < W3.heap.size → W4.heap[k]? = W3.heap[k]?) →
            (Instr.endRound (w.heap.size + 1) jump).run Try.prog W4 = .ok (.bool jump.isNone) (W4.putObj (w.heap.size + 1) (.loop (rec (if jump.isNone then .ready else .done) jump))) ∧
            Off (offB A B w) W4 (W4.putObj (w.heap.size + 1) (.loop (rec (if jump.isNone then .ready else .done) jump))) ∧
            (W4.putObj (w.heap.size + 1) (.loop (rec (if jump.isNone then .ready else .done) jump))).heap[w.heap.size + 1]? = some (.loop (rec (if jump.isNone then .ready else .done) jump)) ∧
            (W4.putObj (w.heap.size + 1) (.loop (rec (if jump.isNone then .ready else .done) jump))).heap[w.heap.size]? = some (.deferred (some [])) := fun jump W4 hk4 => by
          have hl4 := (hk4 _ (.inr sL) (by omega)).trans hl3
          have := run_endRound (P := Try.prog) jump hl4
          rw [hrec] at this ⊢
          exact ⟨this, (Off.refl _ _).putObj sL _, World.putObj_heap_same (blk_lt hl4), (World.putObj_heap_other (by omega)).trans ((hk4 _ (.inr sD) (by omega)).trans hd3)⟩
        rintro e a3 W4 hp
        cases e with
        | normal =>
          obtain ⟨hi4, hk4⟩ := hp
          obtain ⟨hr, ho, hl4, hd4⟩ := fin none W4 hk4
          refine ⟨_, _, hr, .inl ⟨rfl, ⟨hI _ _ _ hi4 ho, hl4, hd4⟩, fun k hk hlt' => ?_⟩⟩
          have hne : k ≠ w.heap.size + 1 := by
            rcases hk with h | rfl | rfl
            · have := hOk k h; omega
            · omega
            · omega
          rw [World.putObj_heap_other hne, hk4 k (hk.imp id (fun h => h.elim (fun e => .inl e) (fun e => .inr (.inl e)))) (by omega), hsame k hlt' hne]
        | ret =>
          obtain ⟨hi4, hk4⟩ := hp
          obtain ⟨hr, ho, hl4, hd4⟩ := fin (some .ret) W4 hk4
          exact ⟨_, _, hr, .inr ⟨rfl, hIx _ _ _ hi4 ho, hl4, hd4⟩⟩
        | exit id => exact hp.elim
        | goto t => exact hp.elim
        | panic ch => exact hp.elim
        | outgrown => exact hp.elim
      | ret => exact he.elim
      | exit id => exact he.elim
      | goto t => exact he.elim
      | panic ch => exact he.elim
      | outgrown => exact he.elim
    · rintro e W2 ⟨⟨v, rfl⟩, (⟨hi, hl, hd⟩ | ⟨pre, hp, hi, hl, hd⟩)⟩
      · exact ⟨none, _, by have := run_endLoop (P := Try.prog) hl (by rw [hrec]; simp); rw [hrec] at this; exact this, hdone _ (hI _ _ _ hi ((Off.refl _ _).putObj sL _)) ((World.putObj_heap_other (by omega)).trans hd)⟩
      · exact ⟨some .ret, _, by have := run_endLoop (P := Try.prog) hl (by rw [hrec]; simp); rw [hrec] at this; exact this, hstop _ _ hp (hIx _ _ _ hi ((Off.refl _ _).putObj sL _)) ((World.putObj_heap_other (by omega)).trans hd)⟩
theorem both_calls (p q : Option Addr) (n c m d : Nat) (w : World) : Calls Try.prog 23 #[.slice p n c, .slice q m d] w fun e w' => e = .returned (.func (.func 29) #[] #[.pointer (some ⟨w.heap.size, 0, none⟩), .pointer (some ⟨w.heap.size + 1, 0, none⟩)]) ∧ w' = (w.alloc (.cells #[.slice p n c] 22)).alloc (.cells #[.slice q m d] 22) := by
  go_enter Try.func23, Try.ntmps23
  go_wp2
  go_ret
  exact ⟨rfl, rfl⟩
/-- append(v, x) in a round: 'R_append', fenced. -/
theorem R_appendIn {α : Type} {F : Fence} {n : Nat} {P : Program} {ops : Array Oper} {rest : List Oper} {o : Oper} {a : Act} {Q : Exit → Act → World → Prop} (d : Kd α) {w0 W : World} (base : Nat) (hgd : o.guard = none) (s x : Operand) (t e : TypeId) (z : Value) (bytes : Nat)
    (ho : o.op = .call { callee := .builtin .append, args := #[s, x], argTypes := #[t, t] })
    (ht : P.underlying t = some (.slice e)) (hinfo : (P.info? e).map (fun i => (i.zero, i.size, i.bytes)) = some (some z, d.sz, bytes)) (hz : z.cells.size = d.sz) (hs0 : 0 < d.sz) (hb0 : 0 < bytes)
    (v : Value) (xs : List α) (p : α) (cs : List Value) (ok : Nat → Prop) (hs : a.eval s = v) (hx : a.eval x = .slice (some ⟨W.heap.size, 0, none⟩) 1 1) (hp : d.M W base (fun _ => False) p cs) (hfresh : ∀ k, W.heap.size ≤ k → ok k)
    (HO : d.R e W base ok v xs) (HB : Below base w0 W) (hbase : base ≤ W.heap.size) (hl : (xs.length + 1) * bytes ≤ 140737488355328)
    (h : ∀ v1 w1, d.R e w1 base ok v1 (xs ++ [p]) → Below base w0 w1 → W.grownBy w1 v.ownBlock → wpListIn F n P ops Q rest (a.put o.dst v1) w1) :
    wpListIn F n P ops Q (o :: rest) a (W.alloc (.cells cs.toArray e)) := by
  obtain ⟨h0, inner, hown, hr⟩ := HO
  obtain ⟨i0, hi, hzz⟩ := Option.map_eq_some_iff.1 hinfo
  simp only [Prod.mk.injEq] at hzz
  obtain ⟨hz0, hz1, hz2⟩ := hzz
  have hlen : xs.length + 1 ≤ 140737488355328 := Nat.le_trans (Nat.le_mul_of_pos_right _ hb0) hl
  have hcs : cs.length = d.sz := d.K_len (d.K_of_M hp)
  obtain ⟨v1, w1, hrun, hown1, hg, _, hat⟩ := run_append_own_at (P := P) (W.alloc (.cells cs.toArray e)) base t o.type e i0 z d.sz bytes ht hi hz0 hz1 hz2 hz hs0 v xs.length inner (hown.alloc _) ⟨W.heap.size, 0, none⟩ 1 1 cs (by rw [hcs]; simp)
    (by simpa using World.news_of_block (cs := cs.toArray) (t := e) (fr := (0, 0)) (heap_alloc_new W (.cells cs.toArray e))) (d.K_one (d.K_of_M hp)) (by simp only [maxLen]; omega) hl (by simp; omega)
  have hat' : v1.ownBlock = v.ownBlock ∨ ∃ b, v1.ownBlock = some b ∧ W.heap.size ≤ b := by
    rcases hat with hat | hat
    · exact .inl hat
    · exact .inr ⟨_, hat, by simp⟩
  have hg' : W.grownBy w1 v.ownBlock := World.grownBy.trans (World.grownBy_alloc W _ _) hg
  have hR := Kd.R_appended h0 hr hp (fun _ hk => hk.elim) hfresh hown1 hg' hat'
  have hB := (HB.alloc hbase (.cells cs.toArray e)).grown hg (by simp; omega) (own_base hown)
  refine wpListIn_plain hgd fun K hK' => ?_
  unfold Oper.wpIn
  refine ⟨?_, ?_⟩
  · simp [Oper.about, ho, resolve, Target.leads, Sem.run_pure]
  · rw [Oper.semAt_plain F _ _ (by rw [ho]; intro c hc'; cases hc')]
    simp [execOp, ho, resolve, invoke, builtin, hs, hx, hrun, Result.andThen]
    exact hK' _ _ (h v1 w1 hR hB hg')
/-- Below across what a loop over both turns. -/
theorem Off.below {S : Nat → Prop} {w W W' : World} (h : Below w.heap.size w W) (k : Off S W W') (hS : ∀ i, S i → w.heap.size ≤ i) : Below w.heap.size w W' :=
  h.trans ⟨k.os, k.tape, k.output, k.kept.1, fun i hi => k.kept.2 i (Nat.lt_of_lt_of_le hi h.size) (fun hs => by have := hS i hs; omega)⟩
theorem R_own_ok {α : Type} {d : Kd α} {e base : Nat} {W : World} {ok : Nat → Prop} {v : Value} {xs : List α} (h : d.R e W base ok v xs) (i : Nat) (hi : v.ownBlock = some i) : ok i ∧ base ≤ i := by
  obtain ⟨h0, inner, ho, hr⟩ := h
  exact ⟨h0 i hi, own_base ho i hi⟩
theorem heap52 : Kd.Heap k52 := Kd.heap_iso _ (Kd.heap_pair Kd.heap_string (Kd.heap_int _))
theorem bothL_length : ∀ (k : Nat) (xs ys : List S52), (bothL k xs ys).length ≤ k
  | 0, _, _ => by simp [bothL]
  | _ + 1, [], [] => by simp [bothL]
  | k + 1, a :: xs, [] => by have := bothL_length k xs []; simp [bothL]; omega
  | k + 1, [], b :: ys => by have := bothL_length k [] ys; simp [bothL]; omega
  | k + 1, a :: xs, b :: ys => by
    have h1 := bothL_length k (a :: xs) ys
    have h2 := bothL_length k xs ys
    have h3 := bothL_length k xs (b :: ys)
    unfold bothL
    split
    · simp; omega
    · split <;> simp <;> omega
/-! A region that draws its order, in a round of a loop over a function: the quiet walk (Derived/Deep/Quiet.lean's), fenced -/
section
variable {P : Program} {ops : Array Oper} {md : Region.Mode} {C : World → Prop}
theorem quiet_wpIn {l n : Nat} {o : Oper} {a : Act} {K : Act → Prop} {K' : Act → World → Prop} {Q' : Exit → Act → World → Prop} {w : World} (hnd : ∀ c, o.op ≠ .defer c) (hw : C w) (h : ∀ a w', C w' → K a → K' a w') (hh : o.quiet P a C K) :
    o.wpIn (Fence.wide.inRound l) n P a w K' Q' := by
  obtain ⟨v, h1, h2⟩ := hh
  have h3 := h1 w hw
  refine ⟨fun _ _ => trivial, ?_⟩
  rw [show (Fence.wide.inRound l).round = some l from rfl, Oper.semAt_some l _ _ hnd]
  unfold Oper.quietAt at h3
  generalize (execOp a.eval o).run P w = r at *
  cases r with
  | ok x w' =>
    cases x <;> simp only [Oper.quietUpon] at h3 <;> simp only [Oper.uponIn]
    case value u =>
      obtain ⟨e1, e2⟩ := h3
      rw [e1, e2]
      exact h _ _ hw h2
    case skip =>
      obtain ⟨e1, e2⟩ := h3
      rw [e1, ← e2]
      exact h _ _ hw h2
    case enter f args =>
      obtain ⟨e1, hc⟩ := h3
      rw [e1]
      refine ⟨fun hd => (by cases hd), CallsIn.mono (CallsIn.inRound l (callsIn_wide.2 hc)) ?_⟩
      rintro e w'' ⟨rfl, hw''⟩
      exact h _ _ hw'' h2
  | halt x w' => simp only [Oper.quietUpon] at h3
theorem quiet_wpOpIn {l n : Nat} (hnd : ∀ (i : Nat) (o : Oper) c, ops[i]? = some o → o.op ≠ .defer c) {i : Nat} {a : Act} {K : Act → Prop} {K' : Act → World → Prop} {Q' : Exit → Act → World → Prop} {w : World} (hC : C w) (h : ∀ a w', C w' → K a → K' a w') (hh : qOp P ops C i K a) :
    wpOpIn (Fence.wide.inRound l) n P ops Q' i K' a w := by
  unfold qOp at hh
  unfold wpOpIn
  split
  · rename_i ho; simp only [ho] at hh; exact h _ _ hC hh
  · rename_i o ho
    simp only [ho] at hh
    split
    · rename_i hw; simp only [hw, if_true] at hh; exact quiet_wpIn (fun c => hnd i o c ho) hC h hh
    · rename_i hw; simp only [hw] at hh; exact ⟨fun _ _ => trivial, h _ _ hC hh⟩
theorem quiet_wpAnyIn {l n : Nat} (hnd : ∀ (i : Nat) (o : Oper) c, ops[i]? = some o → o.op ≠ .defer c) {Q : Act → Prop} {Q' : Exit → Act → World → Prop} (hQ : ∀ a w, C w → Q a → Q' .normal a w) : ∀ (fuel : Nat) (listed : Array Bool) (a : Act) (w : World), C w →
    wpAnyQ P md ops C Q fuel listed a → wpAnyIn (Fence.wide.inRound l) n P md ops Q' fuel listed a w
  | 0, _, _, _, hw, h => ⟨h.1, hQ _ _ hw h.2⟩
  | fuel + 1, _, _, _, hw, h => ⟨fun h0 => hQ _ _ hw (h.1 h0), fun i hi => quiet_wpOpIn hnd hw (fun a' w' hw' => quiet_wpAnyIn hnd hQ fuel _ a' w' hw') (h.2 i hi)⟩
end
def noDefer (o : Oper) : Bool := match o.op with
  | .defer _ => false
  | _ => true
theorem wpIn_region_quiet_round {P : Program} {lr n id : Nat} {Q : Exit → Act → World → Prop} {a : Act} {w : World} {l : List Oper} (hm : P.follows .mixedOrders = true) (hB : Region.lexB .any l.toArray = true) (hnd : l.all noDefer = true)
    (h : wpQuiet P l.toArray (fun w' => ∃ n, w' = w.drewN n) (fun a' => ∀ w', (∃ n, w' = w.drewN n) → Q .normal a' w') l a) : (Code.region id l.toArray true).wpIn (Fence.wide.inRound lr) n P Q a w := by
  simp only [Region.lexB, Bool.and_eq_true] at hB
  refine wpIn_region_any hm (quiet_wpAnyIn (C := fun w' => ∃ n, w' = w.drewN n) (Q := fun a' => ∀ w', (∃ n, w' = w.drewN n) → Q .normal a' w') ?_ (fun _ w' hw' h => h w' hw') _ _ _ _ ⟨1, rfl⟩ ?_)
  · intro i o c ho he
    have hi : l[i]? = some o := by simpa using ho
    have := List.all_eq_true.1 hnd o (List.mem_of_getElem? hi)
    simp [noDefer, he] at this
  · have := wpAnyQ_lex (C := fun w' => ∃ n, w' = w.drewN n) (md := .any) hB.1 l 0 (Array.replicate l.toArray.size false) a (by simp) (by simpa using hB.2) h
    simpa using this

end Go.Proofs.Ythbebfjoennmfaa.PPlanTells
