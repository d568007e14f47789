/- For whatever was written, and torn, one behind the other: what is read is the last one that was whole, and the numbers never fall. No condition beyond the row's own. -/
import Derived.Test.YtldeanlnfhgjfaaFnsDiskSteps
namespace Go.Proofs.Ytldeanlnfhgjfaa.Pure
open Go.RowKit Go.Proofs.Ytldeanlnfhgjfaa.PDiskSteps Go.Proofs.YtldeanlnfhgjfaaW.PrintWords Go.Proofs.YtldeanlnfhgjfaaW.PrintLast Go.Proofs.YtldeanlnfhgjfaaW.PrintMore Go.Proofs.Ytldeanlnfhgjfaa.WMath Go.Proofs.Ytldeanlnfhgjfaa.FnsDiskSteps
set_option linter.unusedVariables false

/-- how it stands behind so many steps: the last one that was whole is what is read -/
def Inv (A B : ByteArray) (is : Bool) (n : Nat) (b i e o : Int) : Prop :=
  A.size ≤ 100 ∧ B.size ≤ 100 ∧ (match readD A B with
    | none => is = false
    | some w => is = true ∧ w.q ≤ n ∧ (w.b : Int) = b ∧ (w.i : Int) = i ∧ (w.e : Int) = e ∧ w.o = o)
theorem Inv.more {A B : ByteArray} {is : Bool} {n : Nat} {b i e o : Int} (h : Inv A B is n b i e o) : Inv A B is (n + 1) b i e o := by
  obtain ⟨h1, h2, h3⟩ := h
  refine ⟨h1, h2, ?_⟩
  cases hr : readD A B with
  | none => rw [hr] at h3; exact h3
  | some w => rw [hr] at h3; simp only [] at h3 ⊢; exact ⟨h3.1, by omega, h3.2.2⟩

theorem may16 (a b c d e : Int) : tattleref16_May.f a b c d e = some (decide (-1 ≤ e ∧ e ≤ 63)) := by
  unfold tattleref16_May.f
  by_cases h : -1 ≤ e
  · rw [if_pos h]; congr 1
    by_cases h2 : e ≤ 63
    · rw [decide_eq_true h2, decide_eq_true ⟨h, h2⟩]
    · rw [decide_eq_false h2, decide_eq_false (fun x => h2 x.2)]
  · rw [if_neg h, decide_eq_false (fun x => h x.1)]

def Wf (x : S26) : Prop := (Lit.int .u64 x.f0).wf = true ∧ (Lit.int .u64 x.f1).wf = true ∧ (Lit.int .u64 x.f2).wf = true ∧ (Lit.int .u64 x.f3).wf = true ∧ (Lit.int .i64 x.f4).wf = true

/-- one step, whatever the cut -/
theorem step (A B : ByteArray) (is : Bool) (n : Nat) (hn : n ≤ 20) (lb li le lo : Int) (hI : Inv A B is n lb li le lo) (s : S) (hs : good s) (cut : Nat) (k : Nat) (hk : 200 ≤ k) :
    ∃ X Y : ByteArray × ByteArray, disk_Tear.f k A B (s.q : Int) (s.b : Int) (s.i : Int) (s.e : Int) s.o (cut : Int) = some (X.1, X.2, 0) ∧
      disk_Write.f k A B (s.q : Int) (s.b : Int) (s.i : Int) (s.e : Int) s.o = some (Y.1, Y.2, 0) ∧
      (X = Y → Inv X.1 X.2 true (n + 1) (s.b : Int) (s.i : Int) (s.e : Int) s.o ∧ (sv (readD A B)).1 ≤ (sv (readD X.1 X.2)).1) ∧
      (X ≠ Y → Inv X.1 X.2 is (n + 1) lb li le lo ∧ readD X.1 X.2 = readD A B) := by
  obtain ⟨h1, h2, h3⟩ := hI
  have hf : ¬ full (readD A B) := by
    rintro ⟨w, hw, hq⟩
    rw [hw] at h3
    simp only [] at h3
    omega
  have y2 : A.size < 4611686018427387904 := by omega
  have y3 : B.size < 4611686018427387904 := by omega
  have t1 := tear_ev A B y2 y3 s hs cut k hk hf
  have t2 := tear_ev A B y2 y3 s hs 9223372036854775807 k hk hf
  have hg := next_good s hs A B hf
  have hl := lay_le _ hg
  have c1 := torn_reads A B s hs cut hf
  have c2 := (torn_reads A B s hs 9223372036854775807 hf).1 (by omega)
  have hpast : (lay (nextS s (readD A B))).size ≤ cut → tear A B s cut = tear A B s 9223372036854775807 := fun h => tear_past A B _ _ _ h (by omega)
  have hsz : ∀ c, (tear A B s c).1.size ≤ 100 ∧ (tear A B s c).2.size ≤ 100 := by
    intro c
    unfold tear
    split <;> simp only [] <;> constructor <;> first | omega | (simp; omega)
  have z1 := hsz cut
  have hq : (nextS s (readD A B)).q ≤ n + 1 ∧ (sv (readD A B)).1 ≤ ((nextS s (readD A B)).q : Int) := by
    cases hr : readD A B with
    | none => show 0 + 1 ≤ n + 1 ∧ (0 : Int) ≤ ((0 + 1 : Nat) : Int); omega
    | some w =>
      rw [hr] at h3
      simp only [] at h3
      show w.q + 1 ≤ n + 1 ∧ (w.q : Int) ≤ ((w.q + 1 : Nat) : Int)
      omega
  refine ⟨tear A B s cut, tear A B s 9223372036854775807, t1, by rw [write_ev]; exact t2, ?_, ?_⟩
  · intro hxy
    rw [hxy]
    have z2 := hsz 9223372036854775807
    refine ⟨⟨z2.1, z2.2, ?_⟩, ?_⟩
    · rw [c2]; exact ⟨rfl, hq.1, rfl, rfl, rfl, rfl⟩
    · rw [c2]; exact hq.2
  · intro hxy
    have hlt : cut < (lay (nextS s (readD A B))).size := by
      rcases Nat.lt_or_ge cut (lay (nextS s (readD A B))).size with h | h
      · exact h
      · exact absurd (hpast h) hxy
    have hr := c1.2 hlt
    refine ⟨⟨z1.1, z1.2, ?_⟩, hr⟩
    rw [hr]
    cases hr2 : readD A B with
    | none => rw [hr2] at h3; exact h3
    | some w => rw [hr2] at h3; simp only [] at h3 ⊢; exact ⟨h3.1, by omega, h3.2.2⟩

theorem steps_l0 (l : List S26) (hl : l.length ≤ maxLen) (hw : ∀ x ∈ l, Wf x) (c : List Int) (hc : c.length ≤ maxLen) (hcw : ∀ x ∈ c, (Lit.int .u8 x).wf = true) (d : Nat) : ∀ (k i : Nat) (is : Bool) (A B : ByteArray) (la lb li le lo : Int), i + d = 21 → 6 * d + 300 ≤ k → Inv A B is i lb li le lo →
    tattlelaw16_DiskSteps.l0 k l c is (i : Int) A B la lb li le lo = some true := by
  induction d with
  | zero =>
    intro k i is A B la lb li le lo hi hk hI
    obtain ⟨k, rfl⟩ : ∃ m, k = m + 2 := ⟨k - 2, by omega⟩
    have ka : 100 ≤ k := by omega
    have hf : decide ((i : Int) < 20) = false := decide_eq_false (by omega)
    simp only [tattlelaw16_DiskSteps.l0]
    rw [hf]
    simp only [tattlelaw16_DiskSteps.j1]
    by_cases h1 : (i : Int) < (l.length : Int)
    · rw [if_pos h1, if_neg (by simp), awake_ev k ka, Option.bind_some]
    · rw [if_neg h1, if_neg (by simp), awake_ev k ka, Option.bind_some]
  | succ d ih =>
    intro k i is A B la lb li le lo hi hk hI
    obtain ⟨k, rfl⟩ : ∃ m, k = m + 6 := ⟨k - 6, by omega⟩
    have hk0 : 6 * d + 300 ≤ k := by omega
    have hk1 : 6 * d + 300 ≤ k + 4 := by omega
    have hi' : i + 1 + d = 21 := by omega
    have ka : 100 ≤ k + 4 := by omega
    have k2 : 200 ≤ k + 2 := by omega
    have k3 : 60 ≤ k := by omega
    simp only [tattlelaw16_DiskSteps.l0]
    by_cases h1 : (i : Int) < (l.length : Int)
    · rw [if_pos h1]
      by_cases h20 : (i : Int) < 20
      · rw [decide_eq_true h20]
        simp only [tattlelaw16_DiskSteps.j1]
        have hin : i < l.length := by omega
        have hrd : rd_T26 l (i : Int) = l[i] := by simp [rd_T26, List.getD, hin]
        have hwf := hw l[i] (List.getElem_mem hin)
        have hw1 : wrap64 ((i : Int) + 1) = ((i + 1 : Nat) : Int) := wrap_nat (by omega)
        rw [if_pos trivial, if_pos (by omega), if_pos h1, hrd, may16, Option.bind_some, hw1]
        by_cases hm : -1 ≤ l[i].f4 ∧ l[i].f4 ≤ 63
        · rw [if_pos (decide_eq_true hm)]
          obtain ⟨q, e0, b0⟩ := u64_nat _ hwf.1
          obtain ⟨b, e1, b1⟩ := u64_nat _ hwf.2.1
          obtain ⟨ic, e2, b2⟩ := u64_nat _ hwf.2.2.1
          obtain ⟨e, e3, b3⟩ := u64_nat _ hwf.2.2.2.1
          have hs : good ⟨q, b, ic, e, l[i].f4⟩ := ⟨b0, b1, b2, b3, hm.1, hm.2⟩
          -- whatever the cut
          have rest : ∀ (cut : Nat), tattlelaw16_DiskSteps.j3 (k + 3) l c is (i : Int) (cut : Int) A B la lb li le lo = some true := by
            intro cut
            obtain ⟨X, Y, t1, t2, c1, c2⟩ := step A B is i (by omega) lb li le lo hI ⟨q, b, ic, e, l[i].f4⟩ hs cut (k + 2) k2
            simp only [] at t1 t2
            simp only [tattlelaw16_DiskSteps.j3]
            rw [if_pos (by omega), if_pos h1, hrd, e0, e1, e2, e3, t1, t2, Option.bind_some, Option.bind_some]
            simp only []
            rw [if_pos trivial]
            simp only [tattlelaw16_DiskSteps.j4]
            rw [if_neg (by simp)]
            have hA2 : A.size < 4611686018427387904 := by have := hI.1; omega
            have hB2 : B.size < 4611686018427387904 := by have := hI.2.1; omega
            by_cases hxy : X = Y
            · obtain ⟨g1, g2⟩ := c1 hxy
              have hX1 : X.1.size < 4611686018427387904 := by have := g1.1; omega
              have hX2 : X.2.size < 4611686018427387904 := by have := g1.2.1; omega
              rw [if_pos ((pair_eq _ _ _ _).2 hxy), if_pos (by omega), if_pos h1, hrd, e0, e1, e2, e3]
              simp only [tattlelaw16_DiskSteps.j5]
              rw [read_ev A B hA2 hB2 k k3, read_ev X.1 X.2 hX1 hX2 k k3, Option.bind_some, Option.bind_some]
              have g3 := g1.2.2
              generalize hv : sv (readD A B) = v at g2 ⊢
              cases hr : readD X.1 X.2 with
              | none => rw [hr] at g3; simp at g3
              | some w =>
                rw [hr] at g3 g2
                simp only [] at g3
                rw [show sv (some w) = ((w.q : Int), (w.b : Int), (w.i : Int), (w.e : Int), w.o) from rfl] at g2 ⊢
                simp only [] at g2 ⊢
                obtain ⟨_, _, z1, z2, z3, z4⟩ := g3
                rw [if_neg (by simp), if_neg (by omega), if_pos trivial, if_pos z1, if_pos z2, if_pos z3, if_pos z4, hw1]
                exact ih k (i + 1) true X.1 X.2 _ _ _ _ _ hi' hk0 g1
            · obtain ⟨g1, g2⟩ := c2 hxy
              have hX1 : X.1.size < 4611686018427387904 := by have := g1.1; omega
              have hX2 : X.2.size < 4611686018427387904 := by have := g1.2.1; omega
              rw [if_neg (fun h => hxy ((pair_eq _ _ _ _).1 h))]
              simp only [tattlelaw16_DiskSteps.j5]
              rw [read_ev A B hA2 hB2 k k3, read_ev X.1 X.2 hX1 hX2 k k3, Option.bind_some, Option.bind_some, g2]
              have g3 := g1.2.2
              rw [g2] at g3
              cases hr : readD A B with
              | none =>
                rw [hr] at g3
                simp only [] at g3
                subst g3
                rw [show sv none = ((0 : Int), (0 : Int), (0 : Int), (0 : Int), (0 : Int)) from rfl]
                simp only []
                rw [if_neg (by simp), if_neg (by omega), if_neg (by simp), hw1]
                exact ih k (i + 1) false X.1 X.2 _ _ _ _ _ hi' hk0 g1
              | some w =>
                rw [hr] at g3
                simp only [] at g3
                obtain ⟨z0, _, z1, z2, z3, z4⟩ := g3
                subst z0
                rw [show sv (some w) = ((w.q : Int), (w.b : Int), (w.i : Int), (w.e : Int), w.o) from rfl]
                simp only []
                rw [if_neg (by simp), if_neg (by omega), if_pos trivial, if_pos z1, if_pos z2, if_pos z3, if_pos z4, hw1]
                exact ih k (i + 1) true X.1 X.2 _ _ _ _ _ hi' hk0 g1
          by_cases hci : (i : Int) < (c.length : Int)
          · rw [if_pos hci]
            have hcin : i < c.length := by omega
            have hcr : rd c (i : Int) = c[i] := by simp [rd, List.getD, hcin]
            obtain ⟨cv, ec, hcv⟩ := u8_nat c[i] (hcw _ (List.getElem_mem hcin))
            have hwc : wrap64 (cv : Int) = (cv : Int) := by unfold wrap64; omega
            simp only [tattlelaw16_DiskSteps.j2]
            rw [hcr, ec, hwc]
            by_cases h3 : Int.tmod (cv : Int) 3 > 0
            · rw [decide_eq_true h3, if_pos rfl, if_pos (by omega), if_pos hci]; exact rest cv
            · rw [decide_eq_false h3, if_neg (by simp)]; exact rest 200
          · rw [if_neg hci]
            simp only [tattlelaw16_DiskSteps.j2]
            rw [if_neg (by simp)]; exact rest 200
        · rw [if_neg (by simpa using hm)]
          exact ih (k + 4) (i + 1) is A B la lb li le lo hi' hk1 hI.more
      · rw [decide_eq_false h20]
        simp only [tattlelaw16_DiskSteps.j1]
        rw [if_neg (by simp), awake_ev (k + 4) ka, Option.bind_some]
    · rw [if_neg h1]
      simp only [tattlelaw16_DiskSteps.j1]
      rw [if_neg (by simp), awake_ev (k + 4) ka, Option.bind_some]

theorem DiskSteps (l0 : List S26) (l1 : List Int) (w0 : l0.length ≤ maxLen) (w1 : ∀ x ∈ l0, (Lit.int .u64 x.f0).wf = true ∧ (Lit.int .u64 x.f1).wf = true ∧ (Lit.int .u64 x.f2).wf = true ∧ (Lit.int .u64 x.f3).wf = true ∧ (Lit.int .i64 x.f4).wf = true) (w2 : l1.length ≤ maxLen) (w3 : ∀ x ∈ l1, (Lit.int .u8 x).wf = true) :
    ∃ k, tattlelaw16_DiskSteps.f k l0 l1 = some true := by
  suffices H : ∀ K, 500 ≤ K → tattlelaw16_DiskSteps.f K l0 l1 = some true from ⟨500, H 500 (Nat.le_refl _)⟩
  intro K hK
  have hp : par (⟨#[]⟩ : ByteArray) = none := by
    cases h : par (⟨#[]⟩ : ByteArray) with
    | none => rfl
    | some s =>
      obtain ⟨g1, g2⟩ := (par_iff _ _).1 h
      have := congrArg List.length g2
      rw [layL_len s g1] at this
      simp [bl] at this
  have hr : readD (⟨#[]⟩ : ByteArray) (⟨#[]⟩ : ByteArray) = none := by unfold readD newest; rw [hp]; rfl
  have hI : Inv (⟨#[]⟩ : ByteArray) (⟨#[]⟩ : ByteArray) false 0 0 0 0 0 := ⟨by simp [ByteArray.size], by simp [ByteArray.size], by rw [hr]⟩
  have e := steps_l0 l0 w0 w1 l1 w2 w3 21 K 0 false _ _ 0 0 0 0 0 rfl (by omega) hI
  rw [Int.natCast_zero] at e
  exact e

end Go.Proofs.Ytldeanlnfhgjfaa.Pure
