/- For any octets, sealed, and any turn of 32 bits that stand beside one another: they are opened just if they are as they were. No condition beyond the row's own. -/
import Derived.Test.YtmehdghhnmnmiaaFnsWireTurns
namespace Go.Proofs.Ytmehdghhnmnmiaa.Pure
open Go.RowKit Go.Proofs.Ytmehdghhnmnmiaa.PWireTurns Go.Proofs.YtmehdghhnmnmiaaW.PrintWords Go.Proofs.YtmehdghhnmnmiaaW.PrintLast Go.Proofs.YtmehdghhnmnmiaaW.PrintMore Go.Proofs.Ytmehdghhnmnmiaa.WMath Go.Proofs.Ytmehdghhnmnmiaa.FnsWireTurns
set_option linter.unusedVariables false

theorem u16_nat (n : Int) (h : (Lit.int .u16 n).wf = true) : ∃ x : Nat, n = (x : Int) ∧ x < 65536 := by
  have : IntKind.u16.min ≤ n ∧ n ≤ IntKind.u16.max := by simpa [Lit.wf] using h
  have e : 0 ≤ n ∧ n ≤ 65535 := by simpa [IntKind.min, IntKind.max, IntKind.bits, IntKind.signed] using this
  exact ⟨n.toNat, by omega, by omega⟩
theorem u32_nat (n : Int) (h : (Lit.int .u32 n).wf = true) : ∃ x : Nat, n = (x : Int) := by
  have : IntKind.u32.min ≤ n ∧ n ≤ IntKind.u32.max := by simpa [Lit.wf] using h
  have e : 0 ≤ n ∧ n ≤ 4294967295 := by simpa [IntKind.min, IntKind.max, IntKind.bits, IntKind.signed] using this
  exact ⟨n.toNat, by omega⟩

theorem turns_l0 (p : Nat) (x : ByteArray) (frm : Nat) (h4 : 4 ≤ x.size) (hl : x.size ≤ 4100) (hx : (openI x).2 = 0) (hf : frm < 8 * x.size) (d : Nat) : ∀ (k i : Nat) (z : ByteArray), i + d = 32 → d + 50 ≤ k → Sofar x z (8 * x.size - frm) i →
    tattlelaw01_WireTurns.l0 k (p : Int) x (frm : Int) z (i : Int) = some true := by
  induction d with
  | zero =>
    intro k i z hi hk hz
    obtain ⟨k, rfl⟩ : ∃ m, k = m + 1 := ⟨k - 1, by omega⟩
    have ho := hz.opens h4 hl hx
    have hzs := hz.1
    simp only [tattlelaw01_WireTurns.l0]
    rw [if_neg (by omega), open_ev z (by omega), Option.bind_some]
    have hb : (((openI z).2 == 0) == (z.toList == x.toList)) = true := by
      by_cases h : z = x
      · have h1 : ((openI z).2 == 0) = true := beq_iff_eq.2 (ho.2 h)
        have h2 : (z.toList == x.toList) = true := by rw [h]; exact beq_self_eq_true _
        rw [h1, h2]; rfl
      · have h1 : ((openI z).2 == 0) = false := beq_eq_false_iff_ne.2 (fun e => h (ho.1 e))
        have h2 : (z.toList == x.toList) = false := beq_eq_false_iff_ne.2 (fun e => h (by rw [toList_eq, toList_eq] at e; exact bl_inj e))
        rw [h1, h2]; rfl
    rw [if_pos hb, awake_ev k (by omega), Option.bind_some]
  | succ d ih =>
    intro k i z hi hk hz
    obtain ⟨k, rfl⟩ : ∃ m, k = m + 1 := ⟨k - 1, by omega⟩
    have hzs := hz.1
    simp only [tattlelaw01_WireTurns.l0]
    rw [if_pos (by omega), if_pos (by omega), wrap_nat (by omega)]
    by_cases hp : p / 2 ^ i % 2 = 1
    · rw [if_pos ((pattern_bit p i (by omega)).2 hp)]
      have hw : wrap64 ((frm : Int) + (i : Int)) = ((frm + i : Nat) : Int) := by unfold wrap64; omega
      rw [hw]
      unfold tattleref01_Turn.f
      rw [if_pos (by omega), if_neg (by omega)]
      by_cases hpast : 8 * (z.size : Int) ≤ ((frm + i : Nat) : Int)
      · rw [if_pos hpast, Option.bind_some]
        exact ih k (i + 1) z (by omega) (by omega) hz.keep
      · rw [if_neg hpast, Option.bind_some, Int.toNat_natCast]
        exact ih k (i + 1) _ (by omega) (by omega) (hz.turn (by omega) (by omega) rfl)
    · rw [if_neg (fun e => hp ((pattern_bit p i (by omega)).1 e))]
      exact ih k (i + 1) z (by omega) (by omega) hz.keep

theorem WireTurns : tattlelaw01_WireTurns.Pure := by
  intro a0 a1 a2 w0 w1 w2
  suffices H : ∀ K, 100 ≤ K → tattlelaw01_WireTurns.f K a0 a1 a2 = some true from ⟨100, H 100 (Nat.le_refl _)⟩
  intro K hK
  obtain ⟨at_, rfl, hat⟩ := u16_nat a1 w1
  obtain ⟨p, rfl⟩ := u32_nat a2 w2
  have s1 := few_size a0
  unfold tattlelaw01_WireTurns.f
  rw [few_ev, Option.bind_some]
  generalize few a0 = s at *
  obtain ⟨x, h1, h2⟩ := seal_ev s (by omega)
  have hx : x.size = s.size + 4 := by rw [← bl_length x, h2, List.length_append, bl_length]; rfl
  have ho := open_sealed s x (by omega) h2
  rw [h1, Option.bind_some, open_ev x (by omega), Option.bind_some, ho]
  simp only []
  have hf : ((x.size : Int) != wrap64 ((s.size : Int) + 4)) = false := by
    rw [bne_eq_false_iff_eq]; unfold wrap64; omega
  rw [if_pos trivial, if_pos trivial, if_pos trivial, hf]
  obtain ⟨K, rfl⟩ : ∃ m, K = m + 1 := ⟨K - 1, by omega⟩
  simp only [tattlelaw01_WireTurns.j0]
  have w8 : wrap64 (8 * (x.size : Int)) = ((8 * x.size : Nat) : Int) := by unfold wrap64; omega
  have wa : wrap64 (at_ : Int) = (at_ : Int) := by unfold wrap64; omega
  have wm : Int.tmod (at_ : Int) ((8 * x.size : Nat) : Int) = ((at_ % (8 * x.size) : Nat) : Int) := by
    rw [Int.tmod_eq_emod_of_nonneg (Int.natCast_nonneg at_)]; exact (Int.natCast_emod at_ (8 * x.size)).symm
  rw [if_neg (by simp), w8, if_neg (by omega), wa, wm]
  have e := turns_l0 p x (at_ % (8 * x.size)) (by omega) (by omega) (by rw [ho]) (Nat.mod_lt _ (by omega)) 32 K 0 x (by omega) (by omega) (Sofar.start x _)
  rw [Int.natCast_zero] at e
  exact e

end Go.Proofs.Ytmehdghhnmnmiaa.Pure
