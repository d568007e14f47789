/- For whatever is saved, laid down, and any turn of 32 bits that stand beside one another: it is read just if it is as it was, and no beginning of it is read. No condition beyond the row's own. -/
import Derived.Test.YtldeanlnfhgjfaaFnsDiskTurns
namespace Go.Proofs.Ytldeanlnfhgjfaa.Pure
open Go.RowKit Go.Proofs.Ytldeanlnfhgjfaa.PDiskTurns Go.Proofs.YtldeanlnfhgjfaaW.PrintWords Go.Proofs.YtldeanlnfhgjfaaW.PrintLast Go.Proofs.YtldeanlnfhgjfaaW.PrintMore Go.Proofs.Ytldeanlnfhgjfaa.WMath Go.Proofs.Ytldeanlnfhgjfaa.FnsDiskTurns
set_option linter.unusedVariables false

theorem err_ten (z : ByteArray) (h4 : 4 ≤ z.size) (hl : z.size ≤ 4100) (h : (openI z).2 ≠ 0) : (openI z).2 = 10 ∧ par z = none ∧ errI z = 10 := by
  have h10 : (openI z).2 = 10 := by
    unfold openI at h ⊢
    rw [if_neg (by omega), if_neg (by omega)] at h ⊢
    split at h
    · exact absurd rfl h
    · rename_i hc; rw [if_neg hc]
  refine ⟨h10, ?_, ?_⟩
  · cases hp : par z with
    | none => rfl
    | some s => obtain ⟨x, hx, _⟩ := par_open hp; rw [hx] at h; exact absurd rfl h
  · unfold errI; rw [if_neg h, h10]

theorem turn_ev (z : ByteArray) (m n : Nat) (hm : z.size = m) (hz : m ≤ 100) : tattleref01_Turn.f z (n : Int) = if 8 * m ≤ n then some z else some (turned z n) := by
  subst hm
  have h1 : z.size < 1000000 := by omega
  have h2 : ¬ ((n : Int) < 0) := by omega
  unfold tattleref01_Turn.f
  rw [if_pos h1, if_neg h2, Int.toNat_natCast]
  by_cases h : 8 * z.size ≤ n
  · have h3 : 8 * (z.size : Int) ≤ (n : Int) := by omega
    rw [if_pos h, if_pos h3]
  · have h3 : ¬ (8 * (z.size : Int) ≤ (n : Int)) := by omega
    rw [if_neg h, if_neg h3]
theorem mul_zero_not (m : Nat) (h : 4 ≤ m) : ¬ (((8 * m : Nat) : Int) = 0) := by omega
theorem wrap_mul (m : Nat) (h : m ≤ 55) : wrap64 (8 * (m : Int)) = ((8 * m : Nat) : Int) := by unfold wrap64; omega
theorem wrap_add (f i m : Nat) (hm : m ≤ 55) (hf : f < 8 * m) (hi : i < 32) : wrap64 ((f : Int) + (i : Int)) = ((f + i : Nat) : Int) := by unfold wrap64; omega

theorem l0_step (x z : ByteArray) (hzs : z.size = x.size) (h4 : 4 ≤ x.size) (h55 : x.size ≤ 55) (at_ p i k : Nat) (hat : at_ < 65536) (hi : i < 32) (q b c e o : Int) :
    tattlelaw16_DiskTurns.l0 (k + 1) (at_ : Int) (p : Int) x z (i : Int) q b c e o =
      if p / 2 ^ i % 2 = 1 then (if 8 * x.size ≤ at_ % (8 * x.size) + i then tattlelaw16_DiskTurns.l0 k (at_ : Int) (p : Int) x z ((i + 1 : Nat) : Int) q b c e o else tattlelaw16_DiskTurns.l0 k (at_ : Int) (p : Int) x (turned z (at_ % (8 * x.size) + i)) ((i + 1 : Nat) : Int) q b c e o) else tattlelaw16_DiskTurns.l0 k (at_ : Int) (p : Int) x z ((i + 1 : Nat) : Int) q b c e o := by
  have wa : wrap64 (at_ : Int) = (at_ : Int) := by unfold wrap64; omega
  have w1 : wrap64 ((i : Int) + 1) = ((i + 1 : Nat) : Int) := wrap_nat (by omega)
  have w8 := wrap_mul x.size h55
  have wm : Int.tmod (at_ : Int) ((8 * x.size : Nat) : Int) = ((at_ % (8 * x.size) : Nat) : Int) := by
    rw [Int.tmod_eq_emod_of_nonneg (Int.natCast_nonneg at_)]; exact (Int.natCast_emod at_ (8 * x.size)).symm
  have hlt : at_ % (8 * x.size) < 8 * x.size := Nat.mod_lt _ (Nat.mul_pos (by decide) (Nat.lt_of_lt_of_le (by decide) h4))
  have hne := mul_zero_not x.size h4
  have hw := wrap_add _ i x.size h55 hlt hi
  have ht := turn_ev z x.size (at_ % (8 * x.size) + i) hzs (Nat.le_trans h55 (by decide))
  have i1 : (i : Int) < 32 := Int.ofNat_lt.2 hi
  have i0 : 0 ≤ (i : Int) := Int.natCast_nonneg i
  have hbit := pattern_bit p i hi
  simp only [tattlelaw16_DiskTurns.l0]
  rw [if_pos i1, if_pos i0, w1]
  by_cases hp : p / 2 ^ i % 2 = 1
  · rw [if_pos (hbit.2 hp), if_pos hp, w8, if_neg hne, wa, wm, hw, ht]
    by_cases hpast : 8 * x.size ≤ at_ % (8 * x.size) + i
    · rw [if_pos hpast, if_pos hpast, Option.bind_some]
    · rw [if_neg hpast, if_neg hpast, Option.bind_some]
  · rw [if_neg (fun e => hp (hbit.1 e)), if_neg hp]

set_option maxHeartbeats 1000000 in
theorem turns_l0 (at_ p : Nat) (hat : at_ < 65536) (s : S) (hs : good s) (d : Nat) : ∀ (k i : Nat) (z : ByteArray), i + d = 32 → d + 200 ≤ k → Sofar (lay s) z (8 * (lay s).size - at_ % (8 * (lay s).size)) i →
    tattlelaw16_DiskTurns.l0 k (at_ : Int) (p : Int) (lay s) z (i : Int) (s.q : Int) (s.b : Int) (s.i : Int) (s.e : Int) s.o = some true := by
  have hsz := lay_size s hs
  have hsz2 := lay_le s hs
  have h4 : 4 ≤ (lay s).size := by omega
  have hx0 : (openI (lay s)).2 = 0 := by
    obtain ⟨x, hx, _⟩ := par_open (par_lay s hs)
    rw [hx]
  have wa : wrap64 (at_ : Int) = (at_ : Int) := by unfold wrap64; omega
  have hcut := par_torn s hs (at_ % (lay s).size) (Nat.mod_lt _ (by omega))
  have hpl := par_lay s hs
  generalize hX : lay s = x at *
  clear hX
  induction d with
  | zero =>
    intro k i z hi hk hz
    obtain ⟨k, rfl⟩ : ∃ m, k = m + 1 := ⟨k - 1, by omega⟩
    have ho := hz.opens h4 (by omega) hx0
    have hzs := hz.1
    have wm : Int.tmod (at_ : Int) (x.size : Int) = ((at_ % x.size : Nat) : Int) := by
      rw [Int.tmod_eq_emod_of_nonneg (Int.natCast_nonneg at_)]; exact (Int.natCast_emod at_ x.size).symm
    have hlt : at_ % x.size < x.size := Nat.mod_lt _ (by omega)
    simp only [tattlelaw16_DiskTurns.l0]
    have hk' : 60 ≤ k := by omega
    have hz' : z.size < 4611686018427387904 := by omega
    rw [if_neg (by omega), parse_ev z hz' k hk', Option.bind_some, if_neg (by omega), wa, wm, if_pos (by omega), if_pos (by omega), Int.toNat_natCast]
    have hs2 : (x.extract 0 (at_ % x.size)).size < 4611686018427387904 := by simp; omega
    have he2 : errI (x.extract 0 (at_ % x.size)) ≠ 0 := fun e => ((errI_zero _).1 e) hcut
    rw [parse_ev _ hs2 k hk', Option.bind_some]
    simp only []
    rw [if_neg he2]
    have ka : 100 ≤ k := by omega
    by_cases hzx : z = x
    · subst hzx
      have he : errI z = 0 := (errI_zero z).2 (by rw [hpl]; simp)
      rw [if_pos rfl, hpl, he]
      simp only [sv]
      rw [if_pos (by simp), if_pos trivial, awake_ev k ka, Option.bind_some]
    · obtain ⟨_, e1, e2⟩ := err_ten z (by omega) (by omega) (fun e => hzx (ho.1 e))
      rw [if_neg (fun e => hzx (tl_eq.1 e)), e1, e2]
      simp only [sv]
      rw [if_pos (by decide), if_pos trivial, awake_ev k ka, Option.bind_some]
  | succ d ih =>
    intro k i z hi hk hz
    obtain ⟨k, rfl⟩ : ∃ m, k = m + 1 := ⟨k - 1, by omega⟩
    have hzs := hz.1
    have hi' : i + 1 + d = 32 := by omega
    have hk' : d + 200 ≤ k := by omega
    rw [l0_step x z hzs h4 (by omega) at_ p i k (by omega) (by omega)]
    by_cases hp : p / 2 ^ i % 2 = 1
    · rw [if_pos hp]
      by_cases hpast : 8 * x.size ≤ at_ % (8 * x.size) + i
      · rw [if_pos hpast]
        exact ih k (i + 1) z hi' hk' hz.keep
      · rw [if_neg hpast]
        have t1 : i < 32 := Nat.lt_of_lt_of_eq (Nat.lt_succ_of_le (Nat.le_add_right i d)) (by rw [← hi]; rfl)
        exact ih k (i + 1) _ hi' hk' (hz.turn t1 (Nat.lt_of_not_le hpast) rfl)
    · rw [if_neg hp]
      exact ih k (i + 1) z hi' hk' hz.keep

theorem DiskTurns (a0_0 a0_1 a0_2 a0_3 a0_4 a1 a2 : Int)
    (w2 : (Lit.int .u64 a0_0).wf = true) (w3 : (Lit.int .u64 a0_1).wf = true) (w4 : (Lit.int .u64 a0_2).wf = true) (w5 : (Lit.int .u64 a0_3).wf = true) (w6 : (Lit.int .i64 a0_4).wf = true) (w7 : (Lit.int .u16 a1).wf = true) (w8 : (Lit.int .u32 a2).wf = true) :
    ∃ k, tattlelaw16_DiskTurns.f k a0_0 a0_1 a0_2 a0_3 a0_4 a1 a2 = some true := by
  suffices H : ∀ K, 300 ≤ K → tattlelaw16_DiskTurns.f K a0_0 a0_1 a0_2 a0_3 a0_4 a1 a2 = some true from ⟨300, H 300 (Nat.le_refl _)⟩
  intro K hK
  obtain ⟨K, rfl⟩ : ∃ m, K = m + 1 := ⟨K - 1, by omega⟩
  obtain ⟨q, rfl, hq⟩ := u64_nat a0_0 w2
  obtain ⟨b, rfl, hb⟩ := u64_nat a0_1 w3
  obtain ⟨i, rfl, hi⟩ := u64_nat a0_2 w4
  obtain ⟨e, rfl, he⟩ := u64_nat a0_3 w5
  obtain ⟨at_, rfl, hat⟩ := u16_nat a1 w7
  obtain ⟨p, rfl⟩ := u32_nat a2 w8
  have y1 : 100 ≤ K + 1 := by omega
  have y2 : 100 ≤ K := by omega
  have y3 : 32 + 200 ≤ K := by omega
  unfold tattlelaw16_DiskTurns.f
  by_cases hm : -1 ≤ a0_4 ∧ a0_4 ≤ 63
  · have hs : good ⟨q, b, i, e, a0_4⟩ := ⟨hq, hb, hi, he, hm.1, hm.2⟩
    have h1 := lay_ev ⟨q, b, i, e, a0_4⟩ hs (K + 1) y1
    simp only [] at h1
    have hsz := lay_size _ hs
    have hf : (((lay ⟨q, b, i, e, a0_4⟩).size : Int) == 0) = false := by rw [beq_eq_false_iff_ne]; omega
    rw [h1, Option.bind_some]
    simp only []
    rw [if_pos trivial, hf]
    simp only [tattlelaw16_DiskTurns.j0]
    rw [if_neg (by simp)]
    have h2 := turns_l0 at_ p hat ⟨q, b, i, e, a0_4⟩ hs 32 K 0 (lay ⟨q, b, i, e, a0_4⟩) rfl y3 (Sofar.start _ _)
    rw [Int.natCast_zero] at h2
    exact h2
  · rw [lay_not _ _ _ _ _ hm (K + 1), Option.bind_some]
    simp only []
    rw [if_neg (by decide)]
    simp only [tattlelaw16_DiskTurns.j0]
    rw [if_pos trivial, if_pos trivial, awake_ev K y2, Option.bind_some]

end Go.Proofs.Ytldeanlnfhgjfaa.Pure
