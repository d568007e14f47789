/- For any two numbers and any cut: a number's octets are as many as its groups of seven bits, a greater number has no fewer, and cut off they are too short. No condition beyond the row's own. -/
import Derived.Test.YtmehdghhnmnmiaaFnsWireLong
namespace Go.Proofs.Ytmehdghhnmnmiaa.Pure
open Go.RowKit Go.Proofs.Ytmehdghhnmnmiaa.PWireLong Go.Proofs.YtmehdghhnmnmiaaW.PrintWords Go.Proofs.YtmehdghhnmnmiaaW.PrintLast Go.Proofs.YtmehdghhnmnmiaaW.PrintMore Go.Proofs.Ytmehdghhnmnmiaa.WMath Go.Proofs.Ytmehdghhnmnmiaa.FnsWireLong
set_option linter.unusedVariables false

theorem shr_group (x L : Nat) (h : L ≤ 9) : shr .u64 (x : Int) ((7 * L : Nat) : Int) = ((x / 128 ^ L : Nat) : Int) := by
  unfold shr
  have hm : min ((7 * L : Nat) : Int).toNat IntKind.u64.bits = 7 * L := by
    rw [Int.toNat_natCast]; exact Nat.min_eq_left (by show 7 * L ≤ 64; omega)
  rw [hm, pow7]; simp

theorem long_j0 (k : Nat) (hk : 40 ≤ k) (c : Nat) (hc : c < 256) (s : ByteArray) (n : Nat) (hn : n < 18446744073709551616) (hs : bl s = enc n) :
    tattlelaw01_WireLong.j0 k (c : Int) s false = some true := by
  obtain ⟨k, rfl⟩ : ∃ m, k = m + 1 := ⟨k - 1, by omega⟩
  have hp := enc_pos n
  have h10 := enc_ten hn
  have hsz : s.size = (enc n).length := by rw [← hs, bl_length]
  simp only [tattlelaw01_WireLong.j0]
  have w1 : wrap64 (c : Int) = (c : Int) := by unfold wrap64; omega
  have w3 : Int.tmod (c : Int) (s.size : Int) = ((c % s.size : Nat) : Int) := by
    rw [Int.tmod_eq_emod_of_nonneg (Int.natCast_nonneg c)]; exact (Int.natCast_emod c s.size).symm
  have hm : c % s.size < s.size := Nat.mod_lt _ (by omega)
  rw [w1, w3]
  generalize c % s.size = q at *
  rw [if_neg (by simp), if_neg (by omega), if_pos (by omega), if_pos (by omega), Int.toNat_natCast]
  have hz : (s.extract 0 q).size = q := by simp; omega
  rw [take_ev _ (by omega) 0 k (by omega)]
  have hb : bl (s.extract 0 q) = (enc n).take q := by
    rw [← hs]; simp [bl]
  have ht : takeI (s.extract 0 q) 0 = (0, 0, 3) := by
    unfold takeI
    rw [if_neg (by omega), hb, Int.toNat_zero, List.drop_zero, dec_cut n 0 0 q (by omega) (by simpa using hn) (by omega)]
    rfl
  rw [ht]
  simp only [Option.bind_some]
  rw [if_pos trivial, if_pos trivial, awake_ev k (by omega), Option.bind_some]

theorem WireLong : tattlelaw01_WireLong.Pure := by
  intro a0 a1 a2 w0 w1 w2
  suffices H : ∀ K, 50 ≤ K → tattlelaw01_WireLong.f K a0 a1 a2 = some true from ⟨50, H 50 (Nat.le_refl _)⟩
  intro K hK
  obtain ⟨n, rfl, hn⟩ := u64_nat a0 w0
  obtain ⟨m, rfl, hm⟩ := u64_nat a1 w1
  obtain ⟨c, rfl, hc⟩ := u8_nat a2 w2
  have e1 : mn (n : Int) (m : Int) = ((min n m : Nat) : Int) := by unfold mn; split <;> omega
  have e2 : mx (n : Int) (m : Int) = ((max n m : Nat) : Int) := by unfold mx; split <;> omega
  unfold tattlelaw01_WireLong.f
  rw [e1, e2]
  have hlo : min n m < 18446744073709551616 := by omega
  have hhi : max n m < 18446744073709551616 := by omega
  have hle : min n m ≤ max n m := by omega
  generalize min n m = lo at *
  generalize max n m = hi at *
  obtain ⟨s, h1, h2⟩ := num_one lo hlo K (by omega)
  obtain ⟨t, h3, h4⟩ := num_one hi hhi K (by omega)
  rw [h1, Option.bind_some, h3, Option.bind_some]
  have hs : s.size = (enc lo).length := by rw [← h2, bl_length]
  have ht : t.size = (enc hi).length := by rw [← h4, bl_length]
  have p1 := enc_pos lo
  have p2 := enc_pos hi
  have p3 := enc_ten hhi
  have p4 := enc_mono hle
  have p5 := enc_lt hi
  have p6 := enc_ge hi
  have hj := long_j0 K (by omega) c hc t hi hhi h4
  rw [if_neg (by omega), if_neg (by omega), if_neg (by omega)]
  have tail : (if (t.size : Int) > 1 then (if 0 ≤ (wrap64 (7 * (wrap64 ((t.size : Int) - 1)))) then (tattlelaw01_WireLong.j0 K c t ((shr .u64 (hi : Int) (wrap64 (7 * (wrap64 ((t.size : Int) - 1))))) == 0)) else (none)) else (tattlelaw01_WireLong.j0 K c t false)) = some true := by
    by_cases h1t : (t.size : Int) > 1
    · have w : wrap64 (7 * (wrap64 ((t.size : Int) - 1))) = ((7 * (t.size - 1) : Nat) : Int) := by unfold wrap64; omega
      rw [if_pos h1t, w, if_pos (by omega), shr_group hi (t.size - 1) (by omega)]
      have hge := p6 (by omega)
      rw [← ht] at hge
      have hq : hi / 128 ^ (t.size - 1) ≠ 0 := by
        have := Nat.div_pos hge (Nat.pow_pos (by omega)); omega
      have hb : (((hi / 128 ^ (t.size - 1) : Nat) : Int) == 0) = false := by
        rw [beq_eq_false_iff_ne]; omega
      rw [hb]; exact hj
    · rw [if_neg h1t]; exact hj
  by_cases h10 : (t.size : Int) < 10
  · have w : wrap64 (7 * (t.size : Int)) = ((7 * t.size : Nat) : Int) := by unfold wrap64; omega
    rw [if_pos h10, w, if_pos (by omega), shr_group hi t.size (by omega)]
    have hz : hi / 128 ^ t.size = 0 := Nat.div_eq_of_lt (by rw [ht]; exact p5)
    rw [hz, if_neg (by omega)]; exact tail
  · rw [if_neg h10]; exact tail

end Go.Proofs.Ytmehdghhnmnmiaa.Pure
