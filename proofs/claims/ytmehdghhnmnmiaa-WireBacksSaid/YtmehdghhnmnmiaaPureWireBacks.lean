/- For any number, text, and what stands ahead and behind: what is laid down is taken, and what is taken, laid down, stands as it did. No condition beyond the row's own. -/
import Derived.Test.YtmehdghhnmnmiaaFnsWireBacks
namespace Go.Proofs.Ytmehdghhnmnmiaa.Pure
open Go.RowKit Go.Proofs.Ytmehdghhnmnmiaa.PWireBacks Go.Proofs.YtmehdghhnmnmiaaW.PrintWords Go.Proofs.YtmehdghhnmnmiaaW.PrintLast Go.Proofs.YtmehdghhnmnmiaaW.PrintMore Go.Proofs.Ytmehdghhnmnmiaa.WMath Go.Proofs.Ytmehdghhnmnmiaa.FnsWireBacks
set_option linter.unusedVariables false

theorem bl_extract (s : ByteArray) (a b : Nat) : bl (s.extract a b) = ((bl s).take b).drop a := by
  simp [bl, List.drop_take]

theorem takeI_mid (a b : ByteArray) (x : ByteArray) (n : Nat) (hn : n < 18446744073709551616) (hx : bl x = enc n) :
    takeI ((a ++ x) ++ b) (a.size : Int) = ((n : Int), ((a.size + x.size : Nat) : Int), 0) := by
  have hs : (a ++ x ++ b).size = a.size + x.size + b.size := by rw [ByteArray.size_append, ByteArray.size_append]
  unfold takeI
  rw [if_neg (by rw [hs]; omega), Int.toNat_natCast]
  have hd : (bl (a ++ x ++ b)).drop a.size = enc n ++ bl b := by
    rw [bl_append, bl_append, hx, List.append_assoc, ← bl_length a, List.drop_left]
  have hl : x.size = (enc n).length := by rw [← hx, bl_length]
  rw [hd, dec_enc n 0 0 (bl b) (by omega) (by simpa using hn) (by omega)]
  simp [tri, hl]

theorem backs_j1 (s : ByteArray) (hs : s.size ≤ 400) (k : Nat) (hk : 40 ≤ k) : tattlelaw01_WireBacks.j1 k s = some true := by
  obtain ⟨k, rfl⟩ : ∃ m, k = m + 1 := ⟨k - 1, by omega⟩
  simp only [tattlelaw01_WireBacks.j1]
  rw [take_ev s (by omega) 0 k (by omega), Option.bind_some]
  by_cases h : (takeI s 0).2.2 = 0
  · rw [if_pos h]
    have e0 : takeI s 0 = tri 0 (dec 0 0 (bl s)) := by unfold takeI; rw [if_neg (by omega), Int.toNat_zero, List.drop_zero]
    rw [e0] at h ⊢
    obtain ⟨m, u, e, hd⟩ : ∃ m u e, dec 0 0 (bl s) = (m, u, e) := ⟨_, _, _, rfl⟩
    rw [hd] at h ⊢
    have he : e = 0 := by simpa [tri] using h
    subst he
    obtain ⟨n, e1, e2, e3, e4, _, e6⟩ := dec_ok _ 0 0 m u (by omega) hd
    obtain rfl : m = n := by simpa using e1
    obtain rfl : u = (enc m).length := by omega
    have hp := enc_pos m
    rw [bl_length] at e4
    have hm : m < 18446744073709551616 := by simpa using e6
    obtain ⟨x, h1, h2⟩ := num_one m hm k (by omega)
    have ht : tri 0 (m, (enc m).length, 0) = ((m : Int), ((enc m).length : Int), 0) := by simp [tri]
    rw [ht]
    simp only []
    rw [if_pos (by omega), if_pos (by omega), h1, Option.bind_some, if_pos (by omega)]
    have hx : x = s.extract 0 ((enc m).length : Int).toNat := by
      apply bl_inj
      rw [bl_extract, h2, Int.toNat_natCast, List.drop_zero, e3]
    rw [← hx, if_pos rfl, awake_ev k (by omega), Option.bind_some]
  · rw [if_neg h, awake_ev k (by omega), Option.bind_some]

theorem backs_j0 (t a b : ByteArray) (ht : t.size ≤ 400) (ha : a.size ≤ 400) (hb : b.size ≤ 400) (k : Nat) (hk : 50 ≤ k) : tattlelaw01_WireBacks.j0 k t a b false = some true := by
  obtain ⟨k, rfl⟩ : ∃ m, k = m + 1 := ⟨k - 1, by omega⟩
  simp only [tattlelaw01_WireBacks.j0]
  rw [if_neg (by simp)]
  have hj := backs_j1 b hb k (by omega)
  by_cases h : t.size > 200
  · rw [text_large t h, Option.bind_some]
    simp only []
    rw [if_neg (by omega), if_neg (by omega)]; exact hj
  · obtain ⟨x, h1, h2⟩ := text_ev t (by omega) k (by omega)
    have hx : x.size = (enc t.size).length + t.size := by rw [← bl_length x, h2, List.length_append, bl_length]
    have h10 := enc_ten (n := t.size) (by omega)
    have hax : (a ++ x).size = a.size + x.size := ByteArray.size_append
    have haxb : (a ++ x ++ b).size = a.size + x.size + b.size := by rw [ByteArray.size_append, hax]
    rw [h1, Option.bind_some]
    simp only []
    rw [if_pos trivial, if_pos (by omega), if_pos (by omega), taketext_ev _ (by omega) _ k (by omega), Option.bind_some]
    -- what is taken is the text
    have hd : (bl (a ++ x ++ b)).drop a.size = enc t.size ++ (bl t ++ bl b) := by
      rw [bl_append, bl_append, h2, List.append_assoc, ← bl_length a, List.drop_left, List.append_assoc]
    have htk : takeI (a ++ x ++ b) (a.size : Int) = ((t.size : Int), ((a.size + (enc t.size).length : Nat) : Int), 0) := by
      unfold takeI
      rw [if_neg (by omega), Int.toNat_natCast, hd, dec_enc t.size 0 0 _ (by omega) (by simp; omega) (by omega)]
      simp [tri]
    have hti : textI (a ++ x ++ b) (a.size : Int) = (t, ((a.size + x.size : Nat) : Int), 0) := by
      unfold textI
      rw [htk]
      simp only []
      rw [if_pos trivial, if_neg (by omega), if_neg (by omega)]
      have e1 : ((a.size + (enc t.size).length : Nat) : Int) + (t.size : Int) = ((a.size + x.size : Nat) : Int) := by omega
      rw [e1, Int.toNat_natCast, Int.toNat_natCast]
      have e2 : (a ++ x ++ b).extract (a.size + (enc t.size).length) (a.size + x.size) = t := by
        apply bl_inj
        rw [bl_extract, ← List.drop_drop]
        have e3 : ((bl (a ++ x ++ b)).take (a.size + x.size)).drop a.size = bl x := by
          rw [bl_append, ← hax, ← bl_length (a ++ x), List.take_left, bl_append, ← bl_length a, List.drop_left]
        rw [e3, h2, List.drop_left]
      rw [e2]
    rw [hti]
    simp only []
    rw [if_pos trivial, if_pos trivial, if_pos (by omega)]
    exact hj

theorem WireBacks (a0_0 : Int) (a0_1 a0_2 a0_3 : ByteArray) (w0 : (Lit.int .u64 a0_0).wf = true) (w1 : a0_1.size ≤ maxLen) (w2 : a0_2.size ≤ maxLen) (w3 : a0_3.size ≤ maxLen) : ∃ k, tattlelaw01_WireBacks.f k a0_0 a0_1 a0_2 a0_3 = some true := by
  suffices H : ∀ K, 60 ≤ K → tattlelaw01_WireBacks.f K a0_0 a0_1 a0_2 a0_3 = some true from ⟨60, H 60 (Nat.le_refl _)⟩
  intro K hK
  obtain ⟨n, rfl, hn⟩ := u64_nat a0_0 w0
  have s1 := few_size a0_1
  have s2 := few_size a0_2
  have s3 := few_size a0_3
  unfold tattlelaw01_WireBacks.f
  rw [few_ev, Option.bind_some, few_ev, Option.bind_some, few_ev, Option.bind_some]
  generalize few a0_1 = t at *
  generalize few a0_2 = a at *
  generalize few a0_3 = b at *
  obtain ⟨x, h1, h2⟩ := num_one n hn K (by omega)
  have h10 := enc_ten hn
  have hx : x.size = (enc n).length := by rw [← h2, bl_length]
  have hax : (a ++ x).size = a.size + x.size := ByteArray.size_append
  have haxb : (a ++ x ++ b).size = a.size + x.size + b.size := by rw [ByteArray.size_append, hax]
  rw [h1, Option.bind_some, if_pos (by omega), if_pos (by omega), take_ev _ (by omega) _ K (by omega), Option.bind_some, takeI_mid a b x n hn h2]
  simp only []
  have hf : ((((a.size + x.size : Nat) : Int)) != ((a.size : Int) + (x.size : Int))) = false := by
    rw [bne_eq_false_iff_eq]; omega
  rw [if_pos trivial, if_pos trivial, hf]
  exact backs_j0 t a b s1 s2 s3 K (by omega)

end Go.Proofs.Ytmehdghhnmnmiaa.Pure
