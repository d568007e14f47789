namespace Go.Proofs.Ytldeanlnfhgjfaa.WMath

/-- a number's octets, as the document says -/
def enc (n : Nat) : List UInt8 := if n < 128 then [UInt8.ofNat n] else UInt8.ofNat (n % 128 + 128) :: enc (n / 128)
termination_by n
decreasing_by omega

/-- what is taken from octets on, from group i on: the number, how many octets, the error -/
def dec (i acc : Nat) : List UInt8 → Nat × Nat × Nat
  | [] => (0, 0, 3)
  | c :: l => if (0 < i ∧ c.toNat = 0) ∨ (i = 9 ∧ 1 < c.toNat) then (0, 0, 2)
    else if c.toNat < 128 then (acc + c.toNat * 128 ^ i, i + 1, 0)
    else dec (i + 1) (acc + (c.toNat - 128) * 128 ^ i) l

theorem enc_small {n : Nat} (h : n < 128) : enc n = [UInt8.ofNat n] := by rw [enc, if_pos h]
theorem enc_big {n : Nat} (h : ¬ n < 128) : enc n = UInt8.ofNat (n % 128 + 128) :: enc (n / 128) := by rw [enc, if_neg h]
theorem u8_toNat {n : Nat} (h : n < 256) : (UInt8.ofNat n).toNat = n := by
  rw [UInt8.toNat_ofNat']; exact Nat.mod_eq_of_lt h
theorem enc_pos (n : Nat) : 0 < (enc n).length := by rw [enc]; split <;> simp

theorem enc_lt (n : Nat) : n < 128 ^ (enc n).length := by
  induction n using Nat.strongRecOn with
  | _ n ih =>
    by_cases h : n < 128
    · rw [enc_small h]; simpa using h
    · rw [enc_big h, List.length_cons, Nat.pow_succ]
      have := ih (n / 128) (by omega)
      generalize 128 ^ (enc (n / 128)).length = P at *
      omega

theorem enc_ge (n : Nat) (h : 1 < (enc n).length) : 128 ^ ((enc n).length - 1) ≤ n := by
  induction n using Nat.strongRecOn with
  | _ n ih =>
    by_cases hn : n < 128
    · rw [enc_small hn] at h; simp at h
    · rw [enc_big hn, List.length_cons] at h ⊢
      rw [Nat.add_sub_cancel]
      by_cases h2 : n / 128 < 128
      · rw [enc_small h2]; simp; omega
      · have h3 : 1 < (enc (n / 128)).length := by rw [enc_big h2]; have := enc_pos (n / 128 / 128); simp only [List.length_cons]; omega
        have := ih (n / 128) (by omega) h3
        rw [show (enc (n / 128)).length = (enc (n / 128)).length - 1 + 1 by omega, Nat.pow_succ]
        generalize 128 ^ ((enc (n / 128)).length - 1) = P at *
        omega

theorem enc_len_le {n L : Nat} (hL : 1 ≤ L) (h : n < 128 ^ L) : (enc n).length ≤ L := by
  by_cases h1 : 1 < (enc n).length
  · have := enc_ge n h1
    have h2 : 128 ^ ((enc n).length - 1) < 128 ^ L := by omega
    have := (Nat.pow_lt_pow_iff_right (by omega : 1 < 128)).1 h2
    omega
  · omega

theorem enc_mono {n m : Nat} (h : n ≤ m) : (enc n).length ≤ (enc m).length :=
  enc_len_le (enc_pos m) (Nat.lt_of_le_of_lt h (enc_lt m))

theorem enc_ten {n : Nat} (h : n < 18446744073709551616) : (enc n).length ≤ 10 :=
  enc_len_le (by omega) (Nat.lt_of_lt_of_le h (by decide))

theorem pow9 : 128 ^ 9 = 9223372036854775808 := by decide

theorem dec_enc (n : Nat) : ∀ (i acc : Nat) (r : List UInt8), i ≤ 9 → n * 128 ^ i < 18446744073709551616 → (0 < i → 0 < n) →
    dec i acc (enc n ++ r) = (acc + n * 128 ^ i, i + (enc n).length, 0) := by
  induction n using Nat.strongRecOn with
  | _ n ih =>
    intro i acc r hi hn h0
    by_cases h : n < 128
    · rw [enc_small h, List.singleton_append, dec]
      have hc : (UInt8.ofNat n).toNat = n := u8_toNat (by omega)
      rw [hc, if_neg, if_pos h]
      · rfl
      · rintro (⟨h1, h2⟩ | ⟨h1, h2⟩)
        · have := h0 h1; omega
        · subst h1; rw [pow9] at hn; omega
    · rw [enc_big h, List.cons_append, dec]
      have hc : (UInt8.ofNat (n % 128 + 128)).toNat = n % 128 + 128 := u8_toNat (by omega)
      have h9 : i ≠ 9 := by rintro rfl; rw [pow9] at hn; omega
      rw [hc, if_neg (by omega), if_neg (by omega), ih (n / 128) (by omega) (i + 1) _ r (by omega) ?_ (by omega)]
      · have e : n * 128 ^ i = (n % 128) * 128 ^ i + n / 128 * 128 ^ (i + 1) := by
          have := Nat.div_add_mod n 128
          rw [Nat.pow_succ, Nat.mul_comm (128 ^ i) 128, ← Nat.mul_assoc, ← Nat.add_mul]
          congr 1; omega
        rw [List.length_cons]
        simp only [Prod.mk.injEq, and_true]
        constructor
        · rw [e]; simp only [Nat.add_sub_cancel]; omega
        · omega
      · rw [Nat.pow_succ, Nat.mul_comm (128 ^ i) 128, ← Nat.mul_assoc]
        refine Nat.lt_of_le_of_lt (Nat.mul_le_mul_right _ ?_) hn
        omega

theorem two64 (i : Nat) (h : i ≤ 8) : ∃ M, 18446744073709551616 = M * 128 * 128 ^ i := by
  refine ⟨2 ^ (57 - 7 * i), ?_⟩
  have hcase : i = 0 ∨ i = 1 ∨ i = 2 ∨ i = 3 ∨ i = 4 ∨ i = 5 ∨ i = 6 ∨ i = 7 ∨ i = 8 := by omega
  rcases hcase with rfl | rfl | rfl | rfl | rfl | rfl | rfl | rfl | rfl <;> decide +kernel

theorem dec_ok (l : List UInt8) : ∀ (i acc m u : Nat), i ≤ 9 → dec i acc l = (m, u, 0) →
    ∃ n, m = acc + n * 128 ^ i ∧ u = i + (enc n).length ∧ l.take (enc n).length = enc n ∧ (enc n).length ≤ l.length ∧ (0 < i → 0 < n) ∧ n * 128 ^ i < 18446744073709551616 := by
  induction l with
  | nil => intro i acc m u _ h; simp [dec] at h
  | cons c l ih =>
    intro i acc m u hi h
    have hc := c.toNat_lt
    have hc' : c.toNat < 256 := hc
    rw [dec] at h
    by_cases h1 : (0 < i ∧ c.toNat = 0) ∨ (i = 9 ∧ 1 < c.toNat)
    · rw [if_pos h1] at h; simp at h
    · rw [if_neg h1] at h
      have hcc : UInt8.ofNat c.toNat = c := UInt8.ofNat_toNat
      by_cases h2 : c.toNat < 128
      · rw [if_pos h2] at h
        simp only [Prod.mk.injEq, and_true] at h
        refine ⟨c.toNat, h.1.symm, ?_⟩
        rw [enc_small h2, hcc]
        refine ⟨by simp; omega, by simp, by simp, by omega, ?_⟩
        by_cases h9 : i = 9
        · subst h9; rw [pow9]; omega
        · obtain ⟨M, hM⟩ := two64 i (by omega)
          rw [hM]
          have hM0 : 0 < M := by
            cases M with
            | zero => simp at hM
            | succ M => omega
          exact Nat.mul_lt_mul_of_pos_right (by omega) (Nat.pow_pos (by omega))
      · rw [if_neg h2] at h
        have h9 : i ≠ 9 := by omega
        obtain ⟨n, e1, e2, e3, e4, e5, e6⟩ := ih (i + 1) _ m u (by omega) h
        have hn0 := e5 (by omega)
        refine ⟨n * 128 + (c.toNat - 128), ?_⟩
        have hb : ¬ (n * 128 + (c.toNat - 128)) < 128 := by omega
        have hd : (n * 128 + (c.toNat - 128)) / 128 = n := by omega
        have hm : (n * 128 + (c.toNat - 128)) % 128 + 128 = c.toNat := by omega
        rw [enc_big hb, hd, hm, hcc]
        have hp : n * 128 ^ (i + 1) = n * 128 * 128 ^ i := by rw [Nat.pow_succ, Nat.mul_comm (128 ^ i) 128, Nat.mul_assoc]
        refine ⟨by rw [e1, hp, Nat.add_mul]; omega, by rw [e2, List.length_cons]; omega, by rw [List.length_cons, List.take_succ_cons, e3], by simp only [List.length_cons]; omega, by omega, ?_⟩
        obtain ⟨M, hM⟩ := two64 i (by omega)
        rw [hp] at e6
        rw [hM] at e6 ⊢
        have e7 : n * 128 < M * 128 := Nat.lt_of_mul_lt_mul_right e6
        exact Nat.mul_lt_mul_of_pos_right (by omega) (Nat.pow_pos (by omega))

theorem dec_bound (l : List UInt8) : ∀ (i acc : Nat), (dec i acc l).2.2 ≤ 3 := by
  induction l with
  | nil => intro i acc; simp [dec]
  | cons c l ih =>
    intro i acc; rw [dec]; split
    · simp
    · split
      · simp
      · exact ih _ _

theorem dec_err (l : List UInt8) : ∀ (i acc : Nat), (dec i acc l).2.2 ≠ 0 → (dec i acc l).1 = 0 ∧ (dec i acc l).2.1 = 0 := by
  induction l with
  | nil => intro i acc _; simp [dec]
  | cons c l ih =>
    intro i acc; rw [dec]; split
    · simp
    · split
      · simp
      · exact ih _ _

theorem dec_cut (n : Nat) : ∀ (i acc k : Nat), i ≤ 9 → n * 128 ^ i < 18446744073709551616 → k < (enc n).length → dec i acc ((enc n).take k) = (0, 0, 3) := by
  induction n using Nat.strongRecOn with
  | _ n ih =>
    intro i acc k hi hn hk
    cases k with
    | zero => simp [dec]
    | succ k =>
      by_cases h : n < 128
      · rw [enc_small h] at hk; simp at hk
      · rw [enc_big h] at hk ⊢
        rw [List.take_succ_cons, dec]
        have hc : (UInt8.ofNat (n % 128 + 128)).toNat = n % 128 + 128 := u8_toNat (by omega)
        have h9 : i ≠ 9 := by rintro rfl; rw [pow9] at hn; omega
        rw [hc, if_neg (by omega), if_neg (by omega)]
        refine ih (n / 128) (by omega) (i + 1) _ k (by omega) ?_ (by simpa using hk)
        rw [Nat.pow_succ, Nat.mul_comm (128 ^ i) 128, ← Nat.mul_assoc]
        refine Nat.lt_of_le_of_lt (Nat.mul_le_mul_right _ ?_) hn
        omega

end Go.Proofs.Ytldeanlnfhgjfaa.WMath
