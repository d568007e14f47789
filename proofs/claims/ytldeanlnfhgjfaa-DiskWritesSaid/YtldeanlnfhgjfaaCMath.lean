namespace Go.Proofs.Ytldeanlnfhgjfaa.CMath

def poly : BitVec 32 := 3988292384#32
/-- one bit's step of the register -/
def M (c : BitVec 32) : BitVec 32 := if c.getLsbD 0 then (c >>> 1) ^^^ poly else c >>> 1
def it : Nat → BitVec 32 → BitVec 32
  | 0, c => c
  | n + 1, c => M (it n c)

theorem xor_zero_iff {a b : BitVec 32} (h : a ^^^ b = 0#32) : a = b := by
  have : a ^^^ b ^^^ b = 0#32 ^^^ b := by rw [h]
  rwa [BitVec.xor_assoc, BitVec.xor_self, BitVec.xor_zero, BitVec.zero_xor] at this

theorem M_xor (a b : BitVec 32) : M (a ^^^ b) = M a ^^^ M b := by
  unfold M
  rw [BitVec.getLsbD_xor, BitVec.ushiftRight_xor_distrib]
  cases ha : a.getLsbD 0 <;> cases hb : b.getLsbD 0 <;> simp only [Bool.xor_false, Bool.xor_true, Bool.not_false, Bool.not_true, if_true, if_false, Bool.false_eq_true]
  · rw [BitVec.xor_assoc]
  · rw [BitVec.xor_assoc, BitVec.xor_assoc, BitVec.xor_comm poly]
  · rw [BitVec.xor_assoc, BitVec.xor_comm poly, BitVec.xor_assoc, BitVec.xor_self, BitVec.xor_zero]

theorem M_zero : M 0#32 = 0#32 := by decide
theorem it_zero (n : Nat) : it n 0#32 = 0#32 := by
  induction n with
  | zero => rfl
  | succ n ih => show M (it n 0#32) = 0#32; rw [ih, M_zero]
theorem it_xor (n : Nat) : ∀ a b : BitVec 32, it n (a ^^^ b) = it n a ^^^ it n b := by
  induction n with
  | zero => intro a b; rfl
  | succ n ih => intro a b; show M (it n (a ^^^ b)) = M (it n a) ^^^ M (it n b); rw [ih, M_xor]
theorem it_add (n m : Nat) (c : BitVec 32) : it (n + m) c = it n (it m c) := by
  induction n with
  | zero => rw [Nat.zero_add]; rfl
  | succ n ih => rw [Nat.succ_add]; show M (it (n + m) c) = M (it n (it m c)); rw [ih]

theorem M_ker {c : BitVec 32} (h : M c = 0#32) : c = 0#32 := by
  unfold M at h
  cases h0 : c.getLsbD 0 with
  | true =>
    rw [h0, if_pos rfl] at h
    have h1 := xor_zero_iff h
    have h2 : (c >>> 1).getLsbD 31 = poly.getLsbD 31 := by rw [h1]
    rw [BitVec.getLsbD_ushiftRight] at h2
    have h3 : poly.getLsbD 31 = true := by decide
    rw [h3] at h2
    have h4 : c.getLsbD (1 + 31) = false := BitVec.getLsbD_of_ge _ _ (by omega)
    rw [h4] at h2
    exact absurd h2 (by decide)
  | false =>
    rw [h0, if_neg (by simp)] at h
    apply BitVec.eq_of_getLsbD_eq
    intro i hi
    cases i with
    | zero => rw [h0]; simp
    | succ i =>
      have h2 : (c >>> 1).getLsbD i = (0#32).getLsbD i := by rw [h]
      rw [BitVec.getLsbD_ushiftRight] at h2
      rw [Nat.add_comm i 1, h2]; simp
theorem it_ker (n : Nat) : ∀ {c : BitVec 32}, it n c = 0#32 → c = 0#32 := by
  induction n with
  | zero => intro c h; exact h
  | succ n ih => intro c h; exact ih (M_ker h)

/-- an octet as a word -/
def w8 (b : UInt8) : BitVec 32 := BitVec.ofNat 32 b.toNat
def byte (c : BitVec 32) (b : UInt8) : BitVec 32 := it 8 (c ^^^ w8 b)
/-- the register behind octets -/
def reg (c : BitVec 32) (l : List UInt8) : BitVec 32 := l.foldl byte c
def ones : BitVec 32 := 4294967295#32
def crc (l : List UInt8) : BitVec 32 := reg ones l ^^^ ones

theorem reg_append (c : BitVec 32) (a b : List UInt8) : reg c (a ++ b) = reg (reg c a) b := by unfold reg; rw [List.foldl_append]
theorem reg_cons (c : BitVec 32) (b : UInt8) (l : List UInt8) : reg c (b :: l) = reg (byte c b) l := rfl
/-- what is turned in the register goes on by itself -/
theorem reg_xor (l : List UInt8) : ∀ c e : BitVec 32, reg (c ^^^ e) l = reg c l ^^^ it (8 * l.length) e := by
  induction l with
  | nil => intro c e; rfl
  | cons b l ih =>
    intro c e
    rw [reg_cons, reg_cons]
    have h : byte (c ^^^ e) b = byte c b ^^^ it 8 e := by
      unfold byte
      rw [BitVec.xor_assoc, BitVec.xor_comm e, ← BitVec.xor_assoc, it_xor]
    rw [h, ih, ← it_add, List.length_cons, show 8 * (l.length + 1) = 8 * l.length + 8 by omega]

theorem w8_xor (a b : UInt8) : w8 (a ^^^ b) = w8 a ^^^ w8 b := by
  unfold w8
  apply BitVec.eq_of_toNat_eq
  have h1 := a.toNat_lt; have h2 := b.toNat_lt; have h3 := (a ^^^ b).toNat_lt
  rw [BitVec.toNat_xor, BitVec.toNat_ofNat, BitVec.toNat_ofNat, BitVec.toNat_ofNat, UInt8.toNat_xor, Nat.mod_eq_of_lt, Nat.mod_eq_of_lt, Nat.mod_eq_of_lt] <;> simp only [UInt8.toNat_xor] at h3 <;> omega

/-- octets turned by others, as long -/
theorem reg_zip (a : List UInt8) : ∀ (b : List UInt8) (c e : BitVec 32), a.length = b.length → reg (c ^^^ e) (List.zipWith (· ^^^ ·) a b) = reg c a ^^^ reg e b := by
  induction a with
  | nil => intro b c e h; cases b with | nil => rfl | cons _ _ => simp at h
  | cons x a ih =>
    intro b c e h
    cases b with
    | nil => simp at h
    | cons y b =>
      rw [List.zipWith_cons_cons, reg_cons, reg_cons, reg_cons]
      have hb : byte (c ^^^ e) (x ^^^ y) = byte c x ^^^ byte e y := by
        unfold byte
        rw [w8_xor, ← it_xor]; congr 1
        rw [BitVec.xor_assoc, BitVec.xor_assoc, ← BitVec.xor_assoc e, BitVec.xor_comm e, BitVec.xor_assoc (w8 x)]
      rw [hb, ih b _ _ (by simpa using h)]

/-! a bit -/
def bit (i : Nat) : BitVec 32 := BitVec.ofNat 32 (2 ^ i)
theorem it_bit (i : Nat) (h : i < 32) : it i (bit i) = 1#32 := by
  have hall : ∀ j : Fin 32, it j.val (bit j.val) = 1#32 := by decide +kernel
  exact hall ⟨i, h⟩
/-- bit i, so many steps on -/
theorem it_bit_from (n i : Nat) (h : i < 32) (hn : i ≤ n) : it n (bit i) = it (n - i) 1#32 := by
  have e : n = (n - i) + i := by omega
  rw [← it_bit i h, ← it_add, ← e]

/-- the four octets of a word, the lowest first -/
def four (c : BitVec 32) : List UInt8 := [UInt8.ofNat (c.toNat % 256), UInt8.ofNat (c.toNat / 256 % 256), UInt8.ofNat (c.toNat / 65536 % 256), UInt8.ofNat (c.toNat / 16777216 % 256)]
theorem four_inj {a b : BitVec 32} (h : four a = four b) : a = b := by
  have h1 := a.isLt; have h2 := b.isLt
  have key : ∀ x y : Nat, x < 256 → y < 256 → UInt8.ofNat x = UInt8.ofNat y → x = y := by
    intro x y hx hy e
    have := congrArg UInt8.toNat e
    rw [UInt8.toNat_ofNat', UInt8.toNat_ofNat', Nat.mod_eq_of_lt hx, Nat.mod_eq_of_lt hy] at this
    exact this
  simp only [four, List.cons.injEq, and_true] at h
  obtain ⟨e0, e1, e2, e3⟩ := h
  have e0 := key _ _ (Nat.mod_lt _ (by omega)) (Nat.mod_lt _ (by omega)) e0
  have e1 := key _ _ (Nat.mod_lt _ (by omega)) (Nat.mod_lt _ (by omega)) e1
  have e2 := key _ _ (Nat.mod_lt _ (by omega)) (Nat.mod_lt _ (by omega)) e2
  have e3 := key _ _ (Nat.mod_lt _ (by omega)) (Nat.mod_lt _ (by omega)) e3
  apply BitVec.eq_of_toNat_eq
  omega
/-- any four octets are a word's -/
theorem four_surj (a b c d : UInt8) : ∃ x : BitVec 32, [a, b, c, d] = four x := by
  have h1 := a.toNat_lt; have h2 := b.toNat_lt; have h3 := c.toNat_lt; have h4 := d.toNat_lt
  refine ⟨BitVec.ofNat 32 (a.toNat + 256 * b.toNat + 65536 * c.toNat + 16777216 * d.toNat), ?_⟩
  unfold four
  have hN : (a.toNat + 256 * b.toNat + 65536 * c.toNat + 16777216 * d.toNat) % 2 ^ 32 = a.toNat + 256 * b.toNat + 65536 * c.toNat + 16777216 * d.toNat := Nat.mod_eq_of_lt (by omega)
  rw [BitVec.toNat_ofNat, hN]
  have e0 : (a.toNat + 256 * b.toNat + 65536 * c.toNat + 16777216 * d.toNat) % 256 = a.toNat := by omega
  have e1 : (a.toNat + 256 * b.toNat + 65536 * c.toNat + 16777216 * d.toNat) / 256 % 256 = b.toNat := by omega
  have e2 : (a.toNat + 256 * b.toNat + 65536 * c.toNat + 16777216 * d.toNat) / 65536 % 256 = c.toNat := by omega
  have e3 : (a.toNat + 256 * b.toNat + 65536 * c.toNat + 16777216 * d.toNat) / 16777216 % 256 = d.toNat := by omega
  rw [e0, e1, e2, e3, UInt8.ofNat_toNat, UInt8.ofNat_toNat, UInt8.ofNat_toNat, UInt8.ofNat_toNat]

/-- a word whose low bits are none goes down by themselves -/
theorem it_high (n : Nat) : ∀ c : BitVec 32, (∀ i, i < n → c.getLsbD i = false) → it n c = c >>> n := by
  induction n with
  | zero => intro c _; simp [it]
  | succ n ih =>
    intro c h
    show M (it n c) = _
    rw [ih c (fun i hi => h i (by omega))]
    unfold M
    have h0 : (c >>> n).getLsbD 0 = false := by rw [BitVec.getLsbD_ushiftRight, Nat.add_zero]; exact h n (by omega)
    rw [h0, if_neg (by simp), ← BitVec.shiftRight_add]

/-- the table's step: what is above an octet goes down, the octet by the table -/
def low (c : BitVec 32) : BitVec 32 := BitVec.ofNat 32 (c.toNat % 256)
theorem low_bit (c : BitVec 32) (i : Nat) : (low c).getLsbD i = (decide (i < 8) && c.getLsbD i) := by
  unfold low
  rw [BitVec.getLsbD_ofNat, show (256 : Nat) = 2 ^ 8 from rfl, Nat.testBit_mod_two_pow]
  by_cases hi : i < 32
  · by_cases h8 : i < 8
    · simp [hi, h8, BitVec.getLsbD]
    · simp [h8]
  · have : ¬ i < 8 := by omega
    simp [this]
theorem it8_split (c : BitVec 32) (b : UInt8) : byte c b = (c >>> 8) ^^^ it 8 (low c ^^^ w8 b) := by
  unfold byte
  have h : c ^^^ w8 b = (c ^^^ low c) ^^^ (low c ^^^ w8 b) := by
    rw [BitVec.xor_assoc, ← BitVec.xor_assoc (low c), BitVec.xor_self, BitVec.zero_xor]
  rw [h, it_xor]
  congr 1
  have hz : ∀ i, i < 8 → (c ^^^ low c).getLsbD i = false := by
    intro i hi; rw [BitVec.getLsbD_xor, low_bit]; simp [hi]
  rw [it_high 8 _ hz]
  apply BitVec.eq_of_getLsbD_eq
  intro i hi
  rw [BitVec.getLsbD_ushiftRight, BitVec.getLsbD_ushiftRight, BitVec.getLsbD_xor, low_bit]
  have h8 : ¬ 8 + i < 8 := by omega
  rw [decide_eq_false h8, Bool.false_and, Bool.xor_false]

/-- four octets of a word, behind a register -/
theorem reg_four (c x : BitVec 32) : reg c (four x) = it 32 (c ^^^ x) := by
  -- by linearity it is enough to speak of the word alone
  have hz : reg (0#32) (four x) = it 32 x := by
    have hx : reg x (four x) = 0#32 := by
      have step : ∀ y : BitVec 32, ∀ b : UInt8, w8 b = low y → byte y b = y >>> 8 := by
        intro y b hb
        rw [it8_split, hb, BitVec.xor_self, it_zero, BitVec.xor_zero]
      have lowb : ∀ y : BitVec 32, w8 (UInt8.ofNat (y.toNat % 256)) = low y := by
        intro y; unfold w8 low
        rw [UInt8.toNat_ofNat', Nat.mod_eq_of_lt (Nat.mod_lt _ (by omega))]
      have sh : ∀ (y : BitVec 32) (k : Nat), (y >>> k).toNat = y.toNat / 2 ^ k := by
        intro y k; rw [BitVec.toNat_ushiftRight, Nat.shiftRight_eq_div_pow]
      unfold four
      rw [reg_cons, step x _ (lowb x)]
      have e1 : UInt8.ofNat (x.toNat / 256 % 256) = UInt8.ofNat ((x >>> 8).toNat % 256) := by rw [sh]
      have e2 : UInt8.ofNat (x.toNat / 65536 % 256) = UInt8.ofNat ((x >>> 8 >>> 8).toNat % 256) := by rw [sh, sh, Nat.div_div_eq_div_mul]
      have e3 : UInt8.ofNat (x.toNat / 16777216 % 256) = UInt8.ofNat ((x >>> 8 >>> 8 >>> 8).toNat % 256) := by rw [sh, sh, sh, Nat.div_div_eq_div_mul, Nat.div_div_eq_div_mul]
      rw [e1, reg_cons, step _ _ (lowb _), e2, reg_cons, step _ _ (lowb _), e3, reg_cons, step _ _ (lowb _)]
      show x >>> 8 >>> 8 >>> 8 >>> 8 = 0#32
      apply BitVec.eq_of_toNat_eq
      have := x.isLt
      rw [sh, sh, sh, sh]
      show _ = 0
      omega
    have := reg_xor (four x) x x
    rw [BitVec.xor_self, hx, BitVec.zero_xor] at this
    exact this
  have := reg_xor (four x) 0#32 c
  rw [BitVec.zero_xor, hz] at this
  rw [this, BitVec.xor_comm c, it_xor]; rfl

/-- what octets come to whose last four are their sum -/
def K : BitVec 32 := it 32 ones
theorem sealed_iff (l : List UInt8) (x : BitVec 32) : reg ones (l ++ four x) = K ↔ x = crc l := by
  rw [reg_append, reg_four]
  unfold K crc
  constructor
  · intro h
    have h2 : it 32 (reg ones l ^^^ x ^^^ ones) = 0#32 := by rw [it_xor, h, BitVec.xor_self]
    have h3 := it_ker 32 h2
    have h4 : reg ones l ^^^ ones ^^^ x = 0#32 := by rw [← h3, BitVec.xor_assoc, BitVec.xor_assoc, BitVec.xor_comm ones]
    exact (xor_zero_iff h4).symm
  · rintro rfl
    congr 1
    rw [← BitVec.xor_assoc, BitVec.xor_self, BitVec.zero_xor]

/-- a bit of an octet turned -/
theorem w8_turn (t : Nat) (h : t < 8) : it 8 (w8 (UInt8.ofNat (2 ^ t))) = it (8 - t) 1#32 := by
  have hall : ∀ j : Fin 8, it 8 (w8 (UInt8.ofNat (2 ^ j.val))) = it (8 - j.val) 1#32 := by decide +kernel
  exact hall ⟨t, h⟩
theorem reg_turn (a : List UInt8) (x : UInt8) (b : List UInt8) (c : BitVec 32) (t : Nat) (h : t < 8) :
    reg c (a ++ (x ^^^ UInt8.ofNat (2 ^ t)) :: b) = reg c (a ++ x :: b) ^^^ it (8 * b.length + 8 - t) 1#32 := by
  rw [reg_append, reg_append, reg_cons, reg_cons]
  have hb : byte (reg c a) (x ^^^ UInt8.ofNat (2 ^ t)) = byte (reg c a) x ^^^ it (8 - t) 1#32 := by
    unfold byte
    rw [w8_xor, ← BitVec.xor_assoc, it_xor, w8_turn t h]
  rw [hb, reg_xor, ← it_add]
  congr 2; omega

end Go.Proofs.Ytldeanlnfhgjfaa.CMath
