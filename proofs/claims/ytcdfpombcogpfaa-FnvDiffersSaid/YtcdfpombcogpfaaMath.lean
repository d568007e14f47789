import Derived.RowKit
import Derived.Laws.BitsLemmas
namespace Go.Proofs.Ytcdfpombcogpfaa.FnvMath
open Go

/-- a 64 bit word as the program's whole number -/
def U (h : BitVec 64) : Int := (h.toNat : Int)
def B8 (c : UInt8) : BitVec 64 := BitVec.ofNat 64 c.toNat
def P : BitVec 64 := 1099511628211#64
def Q : BitVec 64 := 14886173955864302971#64
theorem PQ : P * Q = 1#64 := by decide +kernel
theorem QP : Q * P = 1#64 := by decide +kernel
theorem mulPQ (h : BitVec 64) : h * P * Q = h := by rw [BitVec.mul_assoc, PQ, BitVec.mul_one]
theorem mulQP (h : BitVec 64) : h * Q * P = h := by rw [BitVec.mul_assoc, QP, BitVec.mul_one]

def on (h : BitVec 64) (l : List UInt8) : BitVec 64 := l.foldl (fun h c => (h ^^^ B8 c) * P) h
def back (h : BitVec 64) (l : List UInt8) : BitVec 64 := l.foldr (fun c h => (h * Q) ^^^ B8 c) h

theorem back_on (l : List UInt8) : ∀ h, back (on h l) l = h := by
  induction l with
  | nil => intro h; rfl
  | cons c l ih =>
    intro h
    show back (on ((h ^^^ B8 c) * P) l) l * Q ^^^ B8 c = h
    rw [ih, mulPQ, BitVec.xor_assoc, BitVec.xor_self, BitVec.xor_zero]

theorem on_back (l : List UInt8) : ∀ h, on (back h l) l = h := by
  induction l with
  | nil => intro h; rfl
  | cons c l ih =>
    intro h
    show on ((back h l * Q ^^^ B8 c ^^^ B8 c) * P) l = h
    rw [BitVec.xor_assoc, BitVec.xor_self, BitVec.xor_zero, mulQP, ih]

theorem on_append (h : BitVec 64) (a b : List UInt8) : on h (a ++ b) = on (on h a) b := by
  unfold on; rw [List.foldl_append]
theorem back_append (h : BitVec 64) (a b : List UInt8) : back h (a ++ b) = back (back h b) a := by
  unfold back; rw [List.foldr_append]
theorem on_cons (h : BitVec 64) (c : UInt8) (l : List UInt8) : on h (c :: l) = on ((h ^^^ B8 c) * P) l := rfl
theorem back_cons (h : BitVec 64) (c : UInt8) (l : List UInt8) : back h (c :: l) = back h l * Q ^^^ B8 c := rfl
theorem on_inj {h k : BitVec 64} {l : List UInt8} (e : on h l = on k l) : h = k := by
  rw [← back_on l h, ← back_on l k, e]

theorem U_inj {a b : BitVec 64} : U a = U b ↔ a = b := by
  unfold U; constructor
  · intro h; exact BitVec.eq_of_toNat_eq (by omega)
  · intro h; rw [h]

theorem U_range (h : BitVec 64) : 0 ≤ U h ∧ U h < 18446744073709551616 := by
  unfold U; have := h.isLt; omega

theorem wrap_u64 (n : Int) : IntKind.u64.wrap n = n % 18446744073709551616 := by
  simp [IntKind.wrap, IntKind.bits, IntKind.signed]
theorem wrap_U (h : BitVec 64) : IntKind.u64.wrap (U h) = U h := by
  rw [wrap_u64]; have := U_range h; omega
theorem ofInt_U (h : BitVec 64) : BitVec.ofInt 64 (U h) = h := by
  unfold U; rw [BitVec.ofInt_natCast]; simp
theorem wrap_ofInt (n : Int) : IntKind.u64.wrap n = U (BitVec.ofInt 64 n) := by
  rw [wrap_u64]; unfold U; rw [BitVec.toNat_ofInt]; omega
theorem wrap_mul (a b : BitVec 64) : IntKind.u64.wrap (U a * U b) = U (a * b) := by
  rw [wrap_ofInt, BitVec.ofInt_mul, ofInt_U, ofInt_U]
theorem xor_U (a b : BitVec 64) : Go.bits .xor .u64 (U a) (U b) = U (a ^^^ b) := by
  show IntKind.u64.wrap (((BitVec.ofInt 64 (U a)) ^^^ (BitVec.ofInt 64 (U b))).toNat : Int) = _
  rw [ofInt_U, ofInt_U]; exact wrap_U _
theorem U_of (n : Int) (h : (Lit.int .u64 n).wf = true) : ∃ x, n = U x := by
  refine ⟨BitVec.ofInt 64 n, ?_⟩
  have e : 0 ≤ n ∧ n ≤ 18446744073709551615 := by
    have : IntKind.u64.min ≤ n ∧ n ≤ IntKind.u64.max := by simpa [Lit.wf] using h
    simpa [IntKind.min, IntKind.max, IntKind.bits, IntKind.signed] using this
  rw [← wrap_ofInt, wrap_u64]; omega
theorem U_P : U P = 1099511628211 := by decide +kernel
theorem U_Q : U Q = 14886173955864302971 := by decide +kernel
theorem byte_U (c : UInt8) : IntKind.u64.wrap (c.toNat : Int) = U (B8 c) := by
  rw [wrap_ofInt, BitVec.ofInt_natCast]; rfl
end Go.Proofs.Ytcdfpombcogpfaa.FnvMath
