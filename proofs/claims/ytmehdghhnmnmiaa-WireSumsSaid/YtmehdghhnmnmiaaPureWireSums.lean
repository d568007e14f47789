/- For any octets, and others by which they are turned: the sums differ by what hangs on these, and on how many there are, alone. No condition beyond the row's own. -/
import Derived.Test.YtmehdghhnmnmiaaFnsWireSums
namespace Go.Proofs.Ytmehdghhnmnmiaa.Pure
open Go.RowKit Go.Proofs.Ytmehdghhnmnmiaa.PWireSums Go.Proofs.YtmehdghhnmnmiaaW.PrintWords Go.Proofs.YtmehdghhnmnmiaaW.PrintLast Go.Proofs.YtmehdghhnmnmiaaW.PrintMore Go.Proofs.Ytmehdghhnmnmiaa.WMath Go.Proofs.Ytmehdghhnmnmiaa.FnsWireSums Go.Proofs.Ytmehdghhnmnmiaa.CMath
set_option linter.unusedVariables false

theorem xor8 (a b : UInt8) : Go.bits .xor .u8 (a.toNat : Int) (b.toNat : Int) = ((a ^^^ b).toNat : Int) := by
  show IntKind.u8.wrap (((BitVec.ofInt 8 (a.toNat : Int)) ^^^ (BitVec.ofInt 8 (b.toNat : Int))).toNat : Int) = _
  rw [BitVec.ofInt_natCast, BitVec.ofInt_natCast]
  have h1 : (BitVec.ofNat 8 a.toNat ^^^ BitVec.ofNat 8 b.toNat).toNat = (a ^^^ b).toNat := by
    rw [BitVec.toNat_xor, UInt8.toNat_xor]; simp
  rw [h1]
  have := (a ^^^ b).toNat_lt
  rw [Go.IntKind.wrap_u8]; omega
def both (a b : List UInt8) : List UInt8 := List.zipWith (· ^^^ ·) a b
def ints (l : List UInt8) : List Int := l.map fun c => (c.toNat : Int)
theorem b8_ints (l : List UInt8) : b8 (ints l) = l := by
  unfold b8 ints
  rw [List.map_map]
  have : ((fun n : Int => UInt8.ofNat n.toNat) ∘ fun b : UInt8 => (b.toNat : Int)) = id := by funext b; simp
  rw [this, List.map_id]
theorem both_zero (l : List UInt8) : both l (List.replicate l.length 0) = l := by
  induction l with
  | nil => rfl
  | cons a l ih => show (a ^^^ 0) :: both l (List.replicate l.length 0) = a :: l; rw [ih]; simp
theorem sums_same (a b : List UInt8) (h : a.length = b.length) : crc a ^^^ crc b = crc (both a b) ^^^ crc (List.replicate a.length 0) := by
  have h1 := reg_zip a b ones ones h
  have hl : (both a b).length = a.length := by unfold both; rw [List.length_zipWith, h, Nat.min_self]
  have h2 := reg_zip (both a b) (List.replicate a.length 0) ones ones (by rw [hl, List.length_replicate])
  have h3 : List.zipWith (· ^^^ ·) (both a b) (List.replicate a.length 0) = both a b := by rw [← hl]; exact both_zero _
  rw [BitVec.xor_self] at h1 h2
  rw [h3] at h2
  have e : ∀ x y : BitVec 32, x ^^^ ones ^^^ (y ^^^ ones) = x ^^^ y := by
    intro x y; rw [BitVec.xor_comm y, BitVec.xor_assoc, ← BitVec.xor_assoc ones, BitVec.xor_self, BitVec.zero_xor]
  unfold crc
  rw [e, e, ← h1, ← h2]; rfl

theorem sums_l0 (x y : ByteArray) (h : x.size = y.size) (hx : x.size ≤ 400) (d : Nat) : ∀ (k i : Nat), i + d = x.size → d + 50 ≤ k →
    tattlelaw01_WireSums.l0 k x y ((ints (both (bl x) (bl y))).take i ++ List.replicate d 0) (List.replicate x.size 0) (i : Int) = some true := by
  have hlb : (ints (both (bl x) (bl y))).length = x.size := by
    unfold ints both; rw [List.length_map, List.length_zipWith, bl_length, bl_length, h, Nat.min_self]
  induction d with
  | zero =>
    intro k i hi hk
    obtain ⟨k, rfl⟩ : ∃ m, k = m + 1 := ⟨k - 1, by omega⟩
    simp only [tattlelaw01_WireSums.l0]
    have e1 : (ints (both (bl x) (bl y))).take i ++ List.replicate 0 0 = ints (both (bl x) (bl y)) := by
      rw [List.replicate_zero, List.append_nil, List.take_of_length_le (by omega)]
    have s1 : (strOfNums (ints (both (bl x) (bl y)))).size = x.size := by
      rw [← bl_length, bl_strOfNums]; unfold b8; rw [List.length_map, hlb]
    have s2 : (strOfNums (List.replicate x.size 0)).size = x.size := by
      rw [← bl_length, bl_strOfNums]; unfold b8; rw [List.length_map, List.length_replicate]
    have z : b8 (List.replicate x.size 0) = List.replicate x.size 0 := by unfold b8; rw [List.map_replicate]; rfl
    rw [if_neg (by omega), e1, sum_ev x (by omega), sum_ev y (by omega), sum_ev _ (by omega), sum_ev _ (by omega), Option.bind_some, Option.bind_some, Option.bind_some, Option.bind_some, bl_strOfNums, bl_strOfNums, b8_ints, z, xor_V, xor_V]
    have hs := sums_same (bl x) (bl y) (by rw [bl_length, bl_length, h])
    rw [bl_length] at hs
    rw [hs, if_pos rfl, awake_ev k (by omega), Option.bind_some]
  | succ d ih =>
    intro k i hi hk
    obtain ⟨k, rfl⟩ : ∃ m, k = m + 1 := ⟨k - 1, by omega⟩
    have hlt : i < x.size := by omega
    simp only [tattlelaw01_WireSums.l0]
    have hlen : ((ints (both (bl x) (bl y))).take i ++ List.replicate (d + 1) (0 : Int)).length = x.size := by
      rw [List.length_append, List.length_take, List.length_replicate]; omega
    rw [hlen, if_pos (by omega), if_pos (by omega), if_pos (by omega), if_pos (by omega), Int.toNat_natCast, wrap_nat (by omega), bt_nat x i hlt, bt_nat y i (by omega), xor8]
    have hget : (ints (both (bl x) (bl y)))[i]'(by omega) = ((((bl x)[i]'(by rw [bl_length]; exact hlt)) ^^^ ((bl y)[i]'(by rw [bl_length]; omega))).toNat : Int) := by
      unfold ints both; simp
    have hset : ((ints (both (bl x) (bl y))).take i ++ List.replicate (d + 1) 0).set i ((ints (both (bl x) (bl y)))[i]'(by omega)) = (ints (both (bl x) (bl y))).take (i + 1) ++ List.replicate d 0 := by
      rw [List.set_append_right _ _ (by rw [List.length_take]; omega), List.length_take, Nat.min_eq_left (by omega), Nat.sub_self, List.replicate_succ, List.set_cons_zero, List.take_succ_eq_append_getElem (by omega), List.append_assoc]
      rfl
    rw [← hget, hset]
    exact ih k (i + 1) (by omega) (by omega)

theorem sums_j0 (x y : ByteArray) (h : x.size ≤ y.size) (hx : x.size ≤ 400) (k : Nat) (hk : 600 ≤ k) : tattlelaw01_WireSums.j0 k x y = some true := by
  obtain ⟨k, rfl⟩ : ∃ m, k = m + 1 := ⟨k - 1, by omega⟩
  simp only [tattlelaw01_WireSums.j0]
  rw [if_pos (by omega), if_pos (by omega), Int.toNat_natCast, if_pos (by omega)]
  have hz : x.size = (y.extract 0 x.size).size := by simp; omega
  have e := sums_l0 x (y.extract 0 x.size) hz hx x.size k 0 (by omega) (by omega)
  rw [Int.natCast_zero, List.take_zero, List.nil_append] at e
  exact e

theorem WireSums : tattlelaw01_WireSums.Pure := by
  intro a0 a1 w0 w1
  suffices H : ∀ K, 700 ≤ K → tattlelaw01_WireSums.f K a0 a1 = some true from ⟨700, H 700 (Nat.le_refl _)⟩
  intro K hK
  have s1 := few_size a0
  have s2 := few_size a1
  unfold tattlelaw01_WireSums.f
  rw [few_ev, Option.bind_some, few_ev, Option.bind_some]
  generalize few a0 = a at *
  generalize few a1 = b at *
  by_cases h : (a.size : Int) > (b.size : Int)
  · rw [if_pos h, if_pos (by omega), if_pos (by omega), Int.toNat_natCast]
    have hz : (a.extract 0 b.size).size = b.size := by simp; omega
    exact sums_j0 _ b (by omega) (by omega) K (by omega)
  · rw [if_neg h]
    exact sums_j0 a b (by omega) s1 K (by omega)

end Go.Proofs.Ytmehdghhnmnmiaa.Pure
