/- Bits of numbers: and, or, xor, and not, as operations on natural numbers. -/
import Derived.Test.YtodaanhhnjkncaaDoorInv
namespace Go.Proofs.YtodaanhhnjkncaaDoor
open Go.RowKit

def andN (x y : Int) : Int := ((x.toNat &&& y.toNat : Nat) : Int)
def orN (x y : Int) : Int := ((x.toNat ||| y.toNat : Nat) : Int)
def xorN (x y : Int) : Int := ((x.toNat ^^^ y.toNat : Nat) : Int)
def andNotN (x y : Int) : Int := ((x.toNat ^^^ (x.toNat &&& y.toNat) : Nat) : Int)
theorem bits_and_u64 {x y : Int} (hx : 0 ≤ x) (hx' : x ≤ 18446744073709551615) (hy : 0 ≤ y) (hy' : y ≤ 18446744073709551615) : bits .and .u64 x y = andN x y := by
  obtain ⟨a, rfl⟩ := Int.eq_ofNat_of_zero_le hx
  obtain ⟨b, rfl⟩ := Int.eq_ofNat_of_zero_le hy
  show IntKind.u64.wrap ((BitVec.ofInt 64 (a : Int) &&& BitVec.ofInt 64 (b : Int)).toNat : Int) = _
  rw [BitVec.ofInt_natCast, BitVec.ofInt_natCast, BitVec.toNat_and, BitVec.toNat_ofNat, BitVec.toNat_ofNat, Nat.mod_eq_of_lt (by omega), Nat.mod_eq_of_lt (by omega)]
  have : a &&& b ≤ a := Nat.and_le_left
  exact w_u64 (by omega) (by omega)
theorem bits_or_u64 {x y : Int} (hx : 0 ≤ x) (hx' : x ≤ 18446744073709551615) (hy : 0 ≤ y) (hy' : y ≤ 18446744073709551615) : bits .or .u64 x y = orN x y := by
  obtain ⟨a, rfl⟩ := Int.eq_ofNat_of_zero_le hx
  obtain ⟨b, rfl⟩ := Int.eq_ofNat_of_zero_le hy
  show IntKind.u64.wrap ((BitVec.ofInt 64 (a : Int) ||| BitVec.ofInt 64 (b : Int)).toNat : Int) = _
  rw [BitVec.ofInt_natCast, BitVec.ofInt_natCast, BitVec.toNat_or, BitVec.toNat_ofNat, BitVec.toNat_ofNat, Nat.mod_eq_of_lt (by omega), Nat.mod_eq_of_lt (by omega)]
  have : a ||| b < 2 ^ 64 := Nat.or_lt_two_pow (by omega) (by omega)
  exact w_u64 (by omega) (by omega)
theorem bits_xor_u64 {x y : Int} (hx : 0 ≤ x) (hx' : x ≤ 18446744073709551615) (hy : 0 ≤ y) (hy' : y ≤ 18446744073709551615) : bits .xor .u64 x y = xorN x y := by
  obtain ⟨a, rfl⟩ := Int.eq_ofNat_of_zero_le hx
  obtain ⟨b, rfl⟩ := Int.eq_ofNat_of_zero_le hy
  show IntKind.u64.wrap ((BitVec.ofInt 64 (a : Int) ^^^ BitVec.ofInt 64 (b : Int)).toNat : Int) = _
  rw [BitVec.ofInt_natCast, BitVec.ofInt_natCast, BitVec.toNat_xor, BitVec.toNat_ofNat, BitVec.toNat_ofNat, Nat.mod_eq_of_lt (by omega), Nat.mod_eq_of_lt (by omega)]
  have : a ^^^ b < 2 ^ 64 := Nat.xor_lt_two_pow (by omega) (by omega)
  exact w_u64 (by omega) (by omega)
theorem nat_andNot {n a b : Nat} (ha : a < 2 ^ n) (hb : b < 2 ^ n) : (BitVec.ofNat n a &&& ~~~ BitVec.ofNat n b).toNat = a ^^^ (a &&& b) := by
  have e : BitVec.ofNat n a &&& ~~~ BitVec.ofNat n b = BitVec.ofNat n a ^^^ (BitVec.ofNat n a &&& BitVec.ofNat n b) := by
    apply BitVec.eq_of_getLsbD_eq
    intro i hi
    simp only [BitVec.getLsbD_and, BitVec.getLsbD_not, BitVec.getLsbD_xor, hi, decide_true, Bool.true_and]
    cases (BitVec.ofNat n a).getLsbD i <;> cases (BitVec.ofNat n b).getLsbD i <;> rfl
  have e2 : (BitVec.ofNat n a &&& BitVec.ofNat n b).toNat = a &&& b := by
    rw [BitVec.toNat_and, BitVec.toNat_ofNat, BitVec.toNat_ofNat, Nat.mod_eq_of_lt ha, Nat.mod_eq_of_lt hb]
  rw [e, BitVec.toNat_xor, e2, BitVec.toNat_ofNat, Nat.mod_eq_of_lt ha]
theorem xor_zero_iff {a b : Nat} : a ^^^ b = 0 ↔ a = b := by
  constructor
  · intro h
    apply Nat.eq_of_testBit_eq
    intro i
    have := congrArg (fun x => x.testBit i) h
    simp only [Nat.testBit_xor, Nat.zero_testBit] at this
    cases ha : a.testBit i <;> cases hb : b.testBit i <;> simp_all
  · rintro rfl; exact Nat.xor_self a
theorem andNotN_zero {x y : Int} (hx : 0 ≤ x) : andNotN x y = 0 ↔ andN x y = x := by
  unfold andNotN andN
  constructor
  · intro h
    have := xor_zero_iff.1 (show x.toNat ^^^ (x.toNat &&& y.toNat) = 0 by omega)
    omega
  · intro h
    have : x.toNat = x.toNat &&& y.toNat := by omega
    have := xor_zero_iff.2 this
    omega
theorem bits_andNot_u64 {x y : Int} (hx : 0 ≤ x) (hx' : x ≤ 18446744073709551615) (hy : 0 ≤ y) (hy' : y ≤ 18446744073709551615) : bits .andNot .u64 x y = andNotN x y := by
  obtain ⟨a, rfl⟩ := Int.eq_ofNat_of_zero_le hx
  obtain ⟨b, rfl⟩ := Int.eq_ofNat_of_zero_le hy
  show IntKind.u64.wrap ((BitVec.ofInt 64 (a : Int) &&& ~~~ BitVec.ofInt 64 (b : Int)).toNat : Int) = _
  rw [BitVec.ofInt_natCast, BitVec.ofInt_natCast, nat_andNot (by omega) (by omega)]
  have h1 : a &&& b ≤ a := Nat.and_le_left
  have : a ^^^ (a &&& b) < 2 ^ 64 := Nat.xor_lt_two_pow (by omega) (by omega)
  exact w_u64 (by omega) (by omega)
theorem bits_or_i64 {x y : Int} (hx : 0 ≤ x) (hx' : x ≤ 9223372036854775807) (hy : 0 ≤ y) (hy' : y ≤ 9223372036854775807) : bits .or .i64 x y = orN x y := by
  obtain ⟨a, rfl⟩ := Int.eq_ofNat_of_zero_le hx
  obtain ⟨b, rfl⟩ := Int.eq_ofNat_of_zero_le hy
  show IntKind.i64.wrap ((BitVec.ofInt 64 (a : Int) ||| BitVec.ofInt 64 (b : Int)).toNat : Int) = _
  rw [BitVec.ofInt_natCast, BitVec.ofInt_natCast, BitVec.toNat_or, BitVec.toNat_ofNat, BitVec.toNat_ofNat, Nat.mod_eq_of_lt (by omega), Nat.mod_eq_of_lt (by omega)]
  have : a ||| b < 2 ^ 63 := Nat.or_lt_two_pow (by omega) (by omega)
  exact w_i64 (by omega) (by omega)
/-- Bit i. -/
def bitN (x : Int) (i : Nat) : Bool := x.toNat.testBit i
theorem bitN_iff {x : Int} (hx : 0 ≤ x) (i : Nat) : x / 2 ^ i % 2 = 1 ↔ bitN x i = true := by
  obtain ⟨a, rfl⟩ := Int.eq_ofNat_of_zero_le hx
  unfold bitN
  rw [Int.toNat_natCast, Nat.testBit_eq_decide_div_mod_eq, decide_eq_true_eq]
  have : ((a : Int) / 2 ^ i % 2) = ((a / 2 ^ i % 2 : Nat) : Int) := by simp
  rw [this]; omega
theorem bitN_or (x y : Int) (i : Nat) : bitN (orN x y) i = (bitN x i || bitN y i) := by
  unfold bitN orN; rw [Int.toNat_natCast, Nat.testBit_or]
theorem orN_lt {x y : Int} {n : Nat} (hx : x.toNat < 2 ^ n) (hy : y.toNat < 2 ^ n) : 0 ≤ orN x y ∧ (orN x y).toNat < 2 ^ n := by
  unfold orN; exact ⟨by omega, by rw [Int.toNat_natCast]; exact Nat.or_lt_two_pow hx hy⟩
end Go.Proofs.YtodaanhhnjkncaaDoor
