import Derived.Test.YtjmbbhnpfmblpaaShaAbs
import Derived.Test.YtjmbbhnpfmblpaaK4
/- The document's words: numbers below 2^32, turned bit by bit. Plain. -/
namespace Go.Proofs.Ytjmbbhnpfmblpaa
open Go
def W64 (x : UInt32) : Value := V64 x.toUInt64
def turnN (x : Nat) : Nat → Nat
  | 0 => x
  | i + 1 => turnN x i / 2 + turnN x i % 2 * 2147483648
theorem turnN_eq (x : Nat) : ∀ i, i ≤ 31 → turnN x i = x / 2 ^ i + (x % 2 ^ i) * 2 ^ (32 - i)
  | 0, _ => by simp [turnN, Nat.mod_one]
  | i + 1, h => by
    have ih := turnN_eq x i (by omega)
    have e1 : 2 ^ (32 - i) = 2 * 2 ^ (31 - i) := by
      rw [show 32 - i = (31 - i) + 1 by omega, Nat.pow_succ, Nat.mul_comm]
    have e2 : 2 ^ (32 - (i + 1)) = 2 ^ (31 - i) := by rw [show 32 - (i + 1) = 31 - i by omega]
    have e3 : x % 2 ^ (i + 1) = x % 2 ^ i + (x / 2 ^ i % 2) * 2 ^ i := by
      rw [Nat.pow_succ, Nat.mod_mul]; rw [Nat.mul_comm]
    have e4 : 2 ^ i * 2 ^ (31 - i) = 2147483648 := by
      rw [← Nat.pow_add, show i + (31 - i) = 31 by omega]
    have e5 : x / 2 ^ (i + 1) = x / 2 ^ i / 2 := by rw [Nat.pow_succ, Nat.div_div_eq_div_mul]
    rw [turnN, ih, e1, e2, e3, e5]
    generalize x / 2 ^ i = q at *
    generalize x % 2 ^ i = r at *
    generalize 2 ^ (31 - i) = p at *
    have e6 : r * (2 * p) = 2 * (r * p) := by rw [Nat.mul_left_comm]
    have e7 : (r + q % 2 * 2 ^ i) * p = r * p + q % 2 * 2147483648 := by
      rw [Nat.add_mul, Nat.mul_assoc, e4]
    rw [e6, e7]
    omega
theorem turnN_lt (x : Nat) (hx : x < 4294967296) : ∀ i, turnN x i < 4294967296
  | 0 => hx
  | i + 1 => by have := turnN_lt x hx i; rw [turnN]; omega
def turn64 (x : UInt64) : Nat → UInt64
  | 0 => x
  | i + 1 => turn64 x i / 2 + turn64 x i % 2 * 2147483648
theorem turn64_nat (x : UInt32) : ∀ i, (turn64 x.toUInt64 i).toNat = turnN x.toNat i
  | 0 => by simp [turn64, turnN]
  | i + 1 => by
    have ih := turn64_nat x i
    have hl := turnN_lt x.toNat x.toNat_lt i
    rw [turn64, turnN, UInt64.toNat_add, UInt64.toNat_mul, UInt64.toNat_div, UInt64.toNat_mod, ih]
    have e2 : (2 : UInt64).toNat = 2 := rfl
    have e3 : (2147483648 : UInt64).toNat = 2147483648 := rfl
    rw [e2, e3]
    omega
theorem rotl_nat (x : UInt32) (n : Nat) (h0 : 0 < n) (h : n < 32) : (rotl x (32 - n)).toNat = turnN x.toNat n := by
  rw [turnN_eq _ n (by omega), rotl, UInt32.toNat_or, UInt32.toNat_shiftLeft, UInt32.toNat_shiftRight]
  have e1 : (UInt32.ofNat (32 - n)).toNat % 32 = 32 - n := by rw [UInt32.toNat_ofNat']; omega
  have e2 : (UInt32.ofNat (32 - (32 - n))).toNat % 32 = n := by rw [UInt32.toNat_ofNat']; omega
  rw [e1, e2, Nat.shiftRight_eq_div_pow, Nat.shiftLeft_eq]
  have hx := x.toNat_lt
  have e3 : x.toNat * 2 ^ (32 - n) % 2 ^ 32 = (x.toNat % 2 ^ n) * 2 ^ (32 - n) := by
    have : 2 ^ 32 = 2 ^ n * 2 ^ (32 - n) := by rw [← Nat.pow_add]; congr 1; omega
    rw [this, Nat.mul_mod_mul_right]
  rw [e3, Nat.add_comm, ← Nat.shiftLeft_eq]
  refine (Nat.shiftLeft_add_eq_or_of_lt ?_ _).symm
  have : 2 ^ 32 = 2 ^ (32 - n) * 2 ^ n := by rw [← Nat.pow_add]; congr 1; omega
  exact Nat.div_lt_of_lt_mul (by rw [Nat.mul_comm, ← this]; exact hx)
theorem turn64_eq (x : UInt32) (n : Nat) (h0 : 0 < n) (h : n < 32) : turn64 x.toUInt64 n = (rotl x (32 - n)).toUInt64 := by
  apply UInt64.toNat_inj.1
  rw [turn64_nat, UInt32.toNat_toUInt64, rotl_nat x n h0 h]
def down64 (x : UInt64) : Nat → UInt64
  | 0 => x
  | i + 1 => down64 x i / 2
theorem down64_nat (x : UInt64) : ∀ i, (down64 x i).toNat = x.toNat / 2 ^ i
  | 0 => by simp [down64]
  | i + 1 => by
    rw [down64, UInt64.toNat_div, down64_nat x i, Nat.pow_succ, Nat.div_div_eq_div_mul]; rfl
theorem down64_eq (x : UInt32) (n : Nat) (h : n < 32) : down64 x.toUInt64 n = (x >>> UInt32.ofNat n).toUInt64 := by
  apply UInt64.toNat_inj.1
  rw [down64_nat, UInt32.toNat_toUInt64, UInt32.toNat_toUInt64, UInt32.toNat_shiftRight, Nat.shiftRight_eq_div_pow]
  have e1 : (UInt32.ofNat n).toNat % 32 = n := by rw [UInt32.toNat_ofNat']; omega
  rw [e1]
theorem and_all (x : UInt64) : x &&& 4294967295 = x.toUInt32.toUInt64 := by
  apply UInt64.toNat_inj.1
  rw [UInt64.toNat_and, UInt32.toNat_toUInt64, UInt64.toNat_toUInt32]
  have : (4294967295 : UInt64).toNat = 2 ^ 32 - 1 := rfl
  rw [this, Nat.and_two_pow_sub_one_eq_mod]
section
variable {P : Program} {t : TypeId} {w : World}
theorem b_quo_u64 {x y : UInt64} (h : y.toNat ≠ 0) : (binOp .quo t (V64 x) (V64 y)).run P w = .ok (V64 (x / y)) w := by
  have hx := u64_lt x
  have h2 : (y.toNat : Int) ≠ 0 := by omega
  have e1 : (x.toNat : Int) / (y.toNat : Int) = ((x.toNat / y.toNat : Nat) : Int) := by simp
  have h3 := Nat.div_le_self x.toNat y.toNat
  have e : IntKind.u64.wrap ((x.toNat : Int) / (y.toNat : Int)) = ((x / y).toNat : Int) := by
    rw [wrap_u64, UInt64.toNat_div, e1]
    generalize x.toNat / y.toNat = q at h3
    omega
  simp [binOp, Op.intDiv, h, e, Int.tdiv_eq_ediv_of_nonneg (show (0 : Int) ≤ (x.toNat : Int) by omega)]
theorem b_rem_u64 {x y : UInt64} (h : y.toNat ≠ 0) : (binOp .rem t (V64 x) (V64 y)).run P w = .ok (V64 (x % y)) w := by
  have e := b_rem (P := P) (t := t) (w := w) (k := .u64) (a := (x.toNat : Int)) (b := (y.toNat : Int)) (by omega) (by omega)
  rw [show V64 (x % y) = .int .u64 ((x.toNat : Int) % (y.toNat : Int)) by rw [V64, UInt64.toNat_mod]; simp]
  exact e
end
end Go.Proofs.Ytjmbbhnpfmblpaa
