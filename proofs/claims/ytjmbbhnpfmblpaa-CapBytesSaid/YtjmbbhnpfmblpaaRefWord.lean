import Derived.Test.YtjmbbhnpfmblpaaShaSpec
/- Words of a block, put together byte by byte; plain. -/
namespace Go.Proofs.Ytjmbbhnpfmblpaa
open Go
/-- the first c bytes of word j of a block, as a number. -/
def pwN (bs : List UInt8) (j : Nat) : Nat → Nat
  | 0 => 0
  | c + 1 => pwN bs j c * 256 + (bs.getD (4 * j + c) 0).toNat
theorem pwN_lt (bs : List UInt8) (j : Nat) : ∀ c, pwN bs j c < 256 ^ c
  | 0 => by simp [pwN]
  | c + 1 => by
    have ih := pwN_lt bs j c
    have hb := (bs.getD (4 * j + c) 0).toNat_lt
    rw [pwN, Nat.pow_succ]
    generalize 256 ^ c = p at *
    omega
theorem wordAt_nat (bs : List UInt8) (j : Nat) : (wordAt bs j).toNat = pwN bs j 4 := by
  simp only [wordAt, pwN, Nat.add_zero, Nat.zero_mul, Nat.zero_add]
  generalize bs.getD (4 * j) 0 = a
  generalize bs.getD (4 * j + 1) 0 = b
  generalize bs.getD (4 * j + 2) 0 = c
  generalize bs.getD (4 * j + 3) 0 = d
  have ha := a.toNat_lt
  have hb := b.toNat_lt
  have hc := c.toNat_lt
  have hd := d.toNat_lt
  have e24 : (UInt32.ofNat 24).toNat % 32 = 24 := rfl
  have e16 : (UInt32.ofNat 16).toNat % 32 = 16 := rfl
  have e8 : (UInt32.ofNat 8).toNat % 32 = 8 := rfl
  simp only [UInt32.toNat_or, UInt32.toNat_shiftLeft, UInt8.toNat_toUInt32, e24, e16, e8]
  have m1 : a.toNat <<< 24 % 2 ^ 32 = a.toNat <<< 24 := by rw [Nat.shiftLeft_eq]; omega
  have m2 : b.toNat <<< 16 % 2 ^ 32 = b.toNat <<< 16 := by rw [Nat.shiftLeft_eq]; omega
  have m3 : c.toNat <<< 8 % 2 ^ 32 = c.toNat <<< 8 := by rw [Nat.shiftLeft_eq]; omega
  rw [m1, m2, m3, Nat.or_assoc, Nat.or_assoc]
  have s3 : c.toNat <<< 8 ||| d.toNat = c.toNat <<< 8 + d.toNat := (Nat.shiftLeft_add_eq_or_of_lt (by omega) _).symm
  have s2 : b.toNat <<< 16 ||| (c.toNat <<< 8 + d.toNat) = b.toNat <<< 16 + (c.toNat <<< 8 + d.toNat) := (Nat.shiftLeft_add_eq_or_of_lt (by rw [Nat.shiftLeft_eq]; omega) _).symm
  have s1 : a.toNat <<< 24 ||| (b.toNat <<< 16 + (c.toNat <<< 8 + d.toNat)) = a.toNat <<< 24 + (b.toNat <<< 16 + (c.toNat <<< 8 + d.toNat)) := (Nat.shiftLeft_add_eq_or_of_lt (by rw [Nat.shiftLeft_eq, Nat.shiftLeft_eq]; omega) _).symm
  rw [s3, s2, s1, Nat.shiftLeft_eq, Nat.shiftLeft_eq, Nat.shiftLeft_eq]
  omega
end Go.Proofs.Ytjmbbhnpfmblpaa
