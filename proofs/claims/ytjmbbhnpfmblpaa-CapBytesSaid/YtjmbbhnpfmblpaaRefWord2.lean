import Derived.Test.YtjmbbhnpfmblpaaRef2
import Derived.Test.YtjmbbhnpfmblpaaRefWord
/- The words of a block while they are put together; plain. -/
namespace Go.Proofs.Ytjmbbhnpfmblpaa
open Go
/-- the sixty-four words when i bytes have been read. -/
def wpart (bs : List UInt8) (i : Nat) : List Value := (List.range 64).map fun j => V64 (UInt64.ofNat (pwN bs j (min 4 (i - 4 * j))))
theorem wpart_length (bs : List UInt8) (i : Nat) : (wpart bs i).length = 64 := by simp [wpart]
theorem wpart_get (bs : List UInt8) (i : Nat) (h : i < 64) : (wpart bs i)[i / 4]? = some (V64 (UInt64.ofNat (pwN bs (i / 4) (i % 4)))) := by
  have e : min 4 (i - 4 * (i / 4)) = i % 4 := by omega
  simp [wpart, List.getElem?_range (show i / 4 < 64 by omega), e]
theorem wpart_set (bs : List UInt8) (i : Nat) (h : i < 64) : (wpart bs i).set (i / 4) (V64 (UInt64.ofNat (pwN bs (i / 4) (i % 4 + 1)))) = wpart bs (i + 1) := by
  apply List.ext_getElem?
  intro j
  rw [List.getElem?_set, wpart_length]
  by_cases hj : i / 4 = j
  · subst hj
    have e : min 4 (i + 1 - 4 * (i / 4)) = i % 4 + 1 := by omega
    rw [if_pos rfl, if_pos (by omega)]
    simp [wpart, List.getElem?_range (show i / 4 < 64 by omega), e]
  · rw [if_neg hj]
    by_cases hl : j < 64
    · have e : min 4 (i - 4 * j) = min 4 (i + 1 - 4 * j) := by omega
      simp [wpart, List.getElem?_range hl, e]
    · simp [wpart, show 64 ≤ j by omega]
theorem wpart_zero (bs : List UInt8) : wpart bs 0 = List.replicate 64 (Value.int .u64 0) := by
  apply List.ext_getElem?
  intro j
  by_cases hl : j < 64
  · rw [List.getElem?_replicate, if_pos hl]; simp [wpart, List.getElem?_range hl, pwN, V64]
  · simp [wpart, show 64 ≤ j by omega]
theorem ofNat_word (x : UInt32) : UInt64.ofNat x.toNat = x.toUInt64 := by
  apply UInt64.toNat_inj.1
  have := x.toNat_lt
  rw [UInt64.toNat_ofNat', UInt32.toNat_toUInt64]; omega
theorem firsts_get (bs : List UInt8) : ∀ (n j : Nat), j < n → (firsts bs n)[j]? = some (wordAt bs j)
  | 0, _, h => by omega
  | n + 1, j, h => by
    by_cases hj : j < n
    · rw [firsts, List.getElem?_append_left (by rw [firsts_length]; exact hj)]; exact firsts_get bs n j hj
    · have : j = n := by omega
      subst this
      rw [firsts, List.getElem?_append_right (by rw [firsts_length]; exact Nat.le_refl _), firsts_length]; simp
theorem wpart_all (bs : List UInt8) : wpart bs 64 = padW (firsts bs 16) := by
  apply List.ext_getElem?
  intro j
  have hfl := firsts_length bs 16
  by_cases h1 : j < 16
  · have e : min 4 (64 - 4 * j) = 4 := by omega
    rw [padW, List.getElem?_append_left (by rw [List.length_map, hfl]; exact h1), List.getElem?_map, firsts_get bs 16 j h1]
    simp [wpart, List.getElem?_range (show j < 64 by omega), e, ← wordAt_nat, ofNat_word, W64]
  · by_cases hl : j < 64
    · have e : 64 - 4 * j = 0 := by omega
      rw [padW, List.getElem?_append_right (by rw [List.length_map, hfl]; omega), List.length_map, hfl, List.getElem?_replicate, if_pos (by omega)]
      simp [wpart, List.getElem?_range hl, e, pwN, W64]
    · rw [List.getElem?_eq_none (by rw [wpart_length]; omega), List.getElem?_eq_none (by rw [padW_length _ (by omega)]; omega)]
end Go.Proofs.Ytjmbbhnpfmblpaa
