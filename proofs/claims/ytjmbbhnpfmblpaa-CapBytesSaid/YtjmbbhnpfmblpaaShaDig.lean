import Derived.Test.YtjmbbhnpfmblpaaShaAbs
/- The end of a hash, plain. -/
namespace Go.Proofs.Ytjmbbhnpfmblpaa
open Go
theorem step1_m (s : HS) (b : UInt8) : (step1 s b).m = s.m + 1 := by unfold step1; split <;> rfl
theorem absorb_m (l : List UInt8) : ∀ s : HS, (absorb s l).m = s.m + UInt64.ofNat l.length := by
  induction l with
  | nil => intro s; simp [absorb]
  | cons b l ih => intro s; rw [absorb, ih, step1_m, add_one]; rfl
/-- how many zeros there are behind the byte 128. -/
def zerosOf (m : UInt64) : Nat := (119 - m.toNat % 64) % 64
def lenBytes (m : UInt64) : List UInt8 := (List.range 8).map fun i => ((m <<< 3) >>> UInt64.ofNat (56 - 8 * i)).toUInt8
theorem lenBytes_length (m : UInt64) : (lenBytes m).length = 8 := by simp [lenBytes]
theorem lenBytes_succ (m : UInt64) (i : Nat) (h : i < 8) : (lenBytes m).take (i + 1) = (lenBytes m).take i ++ [((m <<< 3) >>> UInt64.ofNat (56 - 8 * i)).toUInt8] := by
  rw [List.take_succ_eq_append_getElem (by rw [lenBytes_length]; exact h)]
  simp [lenBytes]
def tailOf (m : UInt64) : List UInt8 := 128 :: (List.replicate (zerosOf m) 0 ++ lenBytes m)
def closed (s : HS) : HS := absorb s (tailOf s.m)
def wordBytes (l : List UInt32) : List UInt8 := (List.range 32).map fun j => ((l.getD (j / 4) 0) >>> UInt32.ofNat (24 - 8 * (j % 4))).toUInt8
def digest (s : HS) : List UInt8 := wordBytes (closed s).st.l
theorem wordBytes_length (l : List UInt32) : (wordBytes l).length = 32 := by simp [wordBytes]
theorem digest_length (s : HS) : (digest s).length = 32 := wordBytes_length _
/-- the first j of n bytes, zeros behind. -/
def pad8 (l : List UInt8) (j n : Nat) : List Value := (l.take j).map V8 ++ List.replicate (n - j) (V8 0)
theorem pad8_zero (l : List UInt8) (n : Nat) : pad8 l 0 n = List.replicate n (V8 0) := by simp [pad8]
theorem pad8_all (l : List UInt8) (n : Nat) (h : l.length = n) : pad8 l n n = l.map V8 := by simp [pad8, List.take_of_length_le (Nat.le_of_eq h)]
theorem pad8_length (l : List UInt8) (j n : Nat) (h : l.length = n) (hj : j ≤ n) : (pad8 l j n).length = n := by simp [pad8]; omega
theorem pad8_set (l : List UInt8) (j n : Nat) (h : l.length = n) (hj : j < n) (v : UInt8) (hv : l[j]? = some v) : (pad8 l j n).set j (V8 v) = pad8 l (j + 1) n := by
  have h1 : ((l.take j).map V8).length = j := by simp; omega
  have h2 : l.take (j + 1) = l.take j ++ [v] := by
    rw [List.take_add_one, hv]; rfl
  unfold pad8
  rw [List.set_append_right _ _ (by omega), h1, h2, Nat.sub_self]
  have : n - j = (n - (j + 1)) + 1 := by omega
  rw [this, List.replicate_succ]
  simp
theorem wordBytes_get (l : List UInt32) (i k : Nat) (hi : i < 8) (hk : k < 4) : (wordBytes l)[4 * i + k]? = some ((l.getD i 0) >>> UInt32.ofNat (24 - 8 * k)).toUInt8 := by
  have e1 : (4 * i + k) / 4 = i := by omega
  have e2 : (4 * i + k) % 4 = k := by omega
  simp [wordBytes, List.getElem?_map, List.getElem?_range (show 4 * i + k < 32 by omega), e1, e2]
end Go.Proofs.Ytjmbbhnpfmblpaa
