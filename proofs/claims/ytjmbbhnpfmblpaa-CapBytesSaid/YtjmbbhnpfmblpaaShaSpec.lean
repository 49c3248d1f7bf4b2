import Derived.Test.YtjmbbhnpfmblpaaKInt
/- SHA-256 as the program reckons it, on words and lists. Plain. -/
namespace Go.Proofs.Ytjmbbhnpfmblpaa
open Go
def rotl (x : UInt32) (k : Nat) : UInt32 := (x <<< UInt32.ofNat k) ||| (x >>> UInt32.ofNat (32 - k))
/-- word j of a block. -/
def wordAt (b : List UInt8) (j : Nat) : UInt32 :=
  (((b.getD (4 * j) 0).toUInt32 <<< UInt32.ofNat 24) ||| ((b.getD (4 * j + 1) 0).toUInt32 <<< UInt32.ofNat 16) ||| ((b.getD (4 * j + 2) 0).toUInt32 <<< UInt32.ofNat 8)) ||| (b.getD (4 * j + 3) 0).toUInt32
def firsts (b : List UInt8) : Nat → List UInt32
  | 0 => []
  | j + 1 => firsts b j ++ [wordAt b j]
def sg0 (x : UInt32) : UInt32 := (rotl x 25 ^^^ rotl x 14) ^^^ (x >>> UInt32.ofNat 3)
def sg1 (y : UInt32) : UInt32 := (rotl y 15 ^^^ rotl y 13) ^^^ (y >>> UInt32.ofNat 10)
def nextWord (l : List UInt32) : UInt32 :=
  (l.getD (l.length - 16) 0 + sg0 (l.getD (l.length - 15) 0) + l.getD (l.length - 7) 0) + sg1 (l.getD (l.length - 2) 0)
def sched (b : List UInt8) : Nat → List UInt32
  | 0 => firsts b 16
  | k + 1 => sched b k ++ [nextWord (sched b k)]
structure S8 where
  a : UInt32
  b : UInt32
  c : UInt32
  d : UInt32
  e : UInt32
  f : UInt32
  g : UInt32
  h : UInt32
def S8.l (s : S8) : List UInt32 := [s.a, s.b, s.c, s.d, s.e, s.f, s.g, s.h]
def primeWords : List UInt32 := [
  0x428a2f98, 0x71374491, 0xb5c0fbcf, 0xe9b5dba5, 0x3956c25b, 0x59f111f1, 0x923f82a4, 0xab1c5ed5,
  0xd807aa98, 0x12835b01, 0x243185be, 0x550c7dc3, 0x72be5d74, 0x80deb1fe, 0x9bdc06a7, 0xc19bf174,
  0xe49b69c1, 0xefbe4786, 0x0fc19dc6, 0x240ca1cc, 0x2de92c6f, 0x4a7484aa, 0x5cb0a9dc, 0x76f988da,
  0x983e5152, 0xa831c66d, 0xb00327c8, 0xbf597fc7, 0xc6e00bf3, 0xd5a79147, 0x06ca6351, 0x14292967,
  0x27b70a85, 0x2e1b2138, 0x4d2c6dfc, 0x53380d13, 0x650a7354, 0x766a0abb, 0x81c2c92e, 0x92722c85,
  0xa2bfe8a1, 0xa81a664b, 0xc24b8b70, 0xc76c51a3, 0xd192e819, 0xd6990624, 0xf40e3585, 0x106aa070,
  0x19a4c116, 0x1e376c08, 0x2748774c, 0x34b0bcb5, 0x391c0cb3, 0x4ed8aa4a, 0x5b9cca4f, 0x682e6ff3,
  0x748f82ee, 0x78a5636f, 0x84c87814, 0x8cc70208, 0x90befffa, 0xa4506ceb, 0xbef9a3f7, 0xc67178f2]
def initS : S8 := ⟨0x6a09e667, 0xbb67ae85, 0x3c6ef372, 0xa54ff53a, 0x510e527f, 0x9b05688c, 0x1f83d9ab, 0x5be0cd19⟩
def rnd (s : S8) (k w : UInt32) : S8 :=
  let up := (rotl s.e 26 ^^^ rotl s.e 21) ^^^ rotl s.e 7
  let x := (((s.h + up) + ((s.e &&& s.f) ^^^ (~~~s.e &&& s.g))) + k) + w
  let down := (rotl s.a 30 ^^^ rotl s.a 19) ^^^ rotl s.a 10
  let y := down + (((s.a &&& s.b) ^^^ (s.a &&& s.c)) ^^^ (s.b &&& s.c))
  ⟨x + y, s.a, s.b, s.c, s.d + x, s.e, s.f, s.g⟩
def rnds (ws : List UInt32) (s : S8) : Nat → S8
  | 0 => s
  | i + 1 => rnd (rnds ws s i) (primeWords.getD i 0) (ws.getD i 0)
def addS (s t : S8) : S8 := ⟨s.a + t.a, s.b + t.b, s.c + t.c, s.d + t.d, s.e + t.e, s.f + t.f, s.g + t.g, s.h + t.h⟩
def comp (s : S8) (blk : List UInt8) : S8 := addS s (rnds (sched blk 48) s 64)
theorem firsts_length (b : List UInt8) : ∀ j, (firsts b j).length = j
  | 0 => rfl
  | j + 1 => by simp [firsts, firsts_length b j]
theorem sched_length (b : List UInt8) : ∀ k, (sched b k).length = 16 + k
  | 0 => firsts_length b 16
  | k + 1 => by simp [sched, sched_length b k]; omega
/-- words, and zeros behind them, 64 in all. -/
def pad64 (l : List UInt32) : List Value := l.map V32 ++ List.replicate (64 - l.length) (V32 0)
theorem pad64_length (l : List UInt32) (h : l.length ≤ 64) : (pad64 l).length = 64 := by simp [pad64]; omega
theorem pad64_get (l : List UInt32) (j : Nat) (h : j < l.length) : (pad64 l)[j]? = some (V32 (l.getD j 0)) := by
  rw [pad64, List.getElem?_append_left (by simpa using h)]
  simp [h]
theorem pad64_set (l : List UInt32) (v : UInt32) (h : l.length < 64) : (pad64 l).set l.length (V32 v) = pad64 (l ++ [v]) := by
  unfold pad64
  rw [List.set_append_right _ _ (by simp)]
  have : 64 - l.length = (64 - (l ++ [v]).length) + 1 := by simp; omega
  rw [this, List.replicate_succ]
  simp
end Go.Proofs.Ytjmbbhnpfmblpaa
