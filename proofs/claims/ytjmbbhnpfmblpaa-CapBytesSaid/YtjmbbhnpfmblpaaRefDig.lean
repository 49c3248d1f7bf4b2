import Derived.Test.YtjmbbhnpfmblpaaShaDig
/- A text hashed block by block; plain. -/
namespace Go.Proofs.Ytjmbbhnpfmblpaa
open Go
def foldB (st : S8) (M : List UInt8) : Nat → S8
  | 0 => st
  | n + 1 => comp (foldB st M n) ((M.drop (64 * n)).take 64)
theorem foldB_ext (st : S8) (M M' : List UInt8) : ∀ n, M.take (64 * n) = M'.take (64 * n) → foldB st M n = foldB st M' n
  | 0, _ => rfl
  | n + 1, h => by
    have h1 : M.take (64 * n) = M'.take (64 * n) := by
      have := congrArg (List.take (64 * n)) h
      rwa [List.take_take, List.take_take, Nat.min_eq_left (by omega)] at this
    have h2 : (M.drop (64 * n)).take 64 = (M'.drop (64 * n)).take 64 := by
      have := congrArg (List.drop (64 * n)) h
      rwa [List.drop_take, List.drop_take, show 64 * (n + 1) - 64 * n = 64 by omega] at this
    rw [foldB, foldB, foldB_ext st M M' n h1, h2]
theorem absorb_blocks (s : HS) (hwt : s.wt.length = 64) (hat : s.at_ = 0) : ∀ (n : Nat) (M : List UInt8), M.length = 64 * n → (absorb s M).st = foldB s.st M n
  | 0, M, h => by
    have : M = [] := List.length_eq_zero_iff.1 (by omega)
    subst this; rfl
  | n + 1, M, h => by
    have ih := absorb_blocks s hwt hat n (M.take (64 * n)) (by rw [List.length_take]; omega)
    have e : M = M.take (64 * n) ++ M.drop (64 * n) := (List.take_append_drop _ _).symm
    have hl : (M.drop (64 * n)).length = 64 := by rw [List.length_drop]; omega
    have ha : (absorb s (M.take (64 * n))).at_ = 0 := by
      simp only [HS.at_] at hat ⊢
      rw [absorb_m, List.length_take, UInt64.toNat_add, UInt64.toNat_ofNat', Nat.min_eq_left (by omega)]
      omega
    have hw : (absorb s (M.take (64 * n))).wt.length = 64 := by rw [absorb_wt, hwt]
    have hf := absorb_full (M.drop (64 * n)) (absorb s (M.take (64 * n))) hw (by rw [ha, hl]) (fun e => by rw [e] at hl; simp at hl)
    have hsp : spl (absorb s (M.take (64 * n))).wt 0 (M.drop (64 * n)) = M.drop (64 * n) := by
      have hd : (absorb s (M.take (64 * n))).wt.drop (0 + (M.drop (64 * n)).length) = [] := List.drop_of_length_le (by rw [hl]; omega)
      unfold spl
      rw [hd, List.take_zero, List.nil_append, List.append_nil]
    rw [ha, hsp] at hf
    have e2 : absorb s M = absorb (absorb s (M.take (64 * n))) (M.drop (64 * n)) := by rw [← absorb_append, ← e]
    rw [e2, hf]
    simp only
    rw [ih, foldB, foldB_ext s.st (M.take (64 * n)) M n (by rw [List.take_take, Nat.min_self]), List.take_of_length_le (Nat.le_of_eq hl)]
/-- the text with what stands behind it. -/
def padded (l : List UInt8) : List UInt8 := l ++ tailOf (UInt64.ofNat l.length)
theorem init_at : HS.at_ HS.init = 0 := rfl
theorem digest_padded (l : List UInt8) (n : Nat) (h : (padded l).length = 64 * n) : digest (absorb HS.init l) = wordBytes (foldB initS (padded l) n).l := by
  have hm : (absorb HS.init l).m = UInt64.ofNat l.length := by
    rw [absorb_m]
    show (0 : UInt64) + _ = _
    rw [UInt64.zero_add]
  rw [digest, closed, hm, ← absorb_append]
  have := absorb_blocks HS.init rfl init_at n (padded l) h
  rw [padded] at this
  rw [this]; rfl
theorem padded_len (l : List UInt8) (h : l.length < 1152921504606846976) : 64 ∣ (padded l).length := by
  have e : (UInt64.ofNat l.length).toNat = l.length := by rw [UInt64.toNat_ofNat']; omega
  simp only [padded, tailOf, zerosOf, e, List.length_append, List.length_cons, List.length_replicate, lenBytes_length]
  omega
end Go.Proofs.Ytjmbbhnpfmblpaa
