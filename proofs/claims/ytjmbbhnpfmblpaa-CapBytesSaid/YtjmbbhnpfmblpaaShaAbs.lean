import Derived.Test.YtjmbbhnpfmblpaaShaSpec
/- What a hash has been told, byte by byte; plain. -/
namespace Go.Proofs.Ytjmbbhnpfmblpaa
open Go
structure HS where
  st : S8
  wt : List UInt8
  m : UInt64
def HS.at_ (s : HS) : Nat := s.m.toNat % 64
def step1 (s : HS) (b : UInt8) : HS :=
  if s.at_ = 63 then ⟨comp s.st (s.wt.set s.at_ b), s.wt.set s.at_ b, s.m + 1⟩ else ⟨s.st, s.wt.set s.at_ b, s.m + 1⟩
def absorb (s : HS) : List UInt8 → HS
  | [] => s
  | b :: l => absorb (step1 s b) l
def HS.init : HS := ⟨initS, List.replicate 64 0, 0⟩
theorem absorb_append (s : HS) (a b : List UInt8) : absorb s (a ++ b) = absorb (absorb s a) b := by
  induction a generalizing s with
  | nil => rfl
  | cons x a ih => simp [absorb, ih]
theorem step1_wt (s : HS) (b : UInt8) : (step1 s b).wt.length = s.wt.length := by unfold step1; split <;> simp
theorem absorb_wt (s : HS) (l : List UInt8) : (absorb s l).wt.length = s.wt.length := by
  induction l generalizing s with
  | nil => rfl
  | cons x l ih => rw [absorb, ih, step1_wt]
/-- l written into wt from place k on. -/
def spl (wt : List UInt8) (k : Nat) (l : List UInt8) : List UInt8 := wt.take k ++ l ++ wt.drop (k + l.length)
theorem spl_length (wt : List UInt8) (k : Nat) (l : List UInt8) (h : k + l.length ≤ wt.length) : (spl wt k l).length = wt.length := by simp [spl]; omega
theorem spl_set (wt : List UInt8) (k : Nat) (b : UInt8) (l : List UInt8) (h : k + (l.length + 1) ≤ wt.length) : spl (wt.set k b) (k + 1) l = spl wt k (b :: l) := by
  unfold spl
  have e1 : (wt.set k b).take (k + 1) = wt.take k ++ [b] := by
    rw [List.take_set, List.take_succ_eq_append_getElem (by omega)]
    have : (wt.take k).length = k := by rw [List.length_take]; omega
    rw [List.set_append_right _ _ (by omega), this]; simp
  have e2 : (wt.set k b).drop (k + 1 + l.length) = wt.drop (k + (b :: l).length) := by
    rw [List.drop_set_of_lt (by omega)]; congr 1; simp; omega
  rw [e1, e2]; simp
theorem at_add (m : UInt64) (k : Nat) (h : m.toNat % 64 + k < 64) : (m + UInt64.ofNat k).toNat % 64 = m.toNat % 64 + k := by
  rw [UInt64.toNat_add, UInt64.toNat_ofNat']; omega
theorem add_one (m : UInt64) (k : Nat) : m + 1 + UInt64.ofNat k = m + UInt64.ofNat (k + 1) := by
  apply UInt64.toNat_inj.1
  rw [UInt64.toNat_add, UInt64.toNat_add, UInt64.toNat_add, UInt64.toNat_ofNat', UInt64.toNat_ofNat']
  have : (1 : UInt64).toNat = 1 := rfl
  omega
theorem absorb_less (l : List UInt8) : ∀ s : HS, s.wt.length = 64 → s.at_ + l.length < 64 → absorb s l = ⟨s.st, spl s.wt s.at_ l, s.m + UInt64.ofNat l.length⟩ := by
  induction l with
  | nil => intro s hw _; simp [absorb, spl]
  | cons b l ih =>
    intro s hw h
    have h63 : s.at_ ≠ 63 := by simp at h; omega
    have e : step1 s b = ⟨s.st, s.wt.set s.at_ b, s.m + 1⟩ := by unfold step1; rw [if_neg h63]
    have ha : (s.m + 1).toNat % 64 = s.at_ + 1 := at_add s.m 1 (by simp [HS.at_] at h ⊢; omega)
    rw [absorb, e, ih _ (by simpa using hw) (by simp only [HS.at_, List.length_cons] at h ha ⊢; omega)]
    simp only [HS.at_] at ha ⊢
    rw [ha]
    have := spl_set s.wt (s.m.toNat % 64) b l (by simp [HS.at_] at h; omega)
    rw [this, add_one]; rfl
theorem absorb_full (l : List UInt8) : ∀ s : HS, s.wt.length = 64 → s.at_ + l.length = 64 → l ≠ [] → absorb s l = ⟨comp s.st (spl s.wt s.at_ l), spl s.wt s.at_ l, s.m + UInt64.ofNat l.length⟩ := by
  induction l with
  | nil => intro s _ _ h; exact absurd rfl h
  | cons b l ih =>
    intro s hw h _
    by_cases hl : l = []
    · subst hl
      have h63 : s.at_ = 63 := by simp at h; omega
      have e : step1 s b = ⟨comp s.st (s.wt.set s.at_ b), s.wt.set s.at_ b, s.m + 1⟩ := by unfold step1; rw [if_pos h63]
      have e2 : spl s.wt s.at_ [b] = s.wt.set s.at_ b := by
        have := spl_set s.wt s.at_ b [] (by simp; omega)
        rw [← this, spl]; simp
      rw [absorb, absorb, e, e2]; rfl
    · have hpos : 0 < l.length := List.length_pos_iff.2 hl
      have h63 : s.at_ ≠ 63 := by simp at h; omega
      have e : step1 s b = ⟨s.st, s.wt.set s.at_ b, s.m + 1⟩ := by unfold step1; rw [if_neg h63]
      have ha : (s.m + 1).toNat % 64 = s.at_ + 1 := at_add s.m 1 (by simp [HS.at_] at h ⊢; omega)
      rw [absorb, e, ih _ (by simpa using hw) (by simp only [HS.at_, List.length_cons] at h ha ⊢; omega) hl]
      simp only [HS.at_] at ha ⊢
      rw [ha]
      have := spl_set s.wt (s.m.toNat % 64) b l (by simp [HS.at_] at h; omega)
      rw [this, add_one]; rfl
end Go.Proofs.Ytjmbbhnpfmblpaa
