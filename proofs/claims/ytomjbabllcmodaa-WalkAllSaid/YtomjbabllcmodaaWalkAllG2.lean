/- Lemmas for the statement WalkAll, part 2: rules of operations, walks through functions, plain laws. -/
import Derived.Test.YtomjbabllcmodaaWalkAllG1
import Derived.DeepKeys3
import Derived.Ground.SlsfProg
import Derived.Lib.Bytealg
import Derived.Lib.Slices
import Derived.Lib.Strings
import Derived.Lib.Walk
import Derived.OrdersIn
import Derived.RangeFuncCalls
import Derived.RangeFuncIn
import Derived.RangeFuncRecord
import Derived.RangeFuncSeq
import Derived.Shelf.SlSortCmp.NoneTotal
import Derived.TacticsIn
namespace Go.Proofs.Ytomjbabllcmodaa
open Go Go.MapKept
theorem Hp.permT {w0 w : World} {S : List Nat} {L L' T : List Ch} (h : Hp w0 w S (L ++ T)) (hp : L.Perm L') : Hp w0 w S (L' ++ T) := h.permL (hp.append_right T)
theorem Hp.ownT {w0 w : World} {S : List Nat} {L L1 Lr T : List Ch} (h : Hp w0 w S (L ++ T)) (hp : L.Perm (L1 ++ Lr)) : Own w (L1 ++ T) := by
  have h1 := (h.permT hp).permL (L' := (L1 ++ T) ++ Lr) (by
    rw [List.append_assoc, List.append_assoc]
    exact List.Perm.append_left _ List.perm_append_comm)
  exact h1.own1 rfl
theorem Hp.callT {w0 w w' : World} {S : List Nat} {L L1 Lr L1' L' T T' : List Ch} (h : Hp w0 w S (L ++ T)) (hp : L.Perm (L1 ++ Lr)) (hc : Hp w w' (keys (L1 ++ T)) (L1' ++ T')) (hq : (Lr ++ L1').Perm L') : Hp w0 w' S (L' ++ T') := by
  have h1 := (h.permT hp).permL (L' := (L1 ++ T) ++ Lr) (by
    rw [List.append_assoc, List.append_assoc]
    exact List.Perm.append_left _ List.perm_append_comm)
  have h2 := h1.callG rfl hc
  rw [← List.append_assoc] at h2
  exact h2.permT hq
section
variable {P : Program} {Q : Exit → Act → World → Prop} {n : Nat} {σ : Nat → Value} {w w0 : World} {K : Act → World → Prop}
  {ty : TypeId} {pos : String} {aft : Array Edge} {g : Option (Nat × Bool)} {d : Nat} {t kt et : TypeId} {x y : Operand} {S : List Nat} {L : List Ch}
/-- a slice compared with nil. -/
theorem r_slnil {a : Option Addr} {l c : Nat} {e yt : TypeId} (hu : P.underlying t = some (.slice e)) (_hg : P.eqGuardType P.depth t = false) (hx : ev n σ x = .slice a l c) (hy : ev n σ y = .slice none 0 0) :
    (execOp (ev n σ) ⟨some d, .binOp .eql t x y yt, ty, pos, aft, g⟩).run P w = .ok (.value (.bool a.isNone)) w := by
  have e3 : (eqGuard .eql t x y (.slice a l c) (.slice none 0 0)).run P w = .ok () w := by simp [eqGuard]
  have e4 : (binOp .eql t (.slice a l c) (.slice none 0 0)).run P w = .ok (.bool a.isNone) w := by
    simp [binOp, run_equal_slice_nil w t e a l c hu]
  simp [execOp, hx, hy, e3, e4]
end
end Go.Proofs.Ytomjbabllcmodaa
namespace Go.Proofs.Ytomjbabllcmodaa
open Go
set_option maxRecDepth 100000
def cnt (v : Nat) : List UInt8 := if 127 < v then (UInt8.ofNat v ||| 128) :: cnt (v / 128) else [UInt8.ofNat v]
termination_by v
decreasing_by omega
theorem cnt_big (m : Nat) (h : 127 < m) : cnt m = (UInt8.ofNat m ||| 128) :: cnt (m / 128) := by rw [cnt, if_pos h]
theorem cnt_one (n : Nat) (h : n ≤ 127) : cnt n = [UInt8.ofNat n] := by rw [cnt, if_neg (by omega)]
theorem cnt_pos (n : Nat) : 0 < (cnt n).length := by
  by_cases h : 127 < n
  · rw [cnt_big n h]; simp
  · rw [cnt_one n (by omega)]; simp
theorem or_nat (m : Nat) : (UInt8.ofNat m ||| 128).toNat = m % 128 + 128 := by
  have key : ∀ n, n < 256 → (UInt8.ofNat n ||| 128).toNat = n % 128 + 128 := by decide
  have e : UInt8.ofNat m = UInt8.ofNat (m % 256) := by
    apply UInt8.toNat_inj.1; rw [UInt8.toNat_ofNat', UInt8.toNat_ofNat']; omega
  rw [e, key _ (by omega)]; omega
/-- numbers ahead of anything are told apart. -/
theorem cnt_inj : ∀ (n m : Nat) (r s : List UInt8), cnt n ++ r = cnt m ++ s → n = m ∧ r = s := by
  intro n
  induction n using Nat.strongRecOn with
  | ind n ih =>
    intro m r s h
    by_cases hn : 127 < n
    · by_cases hm : 127 < m
      · rw [cnt_big n hn, cnt_big m hm, List.cons_append, List.cons_append, List.cons.injEq] at h
        obtain ⟨h1, h2⟩ := h
        obtain ⟨h3, h4⟩ := ih (n / 128) (by omega) (m / 128) r s h2
        have h5 := congrArg UInt8.toNat h1
        rw [or_nat, or_nat] at h5
        exact ⟨by omega, h4⟩
      · rw [cnt_big n hn, cnt_one m (by omega), List.cons_append, List.cons_append, List.cons.injEq] at h
        have h5 := congrArg UInt8.toNat h.1
        rw [or_nat, UInt8.toNat_ofNat'] at h5
        omega
    · by_cases hm : 127 < m
      · rw [cnt_one n (by omega), cnt_big m hm, List.cons_append, List.cons_append, List.cons.injEq] at h
        have h5 := congrArg UInt8.toNat h.1
        rw [or_nat, UInt8.toNat_ofNat'] at h5
        omega
      · rw [cnt_one n (by omega), cnt_one m (by omega), List.cons_append, List.cons_append, List.cons.injEq] at h
        have h5 := congrArg UInt8.toNat h.1
        rw [UInt8.toNat_ofNat', UInt8.toNat_ofNat'] at h5
        exact ⟨by omega, h.2⟩
/-- what is known of a number ahead of byte i: n so far; whatever number stands there goes on so. -/
def CntWay (l : List UInt8) (i n : Nat) : Prop := ∀ v r, l = cnt v ++ r → ∃ m, v = n + m * 128 ^ i ∧ (0 < i → 1 ≤ m) ∧ l.drop i = cnt m ++ r
theorem cntWay_zero (l : List UInt8) : CntWay l 0 0 := fun v r h => ⟨v, by simp, fun h => absurd h (by decide), by simpa using h⟩
theorem cntWay_succ {l : List UInt8} {i n : Nat} {c : UInt8} (h : CntWay l i n) (hc : l[i]? = some c) (h128 : 128 ≤ c.toNat) : CntWay l (i + 1) (n + c.toNat % 128 * 128 ^ i) := by
  intro v r hl
  obtain ⟨m, h1, h2, h3⟩ := h v r hl
  have hd : l.drop i = c :: l.drop (i + 1) := by
    have hi := (List.getElem?_eq_some_iff.1 hc)
    obtain ⟨hi1, hi2⟩ := hi
    rw [List.drop_eq_getElem_cons hi1, hi2]
  rw [hd] at h3
  by_cases hm : 127 < m
  · rw [cnt_big m hm, List.cons_append, List.cons.injEq] at h3
    obtain ⟨e1, e2⟩ := h3
    have e3 : c.toNat % 128 = m % 128 := by
      have := congrArg UInt8.toNat e1
      rw [or_nat] at this; omega
    refine ⟨m / 128, ?_, fun _ => by omega, e2⟩
    rw [h1, e3, Nat.pow_succ]
    have : m * 128 ^ i = (m % 128 + m / 128 * 128) * 128 ^ i := by congr 1; omega
    rw [this, Nat.add_mul, Nat.mul_assoc, Nat.mul_comm 128 (128 ^ i)]; omega
  · rw [cnt_one m (by omega), List.cons_append, List.cons.injEq] at h3
    have := congrArg UInt8.toNat h3.1
    rw [UInt8.toNat_ofNat'] at this
    omega
/-- no number stands there. -/
def NoCnt (l : List UInt8) : Prop := ∀ v r, v < 18446744073709551616 → l ≠ cnt v ++ r
theorem noCnt_short {l : List UInt8} {i n : Nat} (h : CntWay l i n) (hi : l.length ≤ i) : NoCnt l := by
  intro v r _ hl
  obtain ⟨m, _, _, h3⟩ := h v r hl
  rw [List.drop_of_length_le hi] at h3
  have := congrArg List.length h3
  have := cnt_pos m
  simp at *
  omega
theorem noCnt_zero {l : List UInt8} {i n : Nat} {c : UInt8} (h : CntWay l i n) (hi : 0 < i) (hc : l[i]? = some c) (h0 : c.toNat = 0) : NoCnt l := by
  intro v r _ hl
  obtain ⟨m, _, h2, h3⟩ := h v r hl
  have h2 := h2 hi
  obtain ⟨hi1, hi2⟩ := List.getElem?_eq_some_iff.1 hc
  rw [List.drop_eq_getElem_cons hi1, hi2] at h3
  by_cases hm : 127 < m
  · rw [cnt_big m hm, List.cons_append, List.cons.injEq] at h3
    have := congrArg UInt8.toNat h3.1
    rw [or_nat] at this; omega
  · rw [cnt_one m (by omega), List.cons_append, List.cons.injEq] at h3
    have := congrArg UInt8.toNat h3.1
    rw [UInt8.toNat_ofNat'] at this; omega
theorem noCnt_high {l : List UInt8} {n : Nat} {c : UInt8} (h : CntWay l 9 n) (hc : l[9]? = some c) (h1 : 1 < c.toNat) : NoCnt l := by
  intro v r hv hl
  obtain ⟨m, h0, h2, h3⟩ := h v r hl
  have e9 : (128 : Nat) ^ 9 = 9223372036854775808 := by decide
  rw [e9] at h0
  obtain ⟨hi1, hi2⟩ := List.getElem?_eq_some_iff.1 hc
  rw [List.drop_eq_getElem_cons hi1, hi2, cnt_one m (by omega), List.cons_append, List.cons.injEq] at h3
  have := congrArg UInt8.toNat h3.1
  rw [UInt8.toNat_ofNat'] at this
  omega
end Go.Proofs.Ytomjbabllcmodaa
namespace Go.Proofs.Ytomjbabllcmodaa
open Go
set_option maxRecDepth 100000
/-- an item of a folder. -/
structure It where
  name : List UInt8
  kind : Int
  of : Id32
  size : Int
deriving DecidableEq
def itB (x : It) : List UInt8 := UInt8.ofNat x.kind.toNat :: (cnt x.name.length ++ (x.name ++ (x.of.1 ++ cnt x.size.toNat)))
def It.num (x : It) : Prop := (0 ≤ x.kind ∧ x.kind < 256) ∧ 0 ≤ x.size
def It.fits (x : It) : Prop := x.num ∧ x.name.length ≤ 65536 ∧ x.size ≤ 9223372036854775807
theorem app_inj {l m r s : List UInt8} (h : l ++ r = m ++ s) (hl : l.length = m.length) : l = m ∧ r = s := List.append_inj h hl
theorem itB_inj {x y : It} {r s : List UInt8} (hx : x.num) (hy : y.num) (h : itB x ++ r = itB y ++ s) : x = y ∧ r = s := by
  obtain ⟨n1, k1, o1, s1⟩ := x
  obtain ⟨n2, k2, o2, s2⟩ := y
  simp only [itB, List.cons_append, List.append_assoc, List.cons.injEq] at h
  obtain ⟨h1, h2⟩ := h
  obtain ⟨h3, h4⟩ := cnt_inj _ _ _ _ h2
  obtain ⟨h5, h6⟩ := app_inj h4 h3
  obtain ⟨h7, h8⟩ := app_inj h6 (by rw [o1.2, o2.2])
  obtain ⟨h9, h10⟩ := cnt_inj _ _ _ _ h8
  simp only [It.num] at hx hy
  have hk : k1 = k2 := by
    have := congrArg UInt8.toNat h1
    rw [UInt8.toNat_ofNat', UInt8.toNat_ofNat'] at this
    omega
  have hs : s1 = s2 := by omega
  subst hk h5 hs
  exact ⟨by rw [Subtype.ext h7], h10⟩
theorem items_inj : ∀ {l m : List It} {r s : List UInt8}, l.length = m.length → (∀ x ∈ l, x.num) → (∀ x ∈ m, x.num) → l.flatMap itB ++ r = m.flatMap itB ++ s → l = m ∧ r = s
  | [], [], _, _, _, _, _, h => ⟨rfl, by simpa using h⟩
  | [], _ :: _, _, _, h, _, _, _ => by cases h
  | _ :: _, [], _, _, h, _, _, _ => by cases h
  | x :: l, y :: m, r, s, hl, hx, hy, h => by
    rw [List.flatMap_cons, List.flatMap_cons, List.append_assoc, List.append_assoc] at h
    obtain ⟨h1, h2⟩ := itB_inj (hx x (List.mem_cons_self ..)) (hy y (List.mem_cons_self ..)) h
    obtain ⟨h3, h4⟩ := items_inj (by simpa using hl) (fun z hz => hx z (List.mem_cons_of_mem _ hz)) (fun z hz => hy z (List.mem_cons_of_mem _ hz)) h2
    exact ⟨by rw [h1, h3], h4⟩
def fldB (l : List It) : List UInt8 := [68, 49] ++ (cnt l.length ++ l.flatMap itB)
theorem fldB_inj {l m : List It} (hx : ∀ x ∈ l, x.num) (hy : ∀ x ∈ m, x.num) (h : fldB l = fldB m) : l = m := by
  simp only [fldB, List.cons_append, List.nil_append, List.cons.injEq, true_and] at h
  obtain ⟨h1, h2⟩ := cnt_inj _ _ _ _ h
  exact (items_inj (r := []) (s := []) h1 hx hy (by simpa using h2)).1
end Go.Proofs.Ytomjbabllcmodaa
namespace Go.Proofs.Ytomjbabllcmodaa
open Go
set_option maxRecDepth 100000
/-- a list that rises is told by what is in it. -/
theorem rising_uniq {α : Type} {lt : α → α → Prop} (ha : ∀ x y, lt x y → ¬ lt y x) : ∀ {l m : List α}, l.Pairwise lt → m.Pairwise lt → (∀ x, x ∈ l ↔ x ∈ m) → l = m
  | [], [], _, _, _ => rfl
  | [], y :: m, _, _, h => by cases (h y).2 (List.mem_cons_self ..)
  | x :: l, [], _, _, h => by cases (h x).1 (List.mem_cons_self ..)
  | x :: l, y :: m, h1, h2, h => by
    obtain ⟨a1, a2⟩ := List.pairwise_cons.1 h1
    obtain ⟨b1, b2⟩ := List.pairwise_cons.1 h2
    have hirr : ∀ z, ¬ lt z z := fun z hz => ha z z hz hz
    have e : x = y := by
      rcases List.mem_cons.1 ((h x).1 (List.mem_cons_self ..)) with e | hx
      · exact e
      · rcases List.mem_cons.1 ((h y).2 (List.mem_cons_self ..)) with e | hy
        · exact e.symm
        · exact absurd (b1 x hx) (ha _ _ (a1 y hy))
    subst e
    rw [rising_uniq ha (l := l) (m := m) a2 b2 fun z => ⟨fun hz => by
      rcases List.mem_cons.1 ((h z).1 (List.mem_cons_of_mem _ hz)) with e | hm
      · subst e; exact absurd (a1 _ hz) (hirr _)
      · exact hm, fun hz => by
      rcases List.mem_cons.1 ((h z).2 (List.mem_cons_of_mem _ hz)) with e | hm
      · subst e; exact absurd (b1 _ hz) (hirr _)
      · exact hm⟩]
/-- the first object of a name. -/
def lookO (L : List (Id32 × List UInt8)) (x : Id32) : Option (List UInt8) := (L.find? fun o => o.1 = x).map (·.2)
variable {tk : List UInt8 → List It} {L : List (Id32 × List UInt8)} {roots : List Id32}
end Go.Proofs.Ytomjbabllcmodaa
namespace Go.Proofs.Ytomjbabllcmodaa
open Go
set_option maxRecDepth 100000
def NameOk (s : List UInt8) : Prop := (∀ c ∈ s, c ≠ 47 ∧ c ≠ 0) ∧ 1 ≤ s.length ∧ s.length ≤ 64 ∧ s ≠ [46] ∧ s ≠ [46, 46]
def ItOk (x : It) : Prop := NameOk x.name ∧ (x.kind = 1 ∨ x.kind = 2 ∧ x.size = 0) ∧ 0 ≤ x.size ∧ x.size ≤ 9223372036854775807
/-- items that may be a folder. -/
structure MayF (l : List It) : Prop where
  len : l.length ≤ 64
  ok : ∀ x ∈ l, ItOk x
  up : ∀ (i : Nat) (x y : It), l[i]? = some x → l[i + 1]? = some y → x.name < y.name
theorem ItOk.fits {x : It} (h : ItOk x) : x.fits := ⟨⟨by rcases h.2.1 with e | e <;> omega, h.2.2.1⟩, by have := h.1.2.2.1; omega, h.2.2.2⟩
/-- no item stands there. -/
def NoIt (b : List UInt8) : Prop := ∀ (x : It) (r : List UInt8), x.fits → b ≠ itB x ++ r
/-- no text behind its length stands there. -/
def NoTxt (b : List UInt8) : Prop := ∀ t r : List UInt8, t.length ≤ 65536 → b ≠ cnt t.length ++ (t ++ r)
theorem noTxt_cnt {b : List UInt8} (h : NoCnt b) : NoTxt b := fun t r ht => h t.length (t ++ r) (by omega)
theorem noTxt_of {b r : List UInt8} {n : Nat} (hb : b = cnt n ++ r) (h : 65536 < n ∨ r.length < n) : NoTxt b := fun t s ht e => by
  obtain ⟨h1, h2⟩ := cnt_inj _ _ _ _ (hb.symm.trans e)
  rcases h with h | h
  · omega
  · rw [h2, List.length_append] at h; omega
theorem noIt_nil : NoIt [] := fun x r _ h => by rw [itB] at h; cases h
theorem noIt_txt {k : UInt8} {b : List UInt8} (h : NoTxt b) : NoIt (k :: b) := fun x r hx e => by
  rw [itB, List.cons_append, List.cons.injEq] at e
  exact h x.name (x.of.1 ++ cnt x.size.toNat ++ r) hx.2.1 (by rw [e.2]; simp)
theorem noIt_short {k : UInt8} {t b : List UInt8} (h : b.length < 32) : NoIt (k :: (cnt t.length ++ (t ++ b))) := fun x r hx e => by
  rw [itB, List.cons_append, List.cons.injEq] at e
  have e2 := e.2
  rw [List.append_assoc] at e2
  obtain ⟨h1, h2⟩ := cnt_inj _ _ _ _ e2
  rw [List.append_assoc] at h2
  obtain ⟨_, h3⟩ := app_inj h2 h1
  have := congrArg List.length h3
  rw [List.append_assoc, List.length_append, x.of.2] at this
  omega
theorem noIt_size {k : UInt8} {t o b : List UInt8} (ho : o.length = 32) (h : NoCnt b ∨ ∃ n r, b = cnt n ++ r ∧ 9223372036854775807 < n) : NoIt (k :: (cnt t.length ++ (t ++ (o ++ b)))) := fun x r hx e => by
  rw [itB, List.cons_append, List.cons.injEq] at e
  have e2 := e.2
  rw [List.append_assoc] at e2
  obtain ⟨h1, h2⟩ := cnt_inj _ _ _ _ e2
  rw [List.append_assoc] at h2
  obtain ⟨_, h3⟩ := app_inj h2 h1
  rw [List.append_assoc] at h3
  obtain ⟨_, h4⟩ := app_inj h3 (by rw [ho, x.of.2])
  have hs := hx.2.2
  rcases h with h | ⟨n, r', hb, hn⟩
  · exact h x.size.toNat r (by omega) h4
  · have := (cnt_inj _ _ _ _ (hb.symm.trans h4)).1
    omega
theorem items_stuck {l m : List It} {b r : List UInt8} (hl : ∀ x ∈ l, x.num) (hm : ∀ x ∈ m, x.fits) (h : NoIt b) (hlt : l.length < m.length) : l.flatMap itB ++ b ≠ m.flatMap itB ++ r := fun e => by
  have hs : m.flatMap itB ++ r = (m.take l.length).flatMap itB ++ ((m.drop l.length).flatMap itB ++ r) := by
    rw [← List.append_assoc, ← List.flatMap_append, List.take_append_drop]
  rw [hs] at e
  obtain ⟨_, h2⟩ := items_inj (by rw [List.length_take]; omega) hl (fun x hx => (hm x (List.mem_of_mem_take hx)).1) e
  cases hd : m.drop l.length with
  | nil =>
    have := congrArg List.length hd
    rw [List.length_drop] at this
    simp at this; omega
  | cons x t =>
    rw [hd, List.flatMap_cons, List.append_assoc] at h2
    exact h x _ (hm x (List.mem_of_mem_drop (by rw [hd]; exact List.mem_cons_self ..))) h2
open Classical in
/-- the items that bytes are. -/
noncomputable def takeF (b : List UInt8) : Option (List It) := if h : ∃ l, MayF l ∧ fldB l = b ∧ b.length ≤ 4000 then some h.choose else none
theorem takeF_some {l : List It} {b : List UInt8} (h : MayF l) (hb : fldB l = b) (hn : b.length ≤ 4000) : takeF b = some l := by
  have hex : ∃ l, MayF l ∧ fldB l = b ∧ b.length ≤ 4000 := ⟨l, h, hb, hn⟩
  rw [takeF, dif_pos hex]
  obtain ⟨h1, h2, _⟩ := hex.choose_spec
  exact congrArg some (fldB_inj (fun x hx => (h1.ok x hx).fits.1) (fun x hx => (h.ok x hx).fits.1) (h2.trans hb.symm))
theorem takeF_none {b : List UInt8} (h : ∀ l, MayF l → b.length ≤ 4000 → fldB l ≠ b) : takeF b = none := by
  rw [takeF, dif_neg]
  rintro ⟨l, h1, h2, h3⟩
  exact h l h1 h3 h2
theorem takeF_of {b : List UInt8} {l : List It} (h : takeF b = some l) : MayF l ∧ fldB l = b ∧ b.length ≤ 4000 := by
  rw [takeF] at h
  split at h
  · rename_i hex
    cases h
    exact hex.choose_spec
  · cases h
end Go.Proofs.Ytomjbabllcmodaa
namespace Go.Proofs.Ytomjbabllcmodaa
open Go
set_option maxRecDepth 100000
/-- an object, as a world has it; one of the program's map. -/
structure Ob where
  of : Id32
  data : Sl
structure RO where
  data : Sl
  hit : Bool
def obL (l : List Ob) : List (Id32 × List UInt8) := l.map fun o => (o.of, o.data.l)
def lookS (l : List Ob) (k : Id32) : Option Sl := (l.find? fun o => o.of = k).map (·.data)
theorem lookS_l (l : List Ob) (k : Id32) : lookO (obL l) k = (lookS l k).map (·.l) := by
  rw [lookO, lookS, obL]
  induction l with
  | nil => rfl
  | cons o l ih =>
    rw [List.map_cons, List.find?_cons, List.find?_cons]
    by_cases h : o.of = k
    · simp [h]
    · simp only [h, decide_false]; exact ih
theorem lookS_mem {l : List Ob} {k : Id32} {s : Sl} (h : lookS l k = some s) : ∃ o ∈ l, o.of = k ∧ o.data = s := by
  rw [lookS] at h
  cases hf : l.find? fun o => o.of = k with
  | none => rw [hf] at h; cases h
  | some o =>
    rw [hf] at h
    have h2 := List.find?_some hf
    simp only [decide_eq_true_eq] at h2
    exact ⟨o, List.mem_of_find?_eq_some hf, h2, Option.some.inj h⟩
theorem lookS_snoc (l : List Ob) (o : Ob) (k : Id32) : lookS (l ++ [o]) k = if (lookS l k).isSome then lookS l k else if k = o.of then some o.data else none := by
  rw [lookS, lookS, List.find?_append]
  cases hf : l.find? fun o => o.of = k with
  | some x => rfl
  | none =>
    simp only [Option.none_or, Option.map_none, Option.isSome_none, Bool.false_eq_true, if_false, List.find?_cons, List.find?_nil]
    by_cases h : o.of = k
    · simp [h]
    · have : k ≠ o.of := fun e => h e.symm
      simp [h, this]
variable {l : List Ob} {roots todo : List Id32} {F : Id32 → Option RO}
theorem mem_last {t : List Id32} {x y : Id32} (h : y ∈ t ++ [x]) : y ∈ t ∨ y = x := by
  rcases List.mem_append.1 h with h | h
  · exact .inl h
  · exact .inr (List.mem_singleton.1 h)
end Go.Proofs.Ytomjbabllcmodaa
namespace Go.Proofs.Ytomjbabllcmodaa
open Go
set_option maxRecDepth 100000
/-- something that is to be met. -/
structure Todo where
  kind : Int
  of : Id32
  size : Int
  deep : Nat
  path : List UInt8
/-- a file as it is told; none: an empty folder. -/
structure Fil where
  path : List UInt8
  data : Option (List UInt8)
structure WS where
  met : Nat
  names : List Id32
  files : List Fil
  err : Int
def wkid (t : Todo) (x : It) : Todo := ⟨x.kind, x.of, x.size, t.deep + 1, if 1 < t.deep then t.path ++ (47 :: x.name) else x.name⟩
noncomputable def wlkStep (L : List (Id32 × List UInt8)) (s : WS) (t : Todo) : WS × List Todo :=
  if (t.kind = 2 ∧ 8 < t.deep) ∨ 1024 ≤ s.met then ({ s with err := 2 }, [])
  else match lookO L t.of with
    | none => ({ s with err := 15 }, [])
    | some d =>
      if t.kind = 1 then (if (d.length : Int) ≠ t.size then ({ s with err := 9 }, []) else ({ s with met := s.met + 1, names := s.names ++ [t.of], files := s.files ++ [⟨t.path, some d⟩] }, []))
      else match takeF d with
        | none => ({ s with err := 4 }, [])
        | some its => ({ s with met := s.met + 1, names := s.names ++ [t.of], files := s.files ++ (if its = [] ∧ 1 < t.deep then [⟨t.path, none⟩] else []) }, its.map (wkid t))
variable {L : List (Id32 × List UInt8)}
theorem wlkStep_met {s : WS} {t : Todo} (h : (wlkStep L s t).1.err = 0) : (wlkStep L s t).1.met = s.met + 1 ∧ s.met < 1024 := by
  unfold wlkStep at h ⊢
  split at h
  · simp at h
  · rename_i hc
    rw [if_neg hc]
    cases hd : lookO L t.of with
    | none => rw [hd] at h; simp at h
    | some d =>
      rw [hd] at h
      dsimp only at h ⊢
      by_cases hk : t.kind = 1
      · rw [if_pos hk] at h ⊢
        by_cases hs : (d.length : Int) ≠ t.size
        · rw [if_pos hs] at h; simp at h
        · rw [if_neg hs]; exact ⟨rfl, by omega⟩
      · rw [if_neg hk] at h ⊢
        cases ht : takeF d with
        | none => rw [ht] at h; simp at h
        | some its => exact ⟨rfl, by omega⟩
/-- all that is to be met, one behind the other; what is met anew comes first. -/
noncomputable def wlkRun (L : List (Id32 × List UInt8)) : Nat → List Todo → WS → WS
  | 0, _, s => s
  | _ + 1, [], s => s
  | n + 1, t :: ts, s => if (wlkStep L s t).1.err ≠ 0 then (wlkStep L s t).1 else wlkRun L n ((wlkStep L s t).2 ++ ts) (wlkStep L s t).1
theorem wlkRun_nil (n : Nat) (s : WS) : wlkRun L n [] s = s := by cases n <;> rfl
theorem wlkRun_bad {n : Nat} {t : Todo} {ts : List Todo} {s : WS} (h : ¬ (wlkStep L s t).1.err = 0) : wlkRun L (n + 1) (t :: ts) s = (wlkStep L s t).1 := by
  show (if (wlkStep L s t).1.err ≠ 0 then _ else _) = _
  rw [if_pos h]
theorem wlkRun_good {n : Nat} {t : Todo} {ts : List Todo} {s : WS} (h : (wlkStep L s t).1.err = 0) : wlkRun L (n + 1) (t :: ts) s = wlkRun L n ((wlkStep L s t).2 ++ ts) (wlkStep L s t).1 := by
  show (if (wlkStep L s t).1.err ≠ 0 then _ else _) = _
  rw [if_neg (fun e => e h)]
theorem wlkRun_met : ∀ (n : Nat) (a : List Todo) (s : WS), s.met ≤ 1024 → (wlkRun L n a s).err = 0 → s.met ≤ (wlkRun L n a s).met ∧ (wlkRun L n a s).met ≤ 1024
  | 0, _, s, h0, _ => ⟨Nat.le_refl _, h0⟩
  | n + 1, [], s, h0, _ => ⟨Nat.le_refl _, h0⟩
  | n + 1, t :: a, s, h0, h => by
    by_cases he : (wlkStep L s t).1.err = 0
    · rw [wlkRun_good he] at h ⊢
      have h2 := wlkStep_met he
      have h1 := wlkRun_met n _ _ (by omega) h
      omega
    · rw [wlkRun_bad he] at h; exact absurd h he
theorem wlkRun_fuel : ∀ (n m : Nat) (a : List Todo) (s : WS), s.met ≤ 1024 → 1024 < n + s.met → 1024 < m + s.met → wlkRun L n a s = wlkRun L m a s
  | 0, _, _, s, h0, h1, _ => by omega
  | _ + 1, 0, _, s, h0, _, h2 => by omega
  | n + 1, m + 1, [], s, _, _, _ => by rw [wlkRun_nil, wlkRun_nil]
  | n + 1, m + 1, t :: a, s, h0, h1, h2 => by
    by_cases he : (wlkStep L s t).1.err = 0
    · have h3 := wlkStep_met he
      rw [wlkRun_good he, wlkRun_good he]
      exact wlkRun_fuel n m _ _ (by omega) (by omega) (by omega)
    · rw [wlkRun_bad he, wlkRun_bad he]
/-- what is met of two lists is met of one behind the other. -/
theorem wlkRun_app : ∀ (n : Nat) (a b : List Todo) (s : WS), s.err = 0 → s.met ≤ 1024 → 1024 < n + s.met → wlkRun L n (a ++ b) s = if (wlkRun L n a s).err ≠ 0 then wlkRun L n a s else wlkRun L n b (wlkRun L n a s)
  | 0, _, _, s, _, h0, h => by omega
  | n + 1, [], b, s, h0, _, h => by rw [wlkRun_nil, List.nil_append, if_neg (fun e => e h0)]
  | n + 1, t :: a, b, s, h0, hm, h => by
    by_cases he : (wlkStep L s t).1.err = 0
    · have h1 := wlkStep_met he
      rw [List.cons_append, wlkRun_good he, wlkRun_good he, ← List.append_assoc, wlkRun_app n _ b _ he (by omega) (by omega)]
      by_cases h2 : (wlkRun L n ((wlkStep L s t).2 ++ a) (wlkStep L s t).1).err = 0
      · rw [if_neg (fun e => e h2), if_neg (fun e => e h2)]
        have h3 := wlkRun_met n _ _ (by omega) h2
        exact wlkRun_fuel _ _ _ _ (by omega) (by omega) (by omega)
      · rw [if_pos h2, if_pos h2]
    · rw [List.cons_append, wlkRun_bad he, wlkRun_bad he, if_pos he]
end Go.Proofs.Ytomjbabllcmodaa
namespace Go.Proofs.Ytomjbabllcmodaa
open Go
theorem mixed : Try.prog.follows .mixedOrders = true := by kernel_rfl
theorem ct2 : cellTy Try.prog 2 = true := by kernel_rfl
theorem cs2 : cellSz Try.prog 2 = some 1 := by kernel_rfl
theorem ct3 : cellTy Try.prog 3 = true := by kernel_rfl
theorem cs3 : cellSz Try.prog 3 = some 1 := by kernel_rfl
theorem ct4 : cellTy Try.prog 4 = true := by kernel_rfl
theorem ct5 : cellTy Try.prog 5 = true := by kernel_rfl
theorem cs5 : cellSz Try.prog 5 = some 1 := by kernel_rfl
theorem zc5 : zeroCells Try.prog 5 = some [Value.int .u8 0] := by kernel_rfl
theorem ct9 : cellTy Try.prog 9 = true := by kernel_rfl
theorem cs9 : cellSz Try.prog 9 = some 1 := by kernel_rfl
theorem el22 : eltOf Try.prog 22 = some 33 := by kernel_rfl
theorem sl22 : SlTy Try.prog 22 34 33 56 := .mk' (by kernel_rfl) (by kernel_rfl)
theorem ct23 : cellTy Try.prog 23 = true := by kernel_rfl
theorem cs23 : cellSz Try.prog 23 = some 1 := by kernel_rfl
theorem el23 : eltOf Try.prog 23 = some 32 := by kernel_rfl
theorem sl23 : SlTy Try.prog 23 29 32 32 := .mk' (by kernel_rfl) (by kernel_rfl)
theorem rt29 : rowTy Try.prog 29 = some 32 := by kernel_rfl
theorem cs29 : cellSz Try.prog 29 = some 32 := by kernel_rfl
theorem zc29 : zeroCells Try.prog 29 = some (List.replicate 32 (Value.int .u8 0)) := by kernel_rfl
theorem ar29 : arrOf Try.prog 29 = some (32, 1) := by kernel_rfl
theorem bd29 : Bld Try.prog 29 ((List.replicate 32 (Value.int .u8 0))).toArray (fun i => some (i * 1, 1)) := Bld.arr ar29 zc29
theorem ct32 : cellTy Try.prog 32 = true := by kernel_rfl
theorem el32 : eltOf Try.prog 32 = some 1 := by kernel_rfl
theorem sl32 : SlTy Try.prog 32 5 1 1 := .mk' (by kernel_rfl) (by kernel_rfl)
theorem rt34 : rowTy Try.prog 34 = some 33 := by kernel_rfl
theorem cs34 : cellSz Try.prog 34 = some 33 := by kernel_rfl
theorem zc34 : zeroCells Try.prog 34 = some ((List.replicate 32 (Value.int .u8 0)) ++ [Value.slice none 0 0]) := by kernel_rfl
theorem fo34_0 : fieldOff Try.prog 34 0 = some 0 := by kernel_rfl
theorem fo34_1 : fieldOff Try.prog 34 1 = some 32 := by kernel_rfl
theorem pl34 : placesOf Try.prog 34 = some #[(0, 32), (32, 1)] := by kernel_rfl
theorem bd34 : Bld Try.prog 34 (((List.replicate 32 (Value.int .u8 0)) ++ [Value.slice none 0 0])).toArray (fun i => (#[(0, 32), (32, 1)] : Array (Nat × Nat))[i]?) := Bld.str pl34 zc34
theorem ct37 : cellTy Try.prog 37 = true := by kernel_rfl
theorem cs37 : cellSz Try.prog 37 = some 1 := by kernel_rfl
theorem ct40 : cellTy Try.prog 40 = true := by kernel_rfl
theorem cs40 : cellSz Try.prog 40 = some 1 := by kernel_rfl
theorem el40 : eltOf Try.prog 40 = some 3 := by kernel_rfl
theorem sl40 : SlTy Try.prog 40 48 3 48 := .mk' (by kernel_rfl) (by kernel_rfl)
theorem zc48 : zeroCells Try.prog 48 = some ([Value.string .empty] ++ [Value.bool false] ++ [Value.slice none 0 0]) := by kernel_rfl
theorem fo48_0 : fieldOff Try.prog 48 0 = some 0 := by kernel_rfl
theorem fo48_1 : fieldOff Try.prog 48 1 = some 1 := by kernel_rfl
theorem fo48_2 : fieldOff Try.prog 48 2 = some 2 := by kernel_rfl
theorem pl48 : placesOf Try.prog 48 = some #[(0, 1), (1, 1), (2, 1)] := by kernel_rfl
theorem bd48 : Bld Try.prog 48 (([Value.string .empty] ++ [Value.bool false] ++ [Value.slice none 0 0])).toArray (fun i => (#[(0, 1), (1, 1), (2, 1)] : Array (Nat × Nat))[i]?) := Bld.str pl48 zc48
theorem el52 : eltOf Try.prog 52 = some 35 := by kernel_rfl
theorem sl52 : SlTy Try.prog 52 54 35 64 := .mk' (by kernel_rfl) (by kernel_rfl)
theorem rt54 : rowTy Try.prog 54 = some 35 := by kernel_rfl
theorem cs54 : cellSz Try.prog 54 = some 35 := by kernel_rfl
theorem zc54 : zeroCells Try.prog 54 = some ([Value.string .empty] ++ [Value.int .i64 0] ++ (List.replicate 32 (Value.int .u8 0)) ++ [Value.int .i64 0]) := by kernel_rfl
theorem fo54_0 : fieldOff Try.prog 54 0 = some 0 := by kernel_rfl
theorem fo54_1 : fieldOff Try.prog 54 1 = some 1 := by kernel_rfl
theorem fo54_2 : fieldOff Try.prog 54 2 = some 2 := by kernel_rfl
theorem fo54_3 : fieldOff Try.prog 54 3 = some 34 := by kernel_rfl
theorem pl54 : placesOf Try.prog 54 = some #[(0, 1), (1, 1), (2, 32), (34, 1)] := by kernel_rfl
theorem bd54 : Bld Try.prog 54 (([Value.string .empty] ++ [Value.int .i64 0] ++ (List.replicate 32 (Value.int .u8 0)) ++ [Value.int .i64 0])).toArray (fun i => (#[(0, 1), (1, 1), (2, 32), (34, 1)] : Array (Nat × Nat))[i]?) := Bld.str pl54 zc54
theorem ct58 : cellTy Try.prog 58 = true := by kernel_rfl
theorem ct67 : cellTy Try.prog 67 = true := by kernel_rfl
theorem ct68 : cellTy Try.prog 68 = true := by kernel_rfl
theorem zc70 : zeroCells Try.prog 70 = some ([Value.map none] ++ [Value.map none] ++ [Value.int .i64 0] ++ [Value.bool false] ++ [Value.slice none 0 0] ++ [Value.int .i64 0]) := by kernel_rfl
theorem fo70_0 : fieldOff Try.prog 70 0 = some 0 := by kernel_rfl
theorem fo70_1 : fieldOff Try.prog 70 1 = some 1 := by kernel_rfl
theorem fo70_2 : fieldOff Try.prog 70 2 = some 2 := by kernel_rfl
theorem fo70_3 : fieldOff Try.prog 70 3 = some 3 := by kernel_rfl
theorem fo70_4 : fieldOff Try.prog 70 4 = some 4 := by kernel_rfl
theorem fo70_5 : fieldOff Try.prog 70 5 = some 5 := by kernel_rfl
theorem pl70 : placesOf Try.prog 70 = some #[(0, 1), (1, 1), (2, 1), (3, 1), (4, 1), (5, 1)] := by kernel_rfl
theorem bd70 : Bld Try.prog 70 (([Value.map none] ++ [Value.map none] ++ [Value.int .i64 0] ++ [Value.bool false] ++ [Value.slice none 0 0] ++ [Value.int .i64 0])).toArray (fun i => (#[(0, 1), (1, 1), (2, 1), (3, 1), (4, 1), (5, 1)] : Array (Nat × Nat))[i]?) := Bld.str pl70 zc70
theorem rt78 : rowTy Try.prog 78 = some 37 := by kernel_rfl
theorem cs78 : cellSz Try.prog 78 = some 37 := by kernel_rfl
theorem zc78 : zeroCells Try.prog 78 = some (([Value.string .empty] ++ [Value.int .i64 0] ++ (List.replicate 32 (Value.int .u8 0)) ++ [Value.int .i64 0]) ++ [Value.int .i64 0] ++ [Value.string .empty]) := by kernel_rfl
theorem fo78_0 : fieldOff Try.prog 78 0 = some 0 := by kernel_rfl
theorem fo78_1 : fieldOff Try.prog 78 1 = some 35 := by kernel_rfl
theorem fo78_2 : fieldOff Try.prog 78 2 = some 36 := by kernel_rfl
theorem pl78 : placesOf Try.prog 78 = some #[(0, 35), (35, 1), (36, 1)] := by kernel_rfl
theorem bd78 : Bld Try.prog 78 ((([Value.string .empty] ++ [Value.int .i64 0] ++ (List.replicate 32 (Value.int .u8 0)) ++ [Value.int .i64 0]) ++ [Value.int .i64 0] ++ [Value.string .empty])).toArray (fun i => (#[(0, 35), (35, 1), (36, 1)] : Array (Nat × Nat))[i]?) := Bld.str pl78 zc78
theorem el79 : eltOf Try.prog 79 = some 37 := by kernel_rfl
theorem sl79 : SlTy Try.prog 79 78 37 88 := .mk' (by kernel_rfl) (by kernel_rfl)
theorem ct91 : cellTy Try.prog 91 = true := by kernel_rfl
theorem cs91 : cellSz Try.prog 91 = some 1 := by kernel_rfl
theorem rt101 : rowTy Try.prog 101 = some 64 := by kernel_rfl
theorem cs101 : cellSz Try.prog 101 = some 64 := by kernel_rfl
theorem zc101 : zeroCells Try.prog 101 = some (List.replicate 64 (Value.int .u64 0)) := by kernel_rfl
theorem ar101 : arrOf Try.prog 101 = some (64, 1) := by kernel_rfl
theorem bd101 : Bld Try.prog 101 ((List.replicate 64 (Value.int .u64 0))).toArray (fun i => some (i * 1, 1)) := Bld.arr ar101 zc101
theorem rt103 : rowTy Try.prog 103 = some 8 := by kernel_rfl
theorem cs103 : cellSz Try.prog 103 = some 8 := by kernel_rfl
theorem zc103 : zeroCells Try.prog 103 = some (List.replicate 8 (Value.int .u64 0)) := by kernel_rfl
theorem ar103 : arrOf Try.prog 103 = some (8, 1) := by kernel_rfl
theorem bd103 : Bld Try.prog 103 ((List.replicate 8 (Value.int .u64 0))).toArray (fun i => some (i * 1, 1)) := Bld.arr ar103 zc103
end Go.Proofs.Ytomjbabllcmodaa
namespace Go.Proofs.Ytomjbabllcmodaa
open Go
set_option maxRecDepth 100000
theorem ofNat_nat (n : Nat) (h : n < 18446744073709551616) : (UInt64.ofNat n).toNat = n := by rw [UInt64.toNat_ofNat']; omega
theorem take_snoc (l : List UInt8) (i : Nat) (h : i < l.length) : l.take (i + 1) = l.take i ++ [l.getD i 0] := by
  rw [List.take_add_one, List.getElem?_eq_getElem h, List.getD_eq_getElem?_getD, List.getElem?_eq_getElem h]; rfl
theorem low7 (c : UInt8) : (c &&& 127).toNat = c.toNat % 128 := by
  have e : (127 : UInt8).toNat = 2 ^ 7 - 1 := rfl
  rw [UInt8.toNat_and, e, Nat.and_two_pow_sub_one_eq_mod]
theorem pow128 (i : Nat) : 128 ^ i = 2 ^ (7 * i) := by rw [Nat.pow_mul]
theorem count_or (n i : Nat) (c : UInt8) (h : n < 128 ^ i) (hi : i ≤ 9) (hc : i = 9 → c.toNat ≤ 1) : UInt64.ofNat n ||| (c &&& (127 : UInt8)).toUInt64 <<< UInt64.ofNat (7 * i) = UInt64.ofNat (n + c.toNat % 128 * 128 ^ i) := by
  have hc2 := u8_lt c
  have hb : c.toNat % 128 * 128 ^ i < 2 ^ 64 - 128 ^ i + 1 := by
    have hle : 128 ^ i ≤ 128 ^ 9 := Nat.pow_le_pow_right (by decide) hi
    by_cases h9 : i = 9
    · subst h9
      have := hc rfl
      have : c.toNat % 128 * 128 ^ 9 ≤ 1 * 128 ^ 9 := Nat.mul_le_mul_right _ (by omega)
      have e : (128 : Nat) ^ 9 = 9223372036854775808 := by decide
      omega
    · have h8 : 128 ^ i ≤ 128 ^ 8 := Nat.pow_le_pow_right (by decide) (by omega)
      have : c.toNat % 128 * 128 ^ i ≤ 127 * 128 ^ 8 := Nat.mul_le_mul (by omega) h8
      have e : (128 : Nat) ^ 8 = 72057594037927936 := by decide
      omega
  have hp : 0 < 128 ^ i := Nat.pow_pos (by decide)
  have h9 : 128 ^ i ≤ 128 ^ 9 := Nat.pow_le_pow_right (by decide) hi
  have e9 : (128 : Nat) ^ 9 = 9223372036854775808 := by decide
  apply UInt64.toNat_inj.1
  have e7 : (UInt64.ofNat (7 * i)).toNat % 64 = 7 * i := by rw [UInt64.toNat_ofNat']; omega
  rw [UInt64.toNat_or, UInt64.toNat_shiftLeft, e7, UInt8.toNat_toUInt64, low7, UInt64.toNat_ofNat', UInt64.toNat_ofNat', Nat.shiftLeft_eq, ← pow128, Nat.mod_eq_of_lt (a := n) (by omega), Nat.mod_eq_of_lt (a := c.toNat % 128 * 128 ^ i) (by omega), Nat.mod_eq_of_lt (a := n + c.toNat % 128 * 128 ^ i) (by omega)]
  rw [Nat.or_comm, pow128, ← Nat.shiftLeft_eq, ← Nat.shiftLeft_add_eq_or_of_lt (by rw [← pow128]; exact h)]
  omega
theorem or128 (c : UInt8) (m : Nat) (hc : 128 ≤ c.toNat) : UInt8.ofNat (c.toNat % 128 + m * 128) ||| 128 = c := by
  have key : ∀ n, n < 256 → 128 ≤ n → UInt8.ofNat (n % 128) ||| 128 = UInt8.ofNat n ∧ UInt8.ofNat (n % 128 + 128) ||| 128 = UInt8.ofNat n := by decide
  have hlt := u8_lt c
  obtain ⟨k1, k2⟩ := key c.toNat hlt hc
  rw [UInt8.ofNat_toNat] at k1 k2
  by_cases hm : m % 2 = 0
  · have : UInt8.ofNat (c.toNat % 128 + m * 128) = UInt8.ofNat (c.toNat % 128) := by
      apply UInt8.toNat_inj.1; rw [UInt8.toNat_ofNat', UInt8.toNat_ofNat']; omega
    rw [this]; exact k1
  · have : UInt8.ofNat (c.toNat % 128 + m * 128) = UInt8.ofNat (c.toNat % 128 + 128) := by
      apply UInt8.toNat_inj.1; rw [UInt8.toNat_ofNat', UInt8.toNat_ofNat']; omega
    rw [this]; exact k2
/-- what is known ahead of byte i: n so far. -/
def CntInv (l : List UInt8) (i n : Nat) : Prop := n < 128 ^ i ∧ (0 < i → 128 ≤ (l.getD 0 0).toNat) ∧ ∀ m, 1 ≤ m → cnt (n + m * 128 ^ i) = l.take i ++ cnt m
theorem cntInv_zero (l : List UInt8) : CntInv l 0 0 := ⟨by decide, fun h => absurd h (by decide), fun m _ => by simp⟩
theorem cntInv_succ (l : List UInt8) (i n : Nat) (c : UInt8) (h : CntInv l i n) (hi : i < l.length) (hc : c = l.getD i 0) (h128 : 128 ≤ c.toNat) : CntInv l (i + 1) (n + c.toNat % 128 * 128 ^ i) := by
  obtain ⟨h1, h2, h3⟩ := h
  have hlt := u8_lt c
  refine ⟨?_, ?_, fun m hm => ?_⟩
  · have : c.toNat % 128 * 128 ^ i ≤ 127 * 128 ^ i := Nat.mul_le_mul_right _ (by omega)
    rw [Nat.pow_succ]; omega
  · intro _
    by_cases h0 : i = 0
    · subst h0; rw [← hc]; exact h128
    · exact h2 (by omega)
  · have e : n + c.toNat % 128 * 128 ^ i + m * 128 ^ (i + 1) = n + (c.toNat % 128 + m * 128) * 128 ^ i := by
      rw [Nat.pow_succ, Nat.add_mul, Nat.mul_assoc m 128, Nat.mul_comm 128 (128 ^ i)]; omega
    rw [e, h3 _ (by omega), cnt_big _ (by omega), or128 c m h128, take_snoc l i hi, ← hc, show (c.toNat % 128 + m * 128) / 128 = m by omega]
    simp
theorem cntInv_end (l : List UInt8) (i n : Nat) (c : UInt8) (h : CntInv l i n) (hi : i < l.length) (hc : c = l.getD i 0) (h128 : c.toNat < 128) (h0 : ¬ (c.toNat = 0 ∧ 0 < i)) : cnt (n + c.toNat % 128 * 128 ^ i) = l.take (i + 1) := by
  obtain ⟨h1, h2, h3⟩ := h
  rw [Nat.mod_eq_of_lt h128, take_snoc l i hi, ← hc]
  by_cases hz : c.toNat = 0
  · have : i = 0 := by omega
    subst this
    have hn : n = 0 := by simpa using h1
    subst hn
    rw [hz, Nat.zero_mul, cnt_one 0 (by omega), List.take_zero]
    have : c = 0 := UInt8.toNat_inj.1 hz
    rw [this]; rfl
  · rw [h3 _ (by omega), cnt_one _ (by omega), UInt8.ofNat_toNat]
theorem cntInv_lt (l : List UInt8) (i n : Nat) (c : UInt8) (h : CntInv l i n) (hi : i ≤ 9) (h9 : i = 9 → c.toNat ≤ 1) : n + c.toNat % 128 * 128 ^ i < 18446744073709551616 := by
  have hlt := u8_lt c
  have h1 := h.1
  have e9 : (128 : Nat) ^ 9 = 9223372036854775808 := by decide
  by_cases hh : i = 9
  · subst hh
    have := h9 rfl
    have : c.toNat % 128 * 128 ^ 9 ≤ 1 * 128 ^ 9 := Nat.mul_le_mul_right _ (by omega)
    omega
  · have h8 : 128 ^ i ≤ 128 ^ 8 := Nat.pow_le_pow_right (by decide) (by omega)
    have : c.toNat % 128 * 128 ^ i ≤ 127 * 128 ^ 8 := Nat.mul_le_mul (by omega) h8
    have e : (128 : Nat) ^ 8 = 72057594037927936 := by decide
    omega
/-- what TakeCount hands back. -/
def CntRes (l : List UInt8) (x : UInt64) (k : Nat) (e : Int) : Prop := (e = 0 ∧ k ≤ l.length ∧ l = cnt x.toNat ++ l.drop k ∧ k = (cnt x.toNat).length) ∨ (e ≠ 0 ∧ NoCnt l)
theorem cntRes_ok (l : List UInt8) (i n : Nat) (c : UInt8) (h : CntInv l i n) (hi9 : i ≤ 9) (h9 : i = 9 → c.toNat ≤ 1) (hi : i < l.length) (hc : c = l.getD i 0) (h128 : c.toNat < 128) (h0 : ¬ (c.toNat = 0 ∧ 0 < i)) : CntRes l (UInt64.ofNat (n + c.toNat % 128 * 128 ^ i)) (i + 1) 0 := by
  have e := cntInv_end l i n c h hi hc h128 h0
  refine .inl ⟨rfl, by omega, ?_, ?_⟩
  · rw [ofNat_nat _ (cntInv_lt l i n c h hi9 h9), e, List.take_append_drop]
  · rw [ofNat_nat _ (cntInv_lt l i n c h hi9 h9), e, List.length_take]; omega
theorem getD_get {l : List UInt8} {i : Nat} (h : i < l.length) : l[i]? = some (l.getD i 0) := by
  rw [List.getD_eq_getElem?_getD, List.getElem?_eq_getElem h]; rfl
theorem takeCount_ret (w0 : World) (s : Sl) (hs : s.ok w0) (hm : s.len ≤ 1048576) :
    Ret Try.prog 61 [s.v] w0 fun v w' => ∃ (x : UInt64) (k : Nat) (e : Int), v = .tuple #[V64 x, VI (k : Int), VI e] ∧ CntRes s.l x k e ∧ Hp w0 w' [] [] := by
  refine ret_mk Try.func61 rfl Try.ntmps61 (by simp) ?_
  have H := Hp.refl w0 []
  have hsl := hs.ln
  repeat refine c_seq ?_
  refine c_region ?_; refine l_op (o_val (r_asV (c64 0 (by decide))) ?_); refine l_op (o_val r_as ?_); refine l_op (o_val r_as ?_); first | refine l_end ?_ | refine l_nil ?_
  repeat refine c_seq ?_
  refine c_region ?_; refine l_op (o_val (r_asV (c64 0 (by decide))) ?_); first | refine l_end ?_ | refine l_nil ?_
  repeat refine c_seq ?_
  refine c_region ?_; refine l_op (o_val r_mv ?_); refine l_op (o_val (r_lens el32 rfl) ?_); refine l_op (o_val r_mv ?_); first | refine l_end ?_ | refine l_nil ?_
  repeat refine c_seq ?_
  refine c_block ?_; repeat refine c_seq ?_
  refine c_loop2 (fun (i : Nat) (n : Nat) => [(5, V64 (UInt64.ofNat n)), (8, s.v), (9, VI (s.len : Int)), (10, VI (i : Int))])
    (fun (i : Nat) (n : Nat) w => (i ≤ 9 ∧ i ≤ s.len ∧ CntInv s.l i n ∧ CntWay s.l i n) ∧ Hp w0 w [] ([]))
    (fun (i : Nat) (n : Nat) => s.len - i) 0 0 ⟨rfl, rfl, rfl, rfl, trivial⟩ ⟨⟨by omega, by omega, cntInv_zero _, cntWay_zero _⟩, H⟩ ?_
  clear H
  rintro i n τ w ⟨⟨hi9, hil, hinv, hway⟩, H⟩
  repeat refine c_seq ?_
  refine c_region ?_; refine l_op (o_val (r_bin (a := (i : Int)) (b := (s.len : Int)) rfl rfl (fun _ => b_lss)) ?_); first | refine l_end ?_ | refine l_nil ?_
  by_cases hc1 : (i : Int) < (s.len : Int)
  ·
   repeat refine c_seq ?_
   refine c_yes (by exact congrArg Value.bool (decide_eq_true hc1)) ?_; refine c_skip ?_; repeat refine c_seq ?_
   refine c_block ?_; repeat refine c_seq ?_
   refine c_region ?_; refine l_op (o_val r_mv ?_); have ah4 := ((hs.up H (fun _ => apart_nil _))).addr (by (try simp only [Sl.cut]); omega)
   obtain ⟨ab2, ao3, ah4⟩ := ah4
   refine l_op (o_val (r_isN i rfl rfl el32 ah4 (by omega) (by (try simp only [Sl.cut]); omega)) ?_); refine l_op (o_val (r_ldB (s := s) (k := i) (hs.up H (fun _ => apart_nil _)) ah4 rfl ct5 (by (try simp only [Sl.cut]); omega)) ?_); refine l_op (o_val r_as ?_); refine l_op (o_val r_as ?_); first | refine l_end ?_ | refine l_nil ?_
   repeat refine c_seq ?_
   refine c_block ?_; repeat refine c_seq ?_
   refine c_region ?_; refine l_op (o_val r_mv ?_); refine l_op (o_val (r_bin (a := (i : Int)) (b := 9) rfl rfl (fun _ => b_eql)) ?_); refine l_op (o_val r_mv ?_)
   by_cases hc5 : (i : Int) = 9
   ·
    refine l_yes rfl rfl (by exact congrArg Value.bool (decide_eq_true hc5)) (o_val r_mv ?_); refine l_yes rfl rfl (by exact congrArg Value.bool (decide_eq_true hc5)) (o_val (r_bin (a := (((s.l).getD i 0).toNat : Int)) (b := 1) rfl rfl (fun _ => b_gtr)) ?_); refine l_op (o_val (r_pick (b := true) (congrArg Value.bool (decide_eq_true hc5))) ?_); refine l_op (o_val r_as ?_); first | refine l_end ?_ | refine l_nil ?_
    by_cases hc6 : 1 < (((s.l).getD i 0).toNat : Int)
    ·
     repeat refine c_seq ?_
     refine c_yes (by exact congrArg Value.bool (decide_eq_true hc6)) ?_; refine c_skip ?_; repeat refine c_seq ?_
     refine c_yes (by exact congrArg Value.bool (decide_eq_true hc6)) ?_; repeat refine c_seq ?_
     refine c_region ?_; refine l_op (o_val (r_asV (c64 0 (by decide))) ?_); refine l_op (o_val r_as ?_); refine l_op (o_val r_as ?_); first | refine l_end ?_ | refine l_nil ?_
     refine c_ret ?_; try dsimp only [Exit.then, Exit.inBlock]
     refine e_retN (vs := [V64 (0 : UInt64), VI 0, VI 4]) _ Try.results61 rfl (resT (v := V64 (0 : UInt64)) rfl (resT (v := VI 0) rfl (resT (v := VI 4) rfl (resZ)))) ?_
     refine ⟨_, rfl, ?_⟩
     refine ⟨0, 0, 4, rfl, .inr ⟨by decide, ?_⟩, H⟩
     first
       | exact noCnt_zero hway (by omega) (getD_get (by omega)) (by omega)
       | (have hi : i = 9 := by omega
          subst hi
          exact noCnt_high hway (getD_get (by omega)) (by omega))
    ·
     repeat refine c_seq ?_
     refine c_no (by exact congrArg Value.bool (decide_eq_false hc6)) ?_; repeat refine c_seq ?_
     refine c_region ?_; refine l_op (o_val r_mv ?_); refine l_op (o_val (r_bin (a := (((s.l).getD i 0).toNat : Int)) (b := 0) rfl rfl (fun _ => b_eql)) ?_); refine l_op (o_val r_mv ?_)
     by_cases hc7 : (((s.l).getD i 0).toNat : Int) = 0
     ·
      refine l_yes rfl rfl (by exact congrArg Value.bool (decide_eq_true hc7)) (o_val r_mv ?_); refine l_yes rfl rfl (by exact congrArg Value.bool (decide_eq_true hc7)) (o_val (r_bin (a := (i : Int)) (b := 0) rfl rfl (fun _ => b_gtr)) ?_); refine l_op (o_val (r_pick (b := true) (congrArg Value.bool (decide_eq_true hc7))) ?_); refine l_op (o_val r_as ?_); first | refine l_end ?_ | refine l_nil ?_
      by_cases hc8 : 0 < (i : Int)
      ·
       repeat refine c_seq ?_
       refine c_yes (by exact congrArg Value.bool (decide_eq_true hc8)) ?_; repeat refine c_seq ?_
       refine c_region ?_; refine l_op (o_val (r_asV (c64 0 (by decide))) ?_); refine l_op (o_val r_as ?_); refine l_op (o_val r_as ?_); first | refine l_end ?_ | refine l_nil ?_
       refine c_ret ?_; try dsimp only [Exit.then, Exit.inBlock]
       refine e_retN (vs := [V64 (0 : UInt64), VI 0, VI 4]) _ Try.results61 rfl (resT (v := V64 (0 : UInt64)) rfl (resT (v := VI 0) rfl (resT (v := VI 4) rfl (resZ)))) ?_
       refine ⟨_, rfl, ?_⟩
       refine ⟨0, 0, 4, rfl, .inr ⟨by decide, ?_⟩, H⟩
       first
         | exact noCnt_zero hway (by omega) (getD_get (by omega)) (by omega)
         | (have hi : i = 9 := by omega
            subst hi
            exact noCnt_high hway (getD_get (by omega)) (by omega))
      ·
       repeat refine c_seq ?_
       refine c_no (by exact congrArg Value.bool (decide_eq_false hc8)) ?_; refine c_skip ?_; repeat refine c_seq ?_
       refine c_region ?_; refine l_op (o_val r_mv ?_); refine l_op (o_val r_mv ?_); refine l_op (o_val (r_bin rfl (c8 127 (by decide)) (fun _ => b_and_u8)) ?_); refine l_op (o_val (r_conv Try.underlying5 Try.underlying91 rfl (w_u64_8 _)) ?_); refine l_op (o_val r_mv ?_); refine l_op (o_val (r_conv (v := ((UInt64.ofNat i).toNat : Int)) Try.underlying3 Try.underlying110 rfl (w_u64_N i (by omega))) ?_); refine l_op (o_val (r_bin (c64 7 (by decide)) rfl (fun _ => b_mul_u64N)) ?_); refine l_op (o_val (r_shift rfl rfl (.inl rfl) (fun _ => b_shl_u64N (7 * i) (by omega))) ?_); refine l_op (o_val (r_bin rfl rfl (fun _ => b_or_u64)) ?_); refine l_op (o_val r_as ?_); first | refine l_end ?_ | refine l_nil ?_
       repeat refine c_seq ?_
       refine c_region ?_; refine l_op (o_val r_mv ?_); refine l_op (o_val (r_bin (a := (((s.l).getD i 0).toNat : Int)) (b := 128) rfl rfl (fun _ => b_lss)) ?_); first | refine l_end ?_ | refine l_nil ?_
       by_cases hc9 : (((s.l).getD i 0).toNat : Int) < 128
       ·
        repeat refine c_seq ?_
        refine c_yes (by exact congrArg Value.bool (decide_eq_true hc9)) ?_; repeat refine c_seq ?_
        refine c_region ?_; refine l_op (o_val r_mv ?_); refine l_op (o_val r_mv ?_); refine l_op (o_val (r_bin (a := (i : Int)) (b := 1) rfl rfl (fun _ => b_add (by omega) (by omega))) ?_); refine l_op (o_val r_as ?_); refine l_op (o_val r_as ?_); refine l_op (o_val r_as ?_); first | refine l_end ?_ | refine l_nil ?_
        refine c_ret ?_; try dsimp only [Exit.then, Exit.inBlock]
        refine e_retN (vs := [V64 ((UInt64.ofNat n) ||| (((((s.l).getD i 0) &&& (127 : UInt8)).toUInt64) <<< UInt64.ofNat (7 * i))), VI ((i : Int) + 1), VI 0]) _ Try.results61 rfl (resT (v := V64 ((UInt64.ofNat n) ||| (((((s.l).getD i 0) &&& (127 : UInt8)).toUInt64) <<< UInt64.ofNat (7 * i)))) rfl (resT (v := VI ((i : Int) + 1)) rfl (resT (v := VI 0) rfl (resZ)))) ?_
        refine ⟨_, rfl, ?_⟩
        refine ⟨_, i + 1, 0, rfl, ?_, H⟩
        rw [count_or n i _ hinv.1 hi9 (by omega)]
        exact cntRes_ok s.l i n _ hinv hi9 (by omega) (by omega) rfl (by omega) (by omega)
       ·
        repeat refine c_seq ?_
        refine c_no (by exact congrArg Value.bool (decide_eq_false hc9)) ?_; refine c_skip ?_; repeat refine c_seq ?_
        refine c_region ?_; refine l_op (o_val (r_bin (a := (i : Int)) (b := 1) rfl rfl (fun _ => b_add (by omega) (by omega))) ?_); refine l_op (o_val r_mv ?_); first | refine l_end ?_ | refine l_nil ?_
        refine round_end (i + 1, n + (s.l.getD i 0).toNat % 128 * 128 ^ i) ?_ ?_ ?_
        · exact ⟨show V64 ((UInt64.ofNat n) ||| (((((s.l).getD i 0) &&& (127 : UInt8)).toUInt64) <<< UInt64.ofNat (7 * i))) = V64 (UInt64.ofNat (n + (s.l.getD i 0).toNat % 128 * 128 ^ i : Nat)) from congrArg V64 (count_or n i _ hinv.1 hi9 (by omega)), rfl, rfl, show VI ((i : Int) + 1) = VI ((i + 1 : Nat) : Int) from congrArg VI (by omega), trivial⟩
        · refine ⟨?_, ?_⟩
          · try dsimp only
            exact ⟨by omega, by omega, cntInv_succ s.l i n _ hinv (by omega) rfl (by omega), cntWay_succ hway (getD_get (by omega)) (by omega)⟩
          · exact H
        · show s.len - (i + 1 : Nat) < s.len - i; omega
     ·
      refine l_no rfl rfl (by exact congrArg Value.bool (decide_eq_false hc7)) rfl ?_; refine l_no rfl rfl (by exact congrArg Value.bool (decide_eq_false hc7)) rfl ?_; refine l_op (o_val (r_pick (b := false) (congrArg Value.bool (decide_eq_false hc7))) ?_); refine l_op (o_val r_as ?_); first | refine l_end ?_ | refine l_nil ?_
      repeat refine c_seq ?_
      refine c_no rfl ?_; refine c_skip ?_; repeat refine c_seq ?_
      refine c_region ?_; refine l_op (o_val r_mv ?_); refine l_op (o_val r_mv ?_); refine l_op (o_val (r_bin rfl (c8 127 (by decide)) (fun _ => b_and_u8)) ?_); refine l_op (o_val (r_conv Try.underlying5 Try.underlying91 rfl (w_u64_8 _)) ?_); refine l_op (o_val r_mv ?_); refine l_op (o_val (r_conv (v := ((UInt64.ofNat i).toNat : Int)) Try.underlying3 Try.underlying110 rfl (w_u64_N i (by omega))) ?_); refine l_op (o_val (r_bin (c64 7 (by decide)) rfl (fun _ => b_mul_u64N)) ?_); refine l_op (o_val (r_shift rfl rfl (.inl rfl) (fun _ => b_shl_u64N (7 * i) (by omega))) ?_); refine l_op (o_val (r_bin rfl rfl (fun _ => b_or_u64)) ?_); refine l_op (o_val r_as ?_); first | refine l_end ?_ | refine l_nil ?_
      repeat refine c_seq ?_
      refine c_region ?_; refine l_op (o_val r_mv ?_); refine l_op (o_val (r_bin (a := (((s.l).getD i 0).toNat : Int)) (b := 128) rfl rfl (fun _ => b_lss)) ?_); first | refine l_end ?_ | refine l_nil ?_
      by_cases hc10 : (((s.l).getD i 0).toNat : Int) < 128
      ·
       repeat refine c_seq ?_
       refine c_yes (by exact congrArg Value.bool (decide_eq_true hc10)) ?_; repeat refine c_seq ?_
       refine c_region ?_; refine l_op (o_val r_mv ?_); refine l_op (o_val r_mv ?_); refine l_op (o_val (r_bin (a := (i : Int)) (b := 1) rfl rfl (fun _ => b_add (by omega) (by omega))) ?_); refine l_op (o_val r_as ?_); refine l_op (o_val r_as ?_); refine l_op (o_val r_as ?_); first | refine l_end ?_ | refine l_nil ?_
       refine c_ret ?_; try dsimp only [Exit.then, Exit.inBlock]
       refine e_retN (vs := [V64 ((UInt64.ofNat n) ||| (((((s.l).getD i 0) &&& (127 : UInt8)).toUInt64) <<< UInt64.ofNat (7 * i))), VI ((i : Int) + 1), VI 0]) _ Try.results61 rfl (resT (v := V64 ((UInt64.ofNat n) ||| (((((s.l).getD i 0) &&& (127 : UInt8)).toUInt64) <<< UInt64.ofNat (7 * i)))) rfl (resT (v := VI ((i : Int) + 1)) rfl (resT (v := VI 0) rfl (resZ)))) ?_
       refine ⟨_, rfl, ?_⟩
       refine ⟨_, i + 1, 0, rfl, ?_, H⟩
       rw [count_or n i _ hinv.1 hi9 (by omega)]
       exact cntRes_ok s.l i n _ hinv hi9 (by omega) (by omega) rfl (by omega) (by omega)
      ·
       repeat refine c_seq ?_
       refine c_no (by exact congrArg Value.bool (decide_eq_false hc10)) ?_; refine c_skip ?_; repeat refine c_seq ?_
       refine c_region ?_; refine l_op (o_val (r_bin (a := (i : Int)) (b := 1) rfl rfl (fun _ => b_add (by omega) (by omega))) ?_); refine l_op (o_val r_mv ?_); first | refine l_end ?_ | refine l_nil ?_
       refine round_end (i + 1, n + (s.l.getD i 0).toNat % 128 * 128 ^ i) ?_ ?_ ?_
       · exact ⟨show V64 ((UInt64.ofNat n) ||| (((((s.l).getD i 0) &&& (127 : UInt8)).toUInt64) <<< UInt64.ofNat (7 * i))) = V64 (UInt64.ofNat (n + (s.l.getD i 0).toNat % 128 * 128 ^ i : Nat)) from congrArg V64 (count_or n i _ hinv.1 hi9 (by omega)), rfl, rfl, show VI ((i : Int) + 1) = VI ((i + 1 : Nat) : Int) from congrArg VI (by omega), trivial⟩
       · refine ⟨?_, ?_⟩
         · try dsimp only
           exact ⟨by omega, by omega, cntInv_succ s.l i n _ hinv (by omega) rfl (by omega), cntWay_succ hway (getD_get (by omega)) (by omega)⟩
         · exact H
       · show s.len - (i + 1 : Nat) < s.len - i; omega
   ·
    refine l_no rfl rfl (by exact congrArg Value.bool (decide_eq_false hc5)) rfl ?_; refine l_no rfl rfl (by exact congrArg Value.bool (decide_eq_false hc5)) rfl ?_; refine l_op (o_val (r_pick (b := false) (congrArg Value.bool (decide_eq_false hc5))) ?_); refine l_op (o_val r_as ?_); first | refine l_end ?_ | refine l_nil ?_
    repeat refine c_seq ?_
    refine c_no rfl ?_; repeat refine c_seq ?_
    refine c_region ?_; refine l_op (o_val r_mv ?_); refine l_op (o_val (r_bin (a := (((s.l).getD i 0).toNat : Int)) (b := 0) rfl rfl (fun _ => b_eql)) ?_); refine l_op (o_val r_mv ?_)
    by_cases hc11 : (((s.l).getD i 0).toNat : Int) = 0
    ·
     refine l_yes rfl rfl (by exact congrArg Value.bool (decide_eq_true hc11)) (o_val r_mv ?_); refine l_yes rfl rfl (by exact congrArg Value.bool (decide_eq_true hc11)) (o_val (r_bin (a := (i : Int)) (b := 0) rfl rfl (fun _ => b_gtr)) ?_); refine l_op (o_val (r_pick (b := true) (congrArg Value.bool (decide_eq_true hc11))) ?_); refine l_op (o_val r_as ?_); first | refine l_end ?_ | refine l_nil ?_
     by_cases hc12 : 0 < (i : Int)
     ·
      repeat refine c_seq ?_
      refine c_yes (by exact congrArg Value.bool (decide_eq_true hc12)) ?_; repeat refine c_seq ?_
      refine c_region ?_; refine l_op (o_val (r_asV (c64 0 (by decide))) ?_); refine l_op (o_val r_as ?_); refine l_op (o_val r_as ?_); first | refine l_end ?_ | refine l_nil ?_
      refine c_ret ?_; try dsimp only [Exit.then, Exit.inBlock]
      refine e_retN (vs := [V64 (0 : UInt64), VI 0, VI 4]) _ Try.results61 rfl (resT (v := V64 (0 : UInt64)) rfl (resT (v := VI 0) rfl (resT (v := VI 4) rfl (resZ)))) ?_
      refine ⟨_, rfl, ?_⟩
      refine ⟨0, 0, 4, rfl, .inr ⟨by decide, ?_⟩, H⟩
      first
        | exact noCnt_zero hway (by omega) (getD_get (by omega)) (by omega)
        | (have hi : i = 9 := by omega
           subst hi
           exact noCnt_high hway (getD_get (by omega)) (by omega))
     ·
      repeat refine c_seq ?_
      refine c_no (by exact congrArg Value.bool (decide_eq_false hc12)) ?_; refine c_skip ?_; repeat refine c_seq ?_
      refine c_region ?_; refine l_op (o_val r_mv ?_); refine l_op (o_val r_mv ?_); refine l_op (o_val (r_bin rfl (c8 127 (by decide)) (fun _ => b_and_u8)) ?_); refine l_op (o_val (r_conv Try.underlying5 Try.underlying91 rfl (w_u64_8 _)) ?_); refine l_op (o_val r_mv ?_); refine l_op (o_val (r_conv (v := ((UInt64.ofNat i).toNat : Int)) Try.underlying3 Try.underlying110 rfl (w_u64_N i (by omega))) ?_); refine l_op (o_val (r_bin (c64 7 (by decide)) rfl (fun _ => b_mul_u64N)) ?_); refine l_op (o_val (r_shift rfl rfl (.inl rfl) (fun _ => b_shl_u64N (7 * i) (by omega))) ?_); refine l_op (o_val (r_bin rfl rfl (fun _ => b_or_u64)) ?_); refine l_op (o_val r_as ?_); first | refine l_end ?_ | refine l_nil ?_
      repeat refine c_seq ?_
      refine c_region ?_; refine l_op (o_val r_mv ?_); refine l_op (o_val (r_bin (a := (((s.l).getD i 0).toNat : Int)) (b := 128) rfl rfl (fun _ => b_lss)) ?_); first | refine l_end ?_ | refine l_nil ?_
      by_cases hc13 : (((s.l).getD i 0).toNat : Int) < 128
      ·
       repeat refine c_seq ?_
       refine c_yes (by exact congrArg Value.bool (decide_eq_true hc13)) ?_; repeat refine c_seq ?_
       refine c_region ?_; refine l_op (o_val r_mv ?_); refine l_op (o_val r_mv ?_); refine l_op (o_val (r_bin (a := (i : Int)) (b := 1) rfl rfl (fun _ => b_add (by omega) (by omega))) ?_); refine l_op (o_val r_as ?_); refine l_op (o_val r_as ?_); refine l_op (o_val r_as ?_); first | refine l_end ?_ | refine l_nil ?_
       refine c_ret ?_; try dsimp only [Exit.then, Exit.inBlock]
       refine e_retN (vs := [V64 ((UInt64.ofNat n) ||| (((((s.l).getD i 0) &&& (127 : UInt8)).toUInt64) <<< UInt64.ofNat (7 * i))), VI ((i : Int) + 1), VI 0]) _ Try.results61 rfl (resT (v := V64 ((UInt64.ofNat n) ||| (((((s.l).getD i 0) &&& (127 : UInt8)).toUInt64) <<< UInt64.ofNat (7 * i)))) rfl (resT (v := VI ((i : Int) + 1)) rfl (resT (v := VI 0) rfl (resZ)))) ?_
       refine ⟨_, rfl, ?_⟩
       refine ⟨_, i + 1, 0, rfl, ?_, H⟩
       rw [count_or n i _ hinv.1 hi9 (by omega)]
       exact cntRes_ok s.l i n _ hinv hi9 (by omega) (by omega) rfl (by omega) (by omega)
      ·
       repeat refine c_seq ?_
       refine c_no (by exact congrArg Value.bool (decide_eq_false hc13)) ?_; refine c_skip ?_; repeat refine c_seq ?_
       refine c_region ?_; refine l_op (o_val (r_bin (a := (i : Int)) (b := 1) rfl rfl (fun _ => b_add (by omega) (by omega))) ?_); refine l_op (o_val r_mv ?_); first | refine l_end ?_ | refine l_nil ?_
       refine round_end (i + 1, n + (s.l.getD i 0).toNat % 128 * 128 ^ i) ?_ ?_ ?_
       · exact ⟨show V64 ((UInt64.ofNat n) ||| (((((s.l).getD i 0) &&& (127 : UInt8)).toUInt64) <<< UInt64.ofNat (7 * i))) = V64 (UInt64.ofNat (n + (s.l.getD i 0).toNat % 128 * 128 ^ i : Nat)) from congrArg V64 (count_or n i _ hinv.1 hi9 (by omega)), rfl, rfl, show VI ((i : Int) + 1) = VI ((i + 1 : Nat) : Int) from congrArg VI (by omega), trivial⟩
       · refine ⟨?_, ?_⟩
         · try dsimp only
           exact ⟨by omega, by omega, cntInv_succ s.l i n _ hinv (by omega) rfl (by omega), cntWay_succ hway (getD_get (by omega)) (by omega)⟩
         · exact H
       · show s.len - (i + 1 : Nat) < s.len - i; omega
    ·
     refine l_no rfl rfl (by exact congrArg Value.bool (decide_eq_false hc11)) rfl ?_; refine l_no rfl rfl (by exact congrArg Value.bool (decide_eq_false hc11)) rfl ?_; refine l_op (o_val (r_pick (b := false) (congrArg Value.bool (decide_eq_false hc11))) ?_); refine l_op (o_val r_as ?_); first | refine l_end ?_ | refine l_nil ?_
     repeat refine c_seq ?_
     refine c_no rfl ?_; refine c_skip ?_; repeat refine c_seq ?_
     refine c_region ?_; refine l_op (o_val r_mv ?_); refine l_op (o_val r_mv ?_); refine l_op (o_val (r_bin rfl (c8 127 (by decide)) (fun _ => b_and_u8)) ?_); refine l_op (o_val (r_conv Try.underlying5 Try.underlying91 rfl (w_u64_8 _)) ?_); refine l_op (o_val r_mv ?_); refine l_op (o_val (r_conv (v := ((UInt64.ofNat i).toNat : Int)) Try.underlying3 Try.underlying110 rfl (w_u64_N i (by omega))) ?_); refine l_op (o_val (r_bin (c64 7 (by decide)) rfl (fun _ => b_mul_u64N)) ?_); refine l_op (o_val (r_shift rfl rfl (.inl rfl) (fun _ => b_shl_u64N (7 * i) (by omega))) ?_); refine l_op (o_val (r_bin rfl rfl (fun _ => b_or_u64)) ?_); refine l_op (o_val r_as ?_); first | refine l_end ?_ | refine l_nil ?_
     repeat refine c_seq ?_
     refine c_region ?_; refine l_op (o_val r_mv ?_); refine l_op (o_val (r_bin (a := (((s.l).getD i 0).toNat : Int)) (b := 128) rfl rfl (fun _ => b_lss)) ?_); first | refine l_end ?_ | refine l_nil ?_
     by_cases hc14 : (((s.l).getD i 0).toNat : Int) < 128
     ·
      repeat refine c_seq ?_
      refine c_yes (by exact congrArg Value.bool (decide_eq_true hc14)) ?_; repeat refine c_seq ?_
      refine c_region ?_; refine l_op (o_val r_mv ?_); refine l_op (o_val r_mv ?_); refine l_op (o_val (r_bin (a := (i : Int)) (b := 1) rfl rfl (fun _ => b_add (by omega) (by omega))) ?_); refine l_op (o_val r_as ?_); refine l_op (o_val r_as ?_); refine l_op (o_val r_as ?_); first | refine l_end ?_ | refine l_nil ?_
      refine c_ret ?_; try dsimp only [Exit.then, Exit.inBlock]
      refine e_retN (vs := [V64 ((UInt64.ofNat n) ||| (((((s.l).getD i 0) &&& (127 : UInt8)).toUInt64) <<< UInt64.ofNat (7 * i))), VI ((i : Int) + 1), VI 0]) _ Try.results61 rfl (resT (v := V64 ((UInt64.ofNat n) ||| (((((s.l).getD i 0) &&& (127 : UInt8)).toUInt64) <<< UInt64.ofNat (7 * i)))) rfl (resT (v := VI ((i : Int) + 1)) rfl (resT (v := VI 0) rfl (resZ)))) ?_
      refine ⟨_, rfl, ?_⟩
      refine ⟨_, i + 1, 0, rfl, ?_, H⟩
      rw [count_or n i _ hinv.1 hi9 (by omega)]
      exact cntRes_ok s.l i n _ hinv hi9 (by omega) (by omega) rfl (by omega) (by omega)
     ·
      repeat refine c_seq ?_
      refine c_no (by exact congrArg Value.bool (decide_eq_false hc14)) ?_; refine c_skip ?_; repeat refine c_seq ?_
      refine c_region ?_; refine l_op (o_val (r_bin (a := (i : Int)) (b := 1) rfl rfl (fun _ => b_add (by omega) (by omega))) ?_); refine l_op (o_val r_mv ?_); first | refine l_end ?_ | refine l_nil ?_
      refine round_end (i + 1, n + (s.l.getD i 0).toNat % 128 * 128 ^ i) ?_ ?_ ?_
      · exact ⟨show V64 ((UInt64.ofNat n) ||| (((((s.l).getD i 0) &&& (127 : UInt8)).toUInt64) <<< UInt64.ofNat (7 * i))) = V64 (UInt64.ofNat (n + (s.l.getD i 0).toNat % 128 * 128 ^ i : Nat)) from congrArg V64 (count_or n i _ hinv.1 hi9 (by omega)), rfl, rfl, show VI ((i : Int) + 1) = VI ((i + 1 : Nat) : Int) from congrArg VI (by omega), trivial⟩
      · refine ⟨?_, ?_⟩
        · try dsimp only
          exact ⟨by omega, by omega, cntInv_succ s.l i n _ hinv (by omega) rfl (by omega), cntWay_succ hway (getD_get (by omega)) (by omega)⟩
        · exact H
      · show s.len - (i + 1 : Nat) < s.len - i; omega
  ·
   repeat refine c_seq ?_
   refine c_no (by exact congrArg Value.bool (decide_eq_false hc1)) ?_; refine c_exit ?_; repeat refine c_seq ?_
   refine c_region ?_; refine l_op (o_val (r_asV (c64 0 (by decide))) ?_); refine l_op (o_val r_as ?_); refine l_op (o_val r_as ?_); first | refine l_end ?_ | refine l_nil ?_
   refine c_ret ?_; try dsimp only [Exit.then, Exit.inBlock]
   refine e_retN (vs := [V64 (0 : UInt64), VI 0, VI 3]) _ Try.results61 rfl (resT (v := V64 (0 : UInt64)) rfl (resT (v := VI 0) rfl (resT (v := VI 3) rfl (resZ)))) ?_
   refine ⟨_, rfl, ?_⟩
   exact ⟨0, 0, 3, rfl, .inr ⟨by decide, noCnt_short hway (by omega)⟩, H⟩
end Go.Proofs.Ytomjbabllcmodaa
namespace Go.Proofs.Ytomjbabllcmodaa
open Go
set_option maxRecDepth 100000
theorem own_ret (w0 : World) (s : Sl) (hs : s.ok w0) (n : Nat) (hm : s.len + n ≤ 1099511627776) :
    Ret Try.prog 87 [s.v, VI (n : Int)] w0 fun v w' => ∃ a cap, v = .slice (hd a) s.len cap ∧ Hp w0 w' [] [.own a s.len cap (s.l.map V8) 5 1] := by
  refine ret_mk Try.func87 rfl Try.ntmps87 (by simp) ?_
  have H := Hp.refl w0 []
  repeat refine c_seq ?_
  refine c_region ?_; refine l_op (o_val r_as ?_); first | refine l_end ?_ | refine l_nil ?_
  repeat refine c_seq ?_
  refine c_region ?_; refine l_op (o_val r_mv ?_); refine l_op (o_val (r_lens el32 rfl) ?_); refine l_op (o_val r_mv ?_); refine l_op (o_val (r_bin (a := (s.len : Int)) (b := (n : Int)) rfl rfl (fun _ => b_add (by omega) (by omega))) ?_); refine l_op (o_makeB0 (s.len + n) H sl32 zc5 rfl rfl rfl (by omega) (by omega) (fun b1 w H hb1 => ?_)); replace H : Hp _ w _ ([.own (some b1) 0 (s.len + n) ((([] : List UInt8)).map V8) 5 1]) := H
  refine l_op (o_val r_mv ?_); refine l_op (o_appB (s := s) (l' := s.l) (len' := s.len) rfl (Nat.zero_add _) H (i := 0) rfl sl32 Try.underlying32 rfl rfl (hs.up H (fun _ => apart_nil _)) (by omega) (fun a2 c3 w H => ?_)); replace H : Hp _ w _ ([.own a2 s.len c3 ((s.l).map V8) 5 1]) := H
  refine l_op (o_val r_as ?_); first | refine l_end ?_ | refine l_nil ?_
  refine c_ret ?_; try dsimp only [Exit.then, Exit.inBlock]
  refine e_ret1 (v := .slice (hd a2) s.len c3) Try.results87 rfl ?_
  refine ⟨_, rfl, ?_⟩
  exact ⟨_, _, rfl, H⟩
/-- what TakeText hands back. -/
def TxtRes (l t : List UInt8) (k : Nat) (e : Int) : Prop := (e = 0 ∧ t.length ≤ 65536 ∧ k ≤ l.length ∧ l = cnt t.length ++ (t ++ l.drop k)) ∨ (e ≠ 0 ∧ NoTxt l)
theorem txtRes_bad {l : List UInt8} {x : UInt64} {k : Nat} {e e' : Int} (h : CntRes l x k e) (he : ¬ e' = 0) (hbad : ¬ e = 0 ∨ 65536 < x.toNat ∨ l.length < k + x.toNat) : TxtRes l [] 0 e' := by
  refine .inr ⟨he, ?_⟩
  rcases h with ⟨h1, h2, h3, h4⟩ | ⟨_, h2⟩
  · refine noTxt_of h3 ?_
    rcases hbad with h5 | h5 | h5
    · exact absurd h1 h5
    · exact .inl h5
    · right; rw [List.length_drop]; omega
  · exact noTxt_cnt h2
theorem txtRes_ok {l : List UInt8} {x : UInt64} {k : Nat} (h : CntRes l x k 0) (h1 : x.toNat ≤ 65536) (h2 : k + x.toNat ≤ l.length) : TxtRes l ((l.drop k).take x.toNat) (k + x.toNat) 0 := by
  have hlen : ((l.drop k).take x.toNat).length = x.toNat := by simp; omega
  rcases h with ⟨_, h3, h4, h5⟩ | ⟨h3, _⟩
  · refine .inl ⟨rfl, by omega, h2, ?_⟩
    rw [hlen, ← List.drop_drop, List.take_append_drop]; exact h4
  · exact absurd rfl h3
theorem takeText_ret (w0 : World) (s : Sl) (hs : s.ok w0) (hm : s.len ≤ 1048576) :
    Ret Try.prog 80 [s.v] w0 fun v w' => ∃ (a : Option Nat) (c : Nat) (t : List UInt8) (k : Nat) (e : Int), v = .tuple #[.slice (hd a) t.length c, VI (k : Int), VI e] ∧ TxtRes s.l t k e ∧ Hp w0 w' [] [.own a t.length c (t.map V8) 5 1] := by
  refine ret_mk Try.func80 rfl Try.ntmps80 (by simp) ?_
  have H := Hp.refl w0 []
  have hsl := hs.ln
  have hle := hs.le
  repeat refine c_seq ?_
  refine c_region ?_; refine l_op (o_val r_as ?_); refine l_op (o_val r_as ?_); refine l_op (o_val r_as ?_); first | refine l_end ?_ | refine l_nil ?_
  repeat refine c_seq ?_
  refine c_region ?_; refine l_op (o_val r_mv ?_); refine l_op (o_callR Try.func61 rfl rfl rfl (takeCount_ret _ s (hs.up H (fun _ => apart_nil _)) (by (try simp only [Sl.cut]); omega)) ?_); rintro _ w ⟨x1, k2, e3, rfl, hco4, Hc⟩
  replace H : Hp _ w _ ([]) := H.call Hc
  clear Hc
  have hco4n : e3 = 0 → k2 ≤ (s.l).length := fun h => hco4.elim (fun h1 => h1.2.1) (fun h1 => absurd h h1.1)
  try simp only [List.length_take, List.length_drop] at hco4n
  refine l_op (o_val r_mv ?_); refine l_op (o_val (r_ext rfl rfl) ?_); refine l_op (o_val (r_ext rfl rfl) ?_); refine l_op (o_val (r_ext rfl rfl) ?_); refine l_op (o_val r_as ?_); refine l_op (o_val r_as ?_); refine l_op (o_val r_as ?_); first | refine l_end ?_ | refine l_nil ?_
  repeat refine c_seq ?_
  refine c_block ?_; have hkl : e3 = 0 → k2 ≤ s.l.length := fun h => hco4.elim (fun h1 => h1.2.1) (fun h1 => absurd h h1.1)
  repeat refine c_seq ?_
  refine c_region ?_; refine l_op (o_val r_mv ?_); refine l_op (o_val (r_bin (a := e3) (b := 0) rfl rfl (fun _ => b_neq)) ?_); refine l_op (o_val r_as ?_); first | refine l_end ?_ | refine l_nil ?_
  by_cases hc5 : e3 ≠ 0
  ·
   repeat refine c_seq ?_
   refine c_yes (by exact congrArg Value.bool (decide_eq_true hc5)) ?_; repeat refine c_seq ?_
   refine c_region ?_; refine l_op (o_val r_mv ?_); refine l_op (o_val r_as ?_); refine l_op (o_val r_as ?_); refine l_op (o_val r_as ?_); first | refine l_end ?_ | refine l_nil ?_
   refine c_ret ?_; try dsimp only [Exit.then, Exit.inBlock]
   refine e_retN (vs := [.slice none 0 0, VI 0, VI e3]) _ Try.results80 rfl (resT (v := .slice none 0 0) rfl (resT (v := VI 0) rfl (resT (v := VI e3) rfl (resZ)))) ?_
   refine ⟨_, rfl, ?_⟩
   exact ⟨none, 0, [], 0, _, rfl, txtRes_bad hco4 (by first | decide | (intro h; omega)) (by omega), H.nilEnd 5 1⟩
  ·
   repeat refine c_seq ?_
   refine c_no (by exact congrArg Value.bool (decide_eq_false hc5)) ?_; repeat refine c_seq ?_
   refine c_region ?_; refine l_op (o_val r_mv ?_); refine l_op (o_val (r_bin (a := (x1.toNat : Int)) (b := 65536) rfl rfl (fun _ => b_gtr)) ?_); refine l_op (o_val r_as ?_); first | refine l_end ?_ | refine l_nil ?_
   by_cases hc6 : 65536 < (x1.toNat : Int)
   ·
    repeat refine c_seq ?_
    refine c_yes (by exact congrArg Value.bool (decide_eq_true hc6)) ?_; repeat refine c_seq ?_
    refine c_region ?_; refine l_op (o_val r_as ?_); refine l_op (o_val r_as ?_); refine l_op (o_val r_as ?_); first | refine l_end ?_ | refine l_nil ?_
    refine c_ret ?_; try dsimp only [Exit.then, Exit.inBlock]
    refine e_retN (vs := [.slice none 0 0, VI 0, VI 2]) _ Try.results80 rfl (resT (v := .slice none 0 0) rfl (resT (v := VI 0) rfl (resT (v := VI 2) rfl (resZ)))) ?_
    refine ⟨_, rfl, ?_⟩
    exact ⟨none, 0, [], 0, _, rfl, txtRes_bad hco4 (by first | decide | (intro h; omega)) (by omega), H.nilEnd 5 1⟩
   ·
    repeat refine c_seq ?_
    refine c_no (by exact congrArg Value.bool (decide_eq_false hc6)) ?_; have hon : (UInt64.ofNat (s.len - k2)).toNat = s.len - k2 := ofNat_nat _ (by omega)
    repeat refine c_seq ?_
    refine c_region ?_; refine l_op (o_val r_mv ?_); refine l_op (o_val (r_lens el32 rfl) ?_); refine l_op (o_val r_mv ?_); refine l_op (o_val (r_bin (a := (s.len : Int)) (b := (k2 : Int)) rfl rfl (fun _ => b_sub (by omega) (by omega))) ?_); refine l_op (o_val (r_conv (v := ((UInt64.ofNat (s.len - k2)).toNat : Int)) Try.underlying3 Try.underlying91 rfl (w_u64_N (s.len - k2) (by omega))) ?_); refine l_op (o_val r_mv ?_); refine l_op (o_val (r_bin (a := ((UInt64.ofNat (s.len - k2)).toNat : Int)) (b := (x1.toNat : Int)) rfl rfl (fun _ => b_lss)) ?_); refine l_op (o_val r_as ?_); first | refine l_end ?_ | refine l_nil ?_
    by_cases hc7 : ((UInt64.ofNat (s.len - k2)).toNat : Int) < (x1.toNat : Int)
    ·
     repeat refine c_seq ?_
     refine c_yes (by exact congrArg Value.bool (decide_eq_true hc7)) ?_; repeat refine c_seq ?_
     refine c_region ?_; refine l_op (o_val r_as ?_); refine l_op (o_val r_as ?_); refine l_op (o_val r_as ?_); first | refine l_end ?_ | refine l_nil ?_
     refine c_ret ?_; try dsimp only [Exit.then, Exit.inBlock]
     refine e_retN (vs := [.slice none 0 0, VI 0, VI 3]) _ Try.results80 rfl (resT (v := .slice none 0 0) rfl (resT (v := VI 0) rfl (resT (v := VI 3) rfl (resZ)))) ?_
     refine ⟨_, rfl, ?_⟩
     exact ⟨none, 0, [], 0, _, rfl, txtRes_bad hco4 (by first | decide | (intro h; omega)) (by omega), H.nilEnd 5 1⟩
    ·
     repeat refine c_seq ?_
     refine c_no (by exact congrArg Value.bool (decide_eq_false hc7)) ?_; refine c_skip ?_; repeat refine c_seq ?_
     refine c_region ?_; refine l_op (o_val r_mv ?_); refine l_op (o_val r_mv ?_); refine l_op (o_val (r_conv Try.underlying91 Try.underlying3 rfl (w_i64_64 (by omega))) ?_); refine l_op (o_val (r_bin (a := (k2 : Int)) (b := (x1.toNat : Int)) rfl rfl (fun _ => b_add (by omega) (by omega))) ?_); refine l_op (o_val r_as ?_); first | refine l_end ?_ | refine l_nil ?_
     repeat refine c_seq ?_
     refine c_region ?_; refine l_op (o_val r_mv ?_); refine l_op (o_val r_mv ?_); refine l_op (o_val r_mv ?_); refine l_op (o_val (r_slS (s := s) k2 (k2 + x1.toNat) s.cap (lv := some (VI (k2 : Int))) (hv := some (VI ((k2 : Int) + (x1.toNat : Int)))) (mv := none) rfl el32 rfl rfl rfl (fun w => by exact sblh k2 (k2 + x1.toNat) (by omega) (by omega) (by (try simp only [Sl.cut]); omega) (by (try simp only [Sl.cut]); omega) w)) ?_); refine l_op (o_callR Try.func87 rfl rfl rfl (own_ret _ (Sl.cut s k2 (k2 + x1.toNat) s.cap) ((hs.up H (fun _ => apart_nil _)).cut (l := k2) (h := k2 + x1.toNat) (m := s.cap) (by omega) (by (try simp only [Sl.cut]); omega) (by omega) (by (try simp only [Sl.cut]); omega)) 0 (by (try simp only [Sl.cut]); omega)) ?_); rintro _ w ⟨a8, c9, rfl, Hc⟩
     replace H : Hp _ w _ ([.own a8 (k2 + x1.toNat - k2) c9 ((((s.l).drop k2).take (k2 + x1.toNat - k2)).map V8) 5 1]) := H.call Hc
     clear Hc
     refine l_op (o_val r_mv ?_); refine l_op (o_val r_as ?_); refine l_op (o_val r_as ?_); refine l_op (o_val r_as ?_); first | refine l_end ?_ | refine l_nil ?_
     refine c_ret ?_; try dsimp only [Exit.then, Exit.inBlock]
     refine e_retN (vs := [.slice (hd a8) (k2 + x1.toNat - k2) c9, VI ((k2 : Int) + (x1.toNat : Int)), VI 0]) _ Try.results80 rfl (resT (v := .slice (hd a8) (k2 + x1.toNat - k2) c9) rfl (resT (v := VI ((k2 : Int) + (x1.toNat : Int))) rfl (resT (v := VI 0) rfl (resZ)))) ?_
     refine ⟨_, rfl, ?_⟩
     have he0 : e3 = 0 := by omega
     subst he0
     have hto := txtRes_ok hco4 (by omega) (by omega)
     have hl : ((s.l.drop k2).take x1.toNat).length = x1.toNat := by simp; omega
     have e1 : ((s.l).drop k2).take (k2 + x1.toNat - k2) = (s.l.drop k2).take x1.toNat := by congr 1; omega
     have e2 : k2 + x1.toNat - k2 = ((s.l.drop k2).take x1.toNat).length := by omega
     rw [e1, e2] at H
     rw [e2]
     exact ⟨_, _, _, _, _, rfl, hto, H.sub (.cons_cons _ (List.nil_sublist _))⟩
end Go.Proofs.Ytomjbabllcmodaa
namespace Go.Proofs.Ytomjbabllcmodaa
open Go
set_option maxRecDepth 100000
def itE (x : It) : List Value := ([.string ⟨(x.name).toArray⟩, VI x.kind] : List Value) ++ ((x.of.1).map V8 ++ (([VI x.size] : List Value)))
theorem itE_len (x : It) : (itE x).length = 35 := by
  show (([.string ⟨(x.name).toArray⟩, VI x.kind] : List Value) ++ ((x.of.1).map V8 ++ (([VI x.size] : List Value)))).length = 35
  exact (by simp only [List.length_append, List.length_map, List.length_cons, List.length_nil, (show (x.of.1).length = 32 from x.of.2)])
theorem itE_all (x : It) : (itE x).all (·.oneCell') = true := by
  show (([.string ⟨(x.name).toArray⟩, VI x.kind] : List Value) ++ ((x.of.1).map V8 ++ (([VI x.size] : List Value)))).all (·.oneCell') = true
  exact (by first | (simp [Value.oneCell', List.all_append, List.all_map]; done) | (simp only [List.all_append, List.all_cons, List.all_nil, List.all_map]; simp [Value.oneCell', Function.comp_def]))
theorem hd_tail {L : List UInt8} (h : 0 < L.length) : L = L.getD 0 0 :: L.drop 1 := by
  cases L with
  | nil => simp at h
  | cons a t => rfl
theorem item_no1 {L t : List UInt8} {k : Nat} {e : Int} (h : TxtRes (L.drop 1) t k e) (he : ¬ e = 0) (hL : 0 < L.length) : NoIt L := by
  rw [hd_tail hL]
  rcases h with ⟨h1, _⟩ | ⟨_, h2⟩
  · exact absurd h1 he
  · exact noIt_txt h2
theorem item_text {L t : List UInt8} {k : Nat} (h : TxtRes (L.drop 1) t k 0) (hL : 0 < L.length) : t.length ≤ 65536 ∧ L = L.getD 0 0 :: (cnt t.length ++ (t ++ L.drop (1 + k))) := by
  rcases h with ⟨_, h1, _, h3⟩ | ⟨h1, _⟩
  · refine ⟨h1, ?_⟩
    rw [List.drop_drop] at h3
    rw [← h3]; exact hd_tail hL
  · exact absurd rfl h1
theorem item_no2 {L t : List UInt8} {k : Nat} (h : TxtRes (L.drop 1) t k 0) (hL : 0 < L.length) (hs : L.length - (1 + k) < 32) : NoIt L := by
  rw [(item_text h hL).2]
  exact noIt_short (by rw [List.length_drop]; exact hs)
theorem item_split {L : List UInt8} {k : Nat} : L.drop k = (L.drop k).take 32 ++ L.drop (k + 32) := by
  rw [← List.drop_drop, List.take_append_drop]
theorem item_no3 {L t : List UInt8} {k k2 : Nat} {x : UInt64} {e2 : Int} (h : TxtRes (L.drop 1) t k 0) (hL : 0 < L.length) (hs : ¬ L.length - (1 + k) < 32) (hc : CntRes (L.drop (1 + k + 32)) x k2 e2) (hbad : ¬ e2 = 0 ∨ 9223372036854775807 < x.toNat) : NoIt L := by
  rw [(item_text h hL).2, item_split]
  refine noIt_size (by rw [List.length_take, List.length_drop]; omega) ?_
  rcases hc with ⟨h1, h2, h3, h4⟩ | ⟨_, h2⟩
  · rcases hbad with h5 | h5
    · exact absurd h1 h5
    · exact .inr ⟨x.toNat, _, h3, h5⟩
  · exact .inl h2
theorem item_yes {L t : List UInt8} {k k2 : Nat} {x : UInt64} {o : Id32} (h : TxtRes (L.drop 1) t k 0) (hL : 0 < L.length) (ho : o.1 = (L.drop (1 + k)).take 32) (hc : CntRes (L.drop (1 + k + 32)) x k2 0) (hx : ¬ 9223372036854775807 < x.toNat) :
    (⟨t, ((L.getD 0 0).toNat : Int), o, (x.toNat : Int)⟩ : It).fits ∧ L = itB ⟨t, ((L.getD 0 0).toNat : Int), o, (x.toNat : Int)⟩ ++ L.drop (1 + k + 32 + k2) := by
  obtain ⟨ht, hl⟩ := item_text h hL
  have hb := UInt8.toNat_lt (L.getD 0 0)
  refine ⟨⟨⟨⟨by simp only; omega, by simp only; omega⟩, by simp only; omega⟩, ht, by simp only; omega⟩, ?_⟩
  rcases hc with ⟨_, h2, h3, h4⟩ | ⟨h1, _⟩
  · have e : itB ⟨t, ((L.getD 0 0).toNat : Int), o, (x.toNat : Int)⟩ = L.getD 0 0 :: (cnt t.length ++ (t ++ ((L.drop (1 + k)).take 32 ++ cnt x.toNat))) := by
      simp only [itB, ho, Int.toNat_natCast, UInt8.ofNat_toNat]
    rw [e]
    conv => lhs; rw [hl, item_split, h3]
    simp only [List.cons_append, List.append_assoc, List.drop_drop]
  · exact absurd rfl h1
theorem cut_l1 {s : Sl} {w : World} (hs : s.ok w) : (s.cut 1 s.len s.cap).l = s.l.drop 1 := by
  simp only [Sl.cut]; rw [List.take_of_length_le (by rw [List.length_drop, hs.ln]; omega)]
theorem cut_l2 {s : Sl} {w : World} (hs : s.ok w) (k : Nat) : ((s.cut k s.len s.cap).cut 32 (s.len - k) (s.cap - k)).l = s.l.drop (k + 32) := by
  simp only [Sl.cut]
  rw [List.take_of_length_le (by simp only [List.length_drop, List.length_take]; have := hs.ln; omega), List.take_of_length_le (by rw [List.length_drop, hs.ln]; omega), List.drop_drop]
theorem cut_l3 {s : Sl} {w : World} (hs : s.ok w) (k j : Nat) : (((s.cut k s.len s.cap).cut 32 (s.len - k) (s.cap - k)).cut j (s.len - k - 32) (s.cap - k - 32)).l = s.l.drop (k + 32 + j) := by
  have e := cut_l2 hs k
  rw [Sl.cut]; simp only [e]
  rw [List.drop_drop, List.take_of_length_le (by rw [List.length_drop, hs.ln]; omega)]
theorem item_ret (w0 : World) (s : Sl) (hs : s.ok w0) (hm : s.len ≤ 1048576) :
    Ret Try.prog 62 [s.v] w0 fun v w' => ∃ (x : It) (r : Sl) (b : Bool), v = .tuple #[.agg (itE x).toArray, r.v, .bool b] ∧ (∀ w : World, s.ok w → r.ok w) ∧ r.len ≤ s.len ∧ ((b = true ∧ x.fits ∧ s.l = itB x ++ r.l) ∨ (b = false ∧ NoIt s.l)) ∧ Hp w0 w' [] [] := by
  refine ret_mk Try.func62 rfl Try.ntmps62 (by simp) ?_
  have H := Hp.refl w0 []
  have hsl := hs.ln
  have hle := hs.le
  have hmx := hs.mx
  repeat refine c_seq ?_
  refine c_region ?_; refine l_op (o_alloc H zc54 (fun b1 w H hb1 => ?_)); replace H : Hp _ w _ ([.blk b1 (([.string ⟨(([] : List UInt8)).toArray⟩, VI 0] : List Value) ++ ((List.replicate 32 (0 : UInt8)).map V8 ++ (([VI 0] : List Value)))) 54]) := H
  refine l_op (o_val r_as ?_); refine l_op (o_val r_as ?_); first | refine l_end ?_ | refine l_nil ?_
  repeat refine c_seq ?_
  refine c_region ?_; refine l_op (o_alloc H zc54 (fun b2 w H hb2 => ?_)); replace H : Hp _ w _ ([_, .blk b2 (([.string ⟨(([] : List UInt8)).toArray⟩, VI 0] : List Value) ++ ((List.replicate 32 (0 : UInt8)).map V8 ++ (([VI 0] : List Value)))) 54]) := H
  first | refine l_end ?_ | refine l_nil ?_
  repeat refine c_seq ?_
  refine c_region ?_; refine l_op (o_val r_mv ?_); refine l_op (o_val (r_lens el32 rfl) ?_); refine l_op (o_val (r_bin (a := (s.len : Int)) (b := 0) rfl rfl (fun _ => b_eql)) ?_); first | refine l_end ?_ | refine l_nil ?_
  by_cases hc3 : (s.len : Int) = 0
  ·
   repeat refine c_seq ?_
   refine c_yes (by exact congrArg Value.bool (decide_eq_true hc3)) ?_; repeat refine c_seq ?_
   refine c_region ?_; refine l_op (o_val (r_ldA (C := ([.string ⟨(([] : List UInt8)).toArray⟩, VI 0] : List Value) ++ ((List.replicate 32 (0 : UInt8)).map V8 ++ (([VI 0] : List Value)))) H (i := 1) rfl rfl rt54 (by simp only [List.length_append, List.length_map, List.length_cons, List.length_nil, (show (List.replicate 32 (0 : UInt8)).length = 32 from (List.length_replicate ..))])) ?_); refine l_op (o_stW (C' := ([.string ⟨(([] : List UInt8)).toArray⟩, VI 0] : List Value) ++ ((List.replicate 32 (0 : UInt8)).map V8 ++ (([VI 0] : List Value)))) H (i := 0) rfl rfl rfl cs54 (by first | (simp [V8, Value.oneCell']; done) | (simp only [List.all_append, List.all_cons, List.all_nil, List.all_map]; simp [Value.oneCell', Function.comp_def])) (by simp only [List.length_append, List.length_map, List.length_cons, List.length_nil, (show (List.replicate 32 (0 : UInt8)).length = 32 from (List.length_replicate ..))]) (by simp only [List.length_append, List.length_map, List.length_cons, List.length_nil, (show (List.replicate 32 (0 : UInt8)).length = 32 from (List.length_replicate ..))]) (fun w H => ?_)); replace H : Hp _ w _ [_, _] := H
   refine l_op (o_val r_as ?_); refine l_op (o_val r_as ?_); first | refine l_end ?_ | refine l_nil ?_
   refine c_ret ?_; try dsimp only [Exit.then, Exit.inBlock]
   refine e_retN (vs := [.agg (([.string ⟨(([] : List UInt8)).toArray⟩, VI 0] : List Value) ++ ((List.replicate 32 (0 : UInt8)).map V8 ++ (([VI 0] : List Value)))).toArray, .slice none 0 0, .bool false]) _ Try.results62 rfl (H.resR (C := ([.string ⟨(([] : List UInt8)).toArray⟩, VI 0] : List Value) ++ ((List.replicate 32 (0 : UInt8)).map V8 ++ (([VI 0] : List Value)))) (i := 0) rfl rfl rt54 (by simp only [List.length_append, List.length_map, List.length_cons, List.length_nil, (show (List.replicate 32 (0 : UInt8)).length = 32 from (List.length_replicate ..))]) (resT (v := .slice none 0 0) rfl (resT (v := .bool false) rfl (resZ)))) ?_
   refine ⟨_, rfl, ?_⟩
   have h0 : s.l = [] := List.eq_nil_of_length_eq_zero (by omega)
   exact ⟨(⟨([] : List UInt8), 0, (⟨List.replicate 32 (0 : UInt8), (show (List.replicate 32 (0 : UInt8)).length = 32 from (List.length_replicate ..))⟩ : Id32), 0⟩ : It), ⟨none, 0, 0, []⟩, false, rfl, fun _ _ => Sl.ok_nil _, by simp, .inr ⟨rfl, h0 ▸ noIt_nil⟩, H.sub (List.nil_sublist _)⟩
  ·
   repeat refine c_seq ?_
   refine c_no (by exact congrArg Value.bool (decide_eq_false hc3)) ?_; refine c_skip ?_; repeat refine c_seq ?_
   refine c_region ?_; refine l_op (o_val r_mv ?_); have ah6 := ((hs.up H (fun _ => apart_nil _))).addr (by (try simp only [Sl.cut]); omega)
   obtain ⟨ab4, ao5, ah6⟩ := ah6
   refine l_op (o_val (r_isN 0 rfl rfl el32 ah6 (by omega) (by (try simp only [Sl.cut]); omega)) ?_); refine l_op (o_val (r_ldB (s := s) (k := 0) (hs.up H (fun _ => apart_nil _)) ah6 rfl ct5 (by (try simp only [Sl.cut]); omega)) ?_); refine l_op (o_val (r_conv Try.underlying5 Try.underlying3 rfl (w_i64_8 _)) ?_); refine l_op (o_val (r_fa rfl fo54_1) ?_); refine l_op (o_s1 (u := VI (((s.l).getD 0 0).toNat : Int)) H (i := 1) rfl rfl rfl cs3 rfl (show Cut3 (([.string ⟨(([] : List UInt8)).toArray⟩, VI 0] : List Value) ++ ((List.replicate 32 (0 : UInt8)).map V8 ++ (([VI 0] : List Value)))) (([.string ⟨(([] : List UInt8)).toArray⟩] : List Value)) (([VI 0] : List Value)) ((List.replicate 32 (0 : UInt8)).map V8 ++ (([VI 0] : List Value))) 1 1 from ⟨(show ([.string ⟨(([] : List UInt8)).toArray⟩, VI 0] : List Value) ++ ((List.replicate 32 (0 : UInt8)).map V8 ++ (([VI 0] : List Value))) = ([.string ⟨(([] : List UInt8)).toArray⟩] : List Value) ++ ((([VI 0] : List Value)) ++ ((List.replicate 32 (0 : UInt8)).map V8 ++ (([VI 0] : List Value)))) from by simp only [List.cons_append, List.nil_append]), (by rfl), (by rfl)⟩) (fun w H => ?_))
   rw [show ([.string ⟨(([] : List UInt8)).toArray⟩] : List Value) ++ (([VI (((s.l).getD 0 0).toNat : Int)] : List Value) ++ ((List.replicate 32 (0 : UInt8)).map V8 ++ (([VI 0] : List Value)))) = ([.string ⟨(([] : List UInt8)).toArray⟩, VI (((s.l).getD 0 0).toNat : Int)] : List Value) ++ ((List.replicate 32 (0 : UInt8)).map V8 ++ (([VI 0] : List Value))) from by simp only [List.cons_append, List.nil_append]] at H
   replace H : Hp _ w _ ([_, .blk b2 (([.string ⟨(([] : List UInt8)).toArray⟩, VI (((s.l).getD 0 0).toNat : Int)] : List Value) ++ ((List.replicate 32 (0 : UInt8)).map V8 ++ (([VI 0] : List Value)))) 54]) := H
   first | refine l_end ?_ | refine l_nil ?_
   repeat refine c_seq ?_
   refine c_region ?_; refine l_op (o_val r_mv ?_); refine l_op (o_val (r_slS (s := s) 1 s.len s.cap (lv := some (VI 1)) (hv := none) (mv := none) rfl el32 rfl rfl rfl (fun w => by exact sbl 1 (by omega) (by (try simp only [Sl.cut]); omega) w)) ?_); refine l_op (o_callR Try.func80 rfl rfl rfl (takeText_ret _ (Sl.cut s 1 s.len s.cap) ((hs.up H (fun _ => apart_nil _)).cut (l := 1) (h := s.len) (m := s.cap) (by omega) (by (try simp only [Sl.cut]); omega) (by omega) (by (try simp only [Sl.cut]); omega)) (by (try simp only [Sl.cut]); omega)) ?_); rintro _ w ⟨a7, c8, t9, k10, e11, rfl, hto12, Hc⟩
   replace H : Hp _ w _ ([_, _, .own a7 t9.length c8 ((t9).map V8) 5 1]) := H.call Hc
   clear Hc
   have hto12n : e11 = 0 → k10 ≤ (((s.l).drop 1).take (s.len - 1)).length := fun h => hto12.elim (fun h1 => h1.2.2.1) (fun h1 => absurd h h1.1)
   try simp only [List.length_take, List.length_drop] at hto12n
   refine l_op (o_val r_mv ?_); refine l_op (o_val (r_ext rfl rfl) ?_); refine l_op (o_val (r_ext rfl rfl) ?_); refine l_op (o_val (r_ext rfl rfl) ?_); refine l_op (o_val r_as ?_); refine l_op (o_val r_as ?_); refine l_op (o_val r_as ?_); first | refine l_end ?_ | refine l_nil ?_
   repeat refine c_seq ?_
   refine c_region ?_; refine l_op (o_val r_mv ?_); refine l_op (o_val (r_bin (a := e11) (b := 0) rfl rfl (fun _ => b_neq)) ?_); first | refine l_end ?_ | refine l_nil ?_
   by_cases hc13 : e11 ≠ 0
   ·
    repeat refine c_seq ?_
    refine c_yes (by exact congrArg Value.bool (decide_eq_true hc13)) ?_; repeat refine c_seq ?_
    refine c_region ?_; refine l_op (o_val (r_ldA (C := ([.string ⟨(([] : List UInt8)).toArray⟩, VI (((s.l).getD 0 0).toNat : Int)] : List Value) ++ ((List.replicate 32 (0 : UInt8)).map V8 ++ (([VI 0] : List Value)))) H (i := 1) rfl rfl rt54 (by simp only [List.length_append, List.length_map, List.length_cons, List.length_nil, (show (List.replicate 32 (0 : UInt8)).length = 32 from (List.length_replicate ..))])) ?_); refine l_op (o_stW (C' := ([.string ⟨(([] : List UInt8)).toArray⟩, VI (((s.l).getD 0 0).toNat : Int)] : List Value) ++ ((List.replicate 32 (0 : UInt8)).map V8 ++ (([VI 0] : List Value)))) H (i := 0) rfl rfl rfl cs54 (by first | (simp [V8, Value.oneCell']; done) | (simp only [List.all_append, List.all_cons, List.all_nil, List.all_map]; simp [Value.oneCell', Function.comp_def])) (by simp only [List.length_append, List.length_map, List.length_cons, List.length_nil, (show (List.replicate 32 (0 : UInt8)).length = 32 from (List.length_replicate ..))]) (by simp only [List.length_append, List.length_map, List.length_cons, List.length_nil, (show (List.replicate 32 (0 : UInt8)).length = 32 from (List.length_replicate ..))]) (fun w H => ?_)); replace H : Hp _ w _ ([.blk b1 (([.string ⟨(([] : List UInt8)).toArray⟩, VI (((s.l).getD 0 0).toNat : Int)] : List Value) ++ ((List.replicate 32 (0 : UInt8)).map V8 ++ (([VI 0] : List Value)))) 54, _, _]) := H
    refine l_op (o_val r_as ?_); refine l_op (o_val r_as ?_); first | refine l_end ?_ | refine l_nil ?_
    refine c_ret ?_; try dsimp only [Exit.then, Exit.inBlock]
    refine e_retN (vs := [.agg (([.string ⟨(([] : List UInt8)).toArray⟩, VI (((s.l).getD 0 0).toNat : Int)] : List Value) ++ ((List.replicate 32 (0 : UInt8)).map V8 ++ (([VI 0] : List Value)))).toArray, .slice none 0 0, .bool false]) _ Try.results62 rfl (H.resR (C := ([.string ⟨(([] : List UInt8)).toArray⟩, VI (((s.l).getD 0 0).toNat : Int)] : List Value) ++ ((List.replicate 32 (0 : UInt8)).map V8 ++ (([VI 0] : List Value)))) (i := 0) rfl rfl rt54 (by simp only [List.length_append, List.length_map, List.length_cons, List.length_nil, (show (List.replicate 32 (0 : UInt8)).length = 32 from (List.length_replicate ..))]) (resT (v := .slice none 0 0) rfl (resT (v := .bool false) rfl (resZ)))) ?_
    refine ⟨_, rfl, ?_⟩
    rw [cut_l1 hs] at hto12
    exact ⟨(⟨([] : List UInt8), (((s.l).getD 0 0).toNat : Int), (⟨List.replicate 32 (0 : UInt8), (show (List.replicate 32 (0 : UInt8)).length = 32 from (List.length_replicate ..))⟩ : Id32), 0⟩ : It), ⟨none, 0, 0, []⟩, false, rfl, fun _ _ => Sl.ok_nil _, by simp, .inr ⟨rfl, item_no1 hto12 (by omega) (by omega)⟩, H.sub (List.nil_sublist _)⟩
   ·
    repeat refine c_seq ?_
    refine c_no (by exact congrArg Value.bool (decide_eq_false hc13)) ?_; refine c_skip ?_; repeat refine c_seq ?_
    refine c_region ?_; refine l_op (o_val r_mv ?_); refine l_op (o_val r_mv ?_); refine l_op (o_val (r_bin (a := 1) (b := (k10 : Int)) rfl rfl (fun _ => b_add (by omega) (by omega))) ?_); refine l_op (o_val (r_slS (s := s) (1 + k10) s.len s.cap (lv := some (VI (1 + (k10 : Int)))) (hv := none) (mv := none) rfl el32 rfl rfl rfl (fun w => by exact sbl (1 + k10) (by omega) (by (try simp only [Sl.cut]); omega) w)) ?_); refine l_op (o_val r_as ?_); first | refine l_end ?_ | refine l_nil ?_
    repeat refine c_seq ?_
    refine c_region ?_; refine l_op (o_val r_mv ?_); refine l_op (o_val (r_lens el32 rfl) ?_); refine l_op (o_val (r_bin (a := ((s.len - (1 + k10) : Nat) : Int)) (b := 32) rfl rfl (fun _ => b_lss)) ?_); first | refine l_end ?_ | refine l_nil ?_
    by_cases hc14 : ((s.len - (1 + k10) : Nat) : Int) < 32
    ·
     repeat refine c_seq ?_
     refine c_yes (by exact congrArg Value.bool (decide_eq_true hc14)) ?_; repeat refine c_seq ?_
     refine c_region ?_; refine l_op (o_val (r_ldA (C := ([.string ⟨(([] : List UInt8)).toArray⟩, VI (((s.l).getD 0 0).toNat : Int)] : List Value) ++ ((List.replicate 32 (0 : UInt8)).map V8 ++ (([VI 0] : List Value)))) H (i := 1) rfl rfl rt54 (by simp only [List.length_append, List.length_map, List.length_cons, List.length_nil, (show (List.replicate 32 (0 : UInt8)).length = 32 from (List.length_replicate ..))])) ?_); refine l_op (o_stW (C' := ([.string ⟨(([] : List UInt8)).toArray⟩, VI (((s.l).getD 0 0).toNat : Int)] : List Value) ++ ((List.replicate 32 (0 : UInt8)).map V8 ++ (([VI 0] : List Value)))) H (i := 0) rfl rfl rfl cs54 (by first | (simp [V8, Value.oneCell']; done) | (simp only [List.all_append, List.all_cons, List.all_nil, List.all_map]; simp [Value.oneCell', Function.comp_def])) (by simp only [List.length_append, List.length_map, List.length_cons, List.length_nil, (show (List.replicate 32 (0 : UInt8)).length = 32 from (List.length_replicate ..))]) (by simp only [List.length_append, List.length_map, List.length_cons, List.length_nil, (show (List.replicate 32 (0 : UInt8)).length = 32 from (List.length_replicate ..))]) (fun w H => ?_)); replace H : Hp _ w _ ([.blk b1 (([.string ⟨(([] : List UInt8)).toArray⟩, VI (((s.l).getD 0 0).toNat : Int)] : List Value) ++ ((List.replicate 32 (0 : UInt8)).map V8 ++ (([VI 0] : List Value)))) 54, _, _]) := H
     refine l_op (o_val r_as ?_); refine l_op (o_val r_as ?_); first | refine l_end ?_ | refine l_nil ?_
     refine c_ret ?_; try dsimp only [Exit.then, Exit.inBlock]
     refine e_retN (vs := [.agg (([.string ⟨(([] : List UInt8)).toArray⟩, VI (((s.l).getD 0 0).toNat : Int)] : List Value) ++ ((List.replicate 32 (0 : UInt8)).map V8 ++ (([VI 0] : List Value)))).toArray, .slice none 0 0, .bool false]) _ Try.results62 rfl (H.resR (C := ([.string ⟨(([] : List UInt8)).toArray⟩, VI (((s.l).getD 0 0).toNat : Int)] : List Value) ++ ((List.replicate 32 (0 : UInt8)).map V8 ++ (([VI 0] : List Value)))) (i := 0) rfl rfl rt54 (by simp only [List.length_append, List.length_map, List.length_cons, List.length_nil, (show (List.replicate 32 (0 : UInt8)).length = 32 from (List.length_replicate ..))]) (resT (v := .slice none 0 0) rfl (resT (v := .bool false) rfl (resZ)))) ?_
     refine ⟨_, rfl, ?_⟩
     rw [cut_l1 hs] at hto12
     have he0 : e11 = 0 := by omega
     subst he0
     exact ⟨(⟨([] : List UInt8), (((s.l).getD 0 0).toNat : Int), (⟨List.replicate 32 (0 : UInt8), (show (List.replicate 32 (0 : UInt8)).length = 32 from (List.length_replicate ..))⟩ : Id32), 0⟩ : It), ⟨none, 0, 0, []⟩, false, rfl, fun _ _ => Sl.ok_nil _, by simp, .inr ⟨rfl, item_no2 hto12 (by omega) (by omega)⟩, H.sub (List.nil_sublist _)⟩
    ·
     repeat refine c_seq ?_
     refine c_no (by exact congrArg Value.bool (decide_eq_false hc14)) ?_; refine c_skip ?_; repeat refine c_seq ?_
     refine wp_held (fun w => Hp w0 w [] [.blk b1 (([.string ⟨(([] : List UInt8)).toArray⟩, VI 0] : List Value) ++ ((List.replicate 32 (0 : UInt8)).map V8 ++ (([VI 0] : List Value)))) 54, .own a7 t9.length c8 ((t9).map V8) 5 1]) mixed ?_; replace H := H.drew
     have HS := H.sub (.cons_cons _ (.cons _ (.cons_cons _ (List.nil_sublist _))))
     refine t_take 0 rfl (by kernel_rfl) (by kernel_rfl) (by kernel_rfl) (fun _ _ _ h => h) (fun w HS => r_mv) HS ?_; refine t_take 1 rfl (by kernel_rfl) (by kernel_rfl) (by kernel_rfl) (fun _ _ _ h => h) (fun w HS => r_b2S (s := ⟨hd a7, t9.length, c8, t9⟩) Try.underlying32 Try.underlying5 Try.underlying9 rfl (HS.slOwn (i := 1) rfl)) HS ?_; refine t_take 2 rfl (by kernel_rfl) (by kernel_rfl) (by kernel_rfl) (fun _ _ _ h => h) (fun w HS => r_mv) HS ?_; refine t_take 3 rfl (by kernel_rfl) (by kernel_rfl) (by kernel_rfl) (fun _ _ _ h => h) (fun w HS => r_slS (s := (Sl.cut s (1 + k10) s.len s.cap)) 0 32 (s.cap - (1 + k10)) (lv := none) (hv := some (VI 32)) (mv := none) rfl el32 rfl rfl rfl (fun w => by exact sbh 32 (by omega) (by (try simp only [Sl.cut]); omega) w)) HS ?_; refine t_take 4 rfl (by kernel_rfl) (by kernel_rfl) (by kernel_rfl) (fun _ _ _ h => h) (fun w HS => r_sap Try.underlying29 rfl (by (try simp only [Sl.cut]); omega)) HS ?_; have ah17 := ((((hs.up HS (fun _ => apart_nil _)).cut (l := 1 + k10) (h := s.len) (m := s.cap) (by omega) (by (try simp only [Sl.cut]); omega) (by omega) (by (try simp only [Sl.cut]); omega)).cut (l := 0) (h := 32) (m := s.cap - (1 + k10)) (by omega) (by (try simp only [Sl.cut]); omega) (by omega) (by (try simp only [Sl.cut]); omega))).addr (by (try simp only [Sl.cut]); omega)
     obtain ⟨ab15, ao16, ah17⟩ := ah17
     refine t_take 5 rfl (by kernel_rfl) (by kernel_rfl) (by kernel_rfl) (fun _ _ _ h => h) (fun w HS => r_ldSE (s := (Sl.cut (Sl.cut s (1 + k10) s.len s.cap) 0 32 (s.cap - (1 + k10)))) (k := 32) (((hs.up HS (fun _ => apart_nil _)).cut (l := 1 + k10) (h := s.len) (m := s.cap) (by omega) (by (try simp only [Sl.cut]); omega) (by omega) (by (try simp only [Sl.cut]); omega)).cut (l := 0) (h := 32) (m := s.cap - (1 + k10)) (by omega) (by (try simp only [Sl.cut]); omega) (by omega) (by (try simp only [Sl.cut]); omega)) ah17 rfl rt29 (by decide) rfl) HS ?_; refine t_take 6 rfl (by kernel_rfl) (by kernel_rfl) (by kernel_rfl) (fun _ _ _ h => h) (fun w HS => r_fa rfl fo54_0) HS ?_; refine t_step 7 rfl (by kernel_rfl) (o_s1 (u := .string ⟨(t9).toArray⟩) H (i := 1) rfl rfl rfl cs9 rfl (show Cut3 (([.string ⟨(([] : List UInt8)).toArray⟩, VI (((s.l).getD 0 0).toNat : Int)] : List Value) ++ ((List.replicate 32 (0 : UInt8)).map V8 ++ (([VI 0] : List Value)))) (([] : List Value)) (([.string ⟨(([] : List UInt8)).toArray⟩] : List Value)) (([VI (((s.l).getD 0 0).toNat : Int)] : List Value) ++ ((List.replicate 32 (0 : UInt8)).map V8 ++ (([VI 0] : List Value)))) 0 1 from ⟨(show ([.string ⟨(([] : List UInt8)).toArray⟩, VI (((s.l).getD 0 0).toNat : Int)] : List Value) ++ ((List.replicate 32 (0 : UInt8)).map V8 ++ (([VI 0] : List Value))) = ([] : List Value) ++ ((([.string ⟨(([] : List UInt8)).toArray⟩] : List Value)) ++ (([VI (((s.l).getD 0 0).toNat : Int)] : List Value) ++ ((List.replicate 32 (0 : UInt8)).map V8 ++ (([VI 0] : List Value))))) from by simp only [List.cons_append, List.nil_append]), (by rfl), (by rfl)⟩) (fun w H => ?_))
     rw [show ([] : List Value) ++ (([.string ⟨(t9).toArray⟩] : List Value) ++ (([VI (((s.l).getD 0 0).toNat : Int)] : List Value) ++ ((List.replicate 32 (0 : UInt8)).map V8 ++ (([VI 0] : List Value))))) = ([.string ⟨(t9).toArray⟩, VI (((s.l).getD 0 0).toNat : Int)] : List Value) ++ ((List.replicate 32 (0 : UInt8)).map V8 ++ (([VI 0] : List Value))) from by simp only [List.cons_append, List.nil_append]] at H
     replace H : Hp _ w _ ([_, .blk b2 (([.string ⟨(t9).toArray⟩, VI (((s.l).getD 0 0).toNat : Int)] : List Value) ++ ((List.replicate 32 (0 : UInt8)).map V8 ++ (([VI 0] : List Value)))) 54, _]) := H
     refine ⟨H.sub (.cons_cons _ (.cons _ (.cons_cons _ (List.nil_sublist _)))), ?_⟩
     replace HS := H.sub (.cons_cons _ (.cons _ (.cons_cons _ (List.nil_sublist _))))
     refine t_take 8 rfl (by kernel_rfl) (by kernel_rfl) (by kernel_rfl) (fun _ _ _ h => h) (fun w HS => r_fa rfl fo54_2) HS ?_; refine t_step 9 rfl (by kernel_rfl) (o_sk (V := (((((s.l).drop (1 + k10)).take (s.len - (1 + k10))).drop 0).take (32)).map V8) H (i := 1) rfl rfl rfl cs29 (by first | (simp [Value.oneCell']; done) | (simp only [List.all_map]; simp [Value.oneCell', Function.comp_def])) (by simp only [List.length_map, (show (((((s.l).drop (1 + k10)).take (s.len - (1 + k10))).drop 0).take (32)).length = 32 from (by simp only [List.length_take, List.length_drop]; omega))]) (show Cut3 (([.string ⟨(t9).toArray⟩, VI (((s.l).getD 0 0).toNat : Int)] : List Value) ++ ((List.replicate 32 (0 : UInt8)).map V8 ++ (([VI 0] : List Value)))) (([.string ⟨(t9).toArray⟩, VI (((s.l).getD 0 0).toNat : Int)] : List Value)) ((List.replicate 32 (0 : UInt8)).map V8) (([VI 0] : List Value)) 2 32 from ⟨(show ([.string ⟨(t9).toArray⟩, VI (((s.l).getD 0 0).toNat : Int)] : List Value) ++ ((List.replicate 32 (0 : UInt8)).map V8 ++ (([VI 0] : List Value))) = ([.string ⟨(t9).toArray⟩, VI (((s.l).getD 0 0).toNat : Int)] : List Value) ++ (((List.replicate 32 (0 : UInt8)).map V8) ++ (([VI 0] : List Value))) from by simp only [List.cons_append, List.nil_append]), (by rfl), (by simp only [List.length_map, (show (List.replicate 32 (0 : UInt8)).length = 32 from (List.length_replicate ..))])⟩) (fun w H => ?_))
     rw [show ([.string ⟨(t9).toArray⟩, VI (((s.l).getD 0 0).toNat : Int)] : List Value) ++ (((((((s.l).drop (1 + k10)).take (s.len - (1 + k10))).drop 0).take (32)).map V8) ++ (([VI 0] : List Value))) = ([.string ⟨(t9).toArray⟩, VI (((s.l).getD 0 0).toNat : Int)] : List Value) ++ ((((((s.l).drop (1 + k10)).take (s.len - (1 + k10))).drop 0).take (32)).map V8 ++ (([VI 0] : List Value))) from by simp only [List.cons_append, List.nil_append]] at H
     replace H : Hp _ w _ ([_, .blk b2 (([.string ⟨(t9).toArray⟩, VI (((s.l).getD 0 0).toNat : Int)] : List Value) ++ ((((((s.l).drop (1 + k10)).take (s.len - (1 + k10))).drop 0).take (32)).map V8 ++ (([VI 0] : List Value)))) 54, _]) := H
     refine ⟨H.sub (.cons_cons _ (.cons _ (.cons_cons _ (List.nil_sublist _)))), ?_⟩
     replace HS := H.sub (.cons_cons _ (.cons _ (.cons_cons _ (List.nil_sublist _))))
     refine t_done (by kernel_rfl) ?_
     clear HS
     repeat refine c_seq ?_
     refine c_region ?_; refine l_op (o_val r_mv ?_); refine l_op (o_val (r_slS (s := (Sl.cut s (1 + k10) s.len s.cap)) 32 (s.len - (1 + k10)) (s.cap - (1 + k10)) (lv := some (VI 32)) (hv := none) (mv := none) rfl el32 rfl rfl rfl (fun w => by exact sbl 32 (by omega) (by (try simp only [Sl.cut]); omega) w)) ?_); refine l_op (o_val r_as ?_); first | refine l_end ?_ | refine l_nil ?_
     repeat refine c_seq ?_
     refine c_region ?_; refine l_op (o_val r_mv ?_); refine l_op (o_callR Try.func61 rfl rfl rfl (takeCount_ret _ (Sl.cut (Sl.cut s (1 + k10) s.len s.cap) 32 (s.len - (1 + k10)) (s.cap - (1 + k10))) (((hs.up H (fun _ => apart_nil _)).cut (l := 1 + k10) (h := s.len) (m := s.cap) (by omega) (by (try simp only [Sl.cut]); omega) (by omega) (by (try simp only [Sl.cut]); omega)).cut (l := 32) (h := s.len - (1 + k10)) (m := s.cap - (1 + k10)) (by omega) (by (try simp only [Sl.cut]); omega) (by omega) (by (try simp only [Sl.cut]); omega)) (by (try simp only [Sl.cut]); omega)) ?_); rintro _ w ⟨x18, k19, e20, rfl, hco21, Hc⟩
     replace H : Hp _ w _ ([_, _, _]) := H.call Hc
     clear Hc
     have hco21n : e20 = 0 → k19 ≤ (((((s.l).drop (1 + k10)).take (s.len - (1 + k10))).drop 32).take (s.len - (1 + k10) - 32)).length := fun h => hco21.elim (fun h1 => h1.2.1) (fun h1 => absurd h h1.1)
     try simp only [List.length_take, List.length_drop] at hco21n
     refine l_op (o_val r_mv ?_); refine l_op (o_val (r_ext rfl rfl) ?_); refine l_op (o_val (r_ext rfl rfl) ?_); refine l_op (o_val (r_ext rfl rfl) ?_); refine l_op (o_val r_as ?_); refine l_op (o_val r_as ?_); refine l_op (o_val r_as ?_); first | refine l_end ?_ | refine l_nil ?_
     repeat refine c_seq ?_
     refine c_region ?_; refine l_op (o_val r_mv ?_); refine l_op (o_val (r_bin (a := e20) (b := 0) rfl rfl (fun _ => b_neq)) ?_); refine l_op (o_val r_mv ?_)
     by_cases hc22 : e20 ≠ 0
     ·
      refine l_no rfl rfl (by exact congrArg Value.bool (decide_eq_true hc22)) rfl ?_; refine l_no rfl rfl (by exact congrArg Value.bool (decide_eq_true hc22)) rfl ?_; refine l_op (o_val (r_pick (b := true) (congrArg Value.bool (decide_eq_true hc22))) ?_); first | refine l_end ?_ | refine l_nil ?_
      repeat refine c_seq ?_
      refine c_yes rfl ?_; repeat refine c_seq ?_
      refine c_region ?_; refine l_op (o_val (r_ldA (C := ([.string ⟨(t9).toArray⟩, VI (((s.l).getD 0 0).toNat : Int)] : List Value) ++ ((((((s.l).drop (1 + k10)).take (s.len - (1 + k10))).drop 0).take (32)).map V8 ++ (([VI 0] : List Value)))) H (i := 1) rfl rfl rt54 (by simp only [List.length_append, List.length_map, List.length_cons, List.length_nil, (show (((((s.l).drop (1 + k10)).take (s.len - (1 + k10))).drop 0).take (32)).length = 32 from (by simp only [List.length_take, List.length_drop]; omega))])) ?_); refine l_op (o_stW (C' := ([.string ⟨(t9).toArray⟩, VI (((s.l).getD 0 0).toNat : Int)] : List Value) ++ ((((((s.l).drop (1 + k10)).take (s.len - (1 + k10))).drop 0).take (32)).map V8 ++ (([VI 0] : List Value)))) H (i := 0) rfl rfl rfl cs54 (by first | (simp [Value.oneCell', List.all_append]; done) | (simp only [List.all_append, List.all_cons, List.all_nil, List.all_map]; simp [Value.oneCell', Function.comp_def])) (by simp only [List.length_append, List.length_map, List.length_cons, List.length_nil, (show (List.replicate 32 (0 : UInt8)).length = 32 from (List.length_replicate ..))]) (by simp only [List.length_append, List.length_map, List.length_cons, List.length_nil, (show (((((s.l).drop (1 + k10)).take (s.len - (1 + k10))).drop 0).take (32)).length = 32 from (by simp only [List.length_take, List.length_drop]; omega))]) (fun w H => ?_)); replace H : Hp _ w _ ([.blk b1 (([.string ⟨(t9).toArray⟩, VI (((s.l).getD 0 0).toNat : Int)] : List Value) ++ ((((((s.l).drop (1 + k10)).take (s.len - (1 + k10))).drop 0).take (32)).map V8 ++ (([VI 0] : List Value)))) 54, _, _]) := H
      refine l_op (o_val r_as ?_); refine l_op (o_val r_as ?_); first | refine l_end ?_ | refine l_nil ?_
      refine c_ret ?_; try dsimp only [Exit.then, Exit.inBlock]
      refine e_retN (vs := [.agg (([.string ⟨(t9).toArray⟩, VI (((s.l).getD 0 0).toNat : Int)] : List Value) ++ ((((((s.l).drop (1 + k10)).take (s.len - (1 + k10))).drop 0).take (32)).map V8 ++ (([VI 0] : List Value)))).toArray, .slice none 0 0, .bool false]) _ Try.results62 rfl (H.resR (C := ([.string ⟨(t9).toArray⟩, VI (((s.l).getD 0 0).toNat : Int)] : List Value) ++ ((((((s.l).drop (1 + k10)).take (s.len - (1 + k10))).drop 0).take (32)).map V8 ++ (([VI 0] : List Value)))) (i := 0) rfl rfl rt54 (by simp only [List.length_append, List.length_map, List.length_cons, List.length_nil, (show (((((s.l).drop (1 + k10)).take (s.len - (1 + k10))).drop 0).take (32)).length = 32 from (by simp only [List.length_take, List.length_drop]; omega))]) (resT (v := .slice none 0 0) rfl (resT (v := .bool false) rfl (resZ)))) ?_
      refine ⟨_, rfl, ?_⟩
      rw [cut_l1 hs] at hto12
      have he0 : e11 = 0 := by omega
      subst he0
      rw [cut_l2 hs] at hco21
      exact ⟨(⟨t9, (((s.l).getD 0 0).toNat : Int), (⟨((((s.l).drop (1 + k10)).take (s.len - (1 + k10))).drop 0).take (32), (show (((((s.l).drop (1 + k10)).take (s.len - (1 + k10))).drop 0).take (32)).length = 32 from (by simp only [List.length_take, List.length_drop]; omega))⟩ : Id32), 0⟩ : It), ⟨none, 0, 0, []⟩, false, rfl, fun _ _ => Sl.ok_nil _, by simp, .inr ⟨rfl, item_no3 hto12 (by omega) (by omega) hco21 (by omega)⟩, H.sub (List.nil_sublist _)⟩
     ·
      refine l_yes rfl rfl (by exact congrArg Value.bool (decide_eq_false hc22)) (o_val r_mv ?_); refine l_yes rfl rfl (by exact congrArg Value.bool (decide_eq_false hc22)) (o_val (r_bin (a := (x18.toNat : Int)) (b := 9223372036854775807) rfl rfl (fun _ => b_gtr)) ?_); refine l_op (o_val (r_pick (b := false) (congrArg Value.bool (decide_eq_false hc22))) ?_); first | refine l_end ?_ | refine l_nil ?_
      by_cases hc23 : 9223372036854775807 < (x18.toNat : Int)
      ·
       repeat refine c_seq ?_
       refine c_yes (by exact congrArg Value.bool (decide_eq_true hc23)) ?_; repeat refine c_seq ?_
       refine c_region ?_; refine l_op (o_val (r_ldA (C := ([.string ⟨(t9).toArray⟩, VI (((s.l).getD 0 0).toNat : Int)] : List Value) ++ ((((((s.l).drop (1 + k10)).take (s.len - (1 + k10))).drop 0).take (32)).map V8 ++ (([VI 0] : List Value)))) H (i := 1) rfl rfl rt54 (by simp only [List.length_append, List.length_map, List.length_cons, List.length_nil, (show (((((s.l).drop (1 + k10)).take (s.len - (1 + k10))).drop 0).take (32)).length = 32 from (by simp only [List.length_take, List.length_drop]; omega))])) ?_); refine l_op (o_stW (C' := ([.string ⟨(t9).toArray⟩, VI (((s.l).getD 0 0).toNat : Int)] : List Value) ++ ((((((s.l).drop (1 + k10)).take (s.len - (1 + k10))).drop 0).take (32)).map V8 ++ (([VI 0] : List Value)))) H (i := 0) rfl rfl rfl cs54 (by first | (simp [Value.oneCell', List.all_append]; done) | (simp only [List.all_append, List.all_cons, List.all_nil, List.all_map]; simp [Value.oneCell', Function.comp_def])) (by simp only [List.length_append, List.length_map, List.length_cons, List.length_nil, (show (List.replicate 32 (0 : UInt8)).length = 32 from (List.length_replicate ..))]) (by simp only [List.length_append, List.length_map, List.length_cons, List.length_nil, (show (((((s.l).drop (1 + k10)).take (s.len - (1 + k10))).drop 0).take (32)).length = 32 from (by simp only [List.length_take, List.length_drop]; omega))]) (fun w H => ?_)); replace H : Hp _ w _ ([.blk b1 (([.string ⟨(t9).toArray⟩, VI (((s.l).getD 0 0).toNat : Int)] : List Value) ++ ((((((s.l).drop (1 + k10)).take (s.len - (1 + k10))).drop 0).take (32)).map V8 ++ (([VI 0] : List Value)))) 54, _, _]) := H
       refine l_op (o_val r_as ?_); refine l_op (o_val r_as ?_); first | refine l_end ?_ | refine l_nil ?_
       refine c_ret ?_; try dsimp only [Exit.then, Exit.inBlock]
       refine e_retN (vs := [.agg (([.string ⟨(t9).toArray⟩, VI (((s.l).getD 0 0).toNat : Int)] : List Value) ++ ((((((s.l).drop (1 + k10)).take (s.len - (1 + k10))).drop 0).take (32)).map V8 ++ (([VI 0] : List Value)))).toArray, .slice none 0 0, .bool false]) _ Try.results62 rfl (H.resR (C := ([.string ⟨(t9).toArray⟩, VI (((s.l).getD 0 0).toNat : Int)] : List Value) ++ ((((((s.l).drop (1 + k10)).take (s.len - (1 + k10))).drop 0).take (32)).map V8 ++ (([VI 0] : List Value)))) (i := 0) rfl rfl rt54 (by simp only [List.length_append, List.length_map, List.length_cons, List.length_nil, (show (((((s.l).drop (1 + k10)).take (s.len - (1 + k10))).drop 0).take (32)).length = 32 from (by simp only [List.length_take, List.length_drop]; omega))]) (resT (v := .slice none 0 0) rfl (resT (v := .bool false) rfl (resZ)))) ?_
       refine ⟨_, rfl, ?_⟩
       rw [cut_l1 hs] at hto12
       have he0 : e11 = 0 := by omega
       subst he0
       rw [cut_l2 hs] at hco21
       exact ⟨(⟨t9, (((s.l).getD 0 0).toNat : Int), (⟨((((s.l).drop (1 + k10)).take (s.len - (1 + k10))).drop 0).take (32), (show (((((s.l).drop (1 + k10)).take (s.len - (1 + k10))).drop 0).take (32)).length = 32 from (by simp only [List.length_take, List.length_drop]; omega))⟩ : Id32), 0⟩ : It), ⟨none, 0, 0, []⟩, false, rfl, fun _ _ => Sl.ok_nil _, by simp, .inr ⟨rfl, item_no3 hto12 (by omega) (by omega) hco21 (by omega)⟩, H.sub (List.nil_sublist _)⟩
      ·
       repeat refine c_seq ?_
       refine c_no (by exact congrArg Value.bool (decide_eq_false hc23)) ?_; refine c_skip ?_; repeat refine c_seq ?_
       refine c_region ?_; refine l_op (o_val r_mv ?_); refine l_op (o_val (r_conv Try.underlying91 Try.underlying2 rfl (w_i64_64 (by omega))) ?_); refine l_op (o_val (r_fa rfl fo54_3) ?_); refine l_op (o_s1 (u := VI (x18.toNat : Int)) H (i := 1) rfl rfl rfl cs2 rfl (show Cut3 (([.string ⟨(t9).toArray⟩, VI (((s.l).getD 0 0).toNat : Int)] : List Value) ++ ((((((s.l).drop (1 + k10)).take (s.len - (1 + k10))).drop 0).take (32)).map V8 ++ (([VI 0] : List Value)))) (([.string ⟨(t9).toArray⟩, VI (((s.l).getD 0 0).toNat : Int)] : List Value) ++ ((((((s.l).drop (1 + k10)).take (s.len - (1 + k10))).drop 0).take (32)).map V8)) (([VI 0] : List Value)) (([] : List Value)) 34 1 from ⟨(show ([.string ⟨(t9).toArray⟩, VI (((s.l).getD 0 0).toNat : Int)] : List Value) ++ ((((((s.l).drop (1 + k10)).take (s.len - (1 + k10))).drop 0).take (32)).map V8 ++ (([VI 0] : List Value))) = (([.string ⟨(t9).toArray⟩, VI (((s.l).getD 0 0).toNat : Int)] : List Value) ++ ((((((s.l).drop (1 + k10)).take (s.len - (1 + k10))).drop 0).take (32)).map V8)) ++ ((([VI 0] : List Value)) ++ (([] : List Value))) from by simp only [List.cons_append, List.nil_append]), (by simp only [List.length_append, List.length_map, List.length_cons, List.length_nil, (show (((((s.l).drop (1 + k10)).take (s.len - (1 + k10))).drop 0).take (32)).length = 32 from (by simp only [List.length_take, List.length_drop]; omega))]), (by rfl)⟩) (fun w H => ?_))
       rw [show (([.string ⟨(t9).toArray⟩, VI (((s.l).getD 0 0).toNat : Int)] : List Value) ++ ((((((s.l).drop (1 + k10)).take (s.len - (1 + k10))).drop 0).take (32)).map V8)) ++ (([VI (x18.toNat : Int)] : List Value) ++ (([] : List Value))) = ([.string ⟨(t9).toArray⟩, VI (((s.l).getD 0 0).toNat : Int)] : List Value) ++ ((((((s.l).drop (1 + k10)).take (s.len - (1 + k10))).drop 0).take (32)).map V8 ++ (([VI (x18.toNat : Int)] : List Value))) from by simp only [List.cons_append, List.nil_append]] at H
       replace H : Hp _ w _ ([_, .blk b2 (([.string ⟨(t9).toArray⟩, VI (((s.l).getD 0 0).toNat : Int)] : List Value) ++ ((((((s.l).drop (1 + k10)).take (s.len - (1 + k10))).drop 0).take (32)).map V8 ++ (([VI (x18.toNat : Int)] : List Value)))) 54, _]) := H
       first | refine l_end ?_ | refine l_nil ?_
       repeat refine c_seq ?_
       refine wp_held (fun w => Hp w0 w [] [.blk b2 (([.string ⟨(t9).toArray⟩, VI (((s.l).getD 0 0).toNat : Int)] : List Value) ++ ((((((s.l).drop (1 + k10)).take (s.len - (1 + k10))).drop 0).take (32)).map V8 ++ (([VI (x18.toNat : Int)] : List Value)))) 54, .own a7 t9.length c8 ((t9).map V8) 5 1]) mixed ?_; replace H := H.drew
       have HS := H.sub (.cons _ (.cons_cons _ (.cons_cons _ (List.nil_sublist _))))
       refine t_take 0 rfl (by kernel_rfl) (by kernel_rfl) (by kernel_rfl) (fun _ _ _ h => h) (fun w HS => r_ldA (C := ([.string ⟨(t9).toArray⟩, VI (((s.l).getD 0 0).toNat : Int)] : List Value) ++ ((((((s.l).drop (1 + k10)).take (s.len - (1 + k10))).drop 0).take (32)).map V8 ++ (([VI (x18.toNat : Int)] : List Value)))) HS (i := 0) rfl rfl rt54 (by simp only [List.length_append, List.length_map, List.length_cons, List.length_nil, (show (((((s.l).drop (1 + k10)).take (s.len - (1 + k10))).drop 0).take (32)).length = 32 from (by simp only [List.length_take, List.length_drop]; omega))])) HS ?_; refine t_take 1 rfl (by kernel_rfl) (by kernel_rfl) (by kernel_rfl) (fun _ _ _ h => h) (fun w HS => r_mv) HS ?_; refine t_take 2 rfl (by kernel_rfl) (by kernel_rfl) (by kernel_rfl) (fun _ _ _ h => h) (fun w HS => r_mv) HS ?_; refine t_take 3 rfl (by kernel_rfl) (by kernel_rfl) (by kernel_rfl) (fun _ _ _ h => h) (fun w HS => r_slS (s := (Sl.cut (Sl.cut s (1 + k10) s.len s.cap) 32 (s.len - (1 + k10)) (s.cap - (1 + k10)))) k19 (s.len - (1 + k10) - 32) (s.cap - (1 + k10) - 32) (lv := some (VI (k19 : Int))) (hv := none) (mv := none) rfl el32 rfl rfl rfl (fun w => by exact sbl k19 (by omega) (by (try simp only [Sl.cut]); omega) w)) HS ?_; refine t_step 4 rfl (by kernel_rfl) (o_stW (C' := ([.string ⟨(t9).toArray⟩, VI (((s.l).getD 0 0).toNat : Int)] : List Value) ++ ((((((s.l).drop (1 + k10)).take (s.len - (1 + k10))).drop 0).take (32)).map V8 ++ (([VI (x18.toNat : Int)] : List Value)))) H (i := 0) rfl rfl rfl cs54 (by first | (simp [Value.oneCell', List.all_append]; done) | (simp only [List.all_append, List.all_cons, List.all_nil, List.all_map]; simp [Value.oneCell', Function.comp_def])) (by simp only [List.length_append, List.length_map, List.length_cons, List.length_nil, (show (List.replicate 32 (0 : UInt8)).length = 32 from (List.length_replicate ..))]) (by simp only [List.length_append, List.length_map, List.length_cons, List.length_nil, (show (((((s.l).drop (1 + k10)).take (s.len - (1 + k10))).drop 0).take (32)).length = 32 from (by simp only [List.length_take, List.length_drop]; omega))]) (fun w H => ?_)); replace H : Hp _ w _ ([.blk b1 (([.string ⟨(t9).toArray⟩, VI (((s.l).getD 0 0).toNat : Int)] : List Value) ++ ((((((s.l).drop (1 + k10)).take (s.len - (1 + k10))).drop 0).take (32)).map V8 ++ (([VI (x18.toNat : Int)] : List Value)))) 54, _, _]) := H
       refine ⟨H.sub (.cons _ (.cons_cons _ (.cons_cons _ (List.nil_sublist _)))), ?_⟩
       replace HS := H.sub (.cons _ (.cons_cons _ (.cons_cons _ (List.nil_sublist _))))
       refine t_take 5 rfl (by kernel_rfl) (by kernel_rfl) (by kernel_rfl) (fun _ _ _ h => h) (fun w HS => r_as) HS ?_; refine t_take 6 rfl (by kernel_rfl) (by kernel_rfl) (by kernel_rfl) (fun _ _ _ h => h) (fun w HS => r_as) HS ?_; refine t_done (by kernel_rfl) ?_
       clear HS
       refine c_ret ?_; try dsimp only [Exit.then, Exit.inBlock]
       refine e_retN (vs := [.agg (([.string ⟨(t9).toArray⟩, VI (((s.l).getD 0 0).toNat : Int)] : List Value) ++ ((((((s.l).drop (1 + k10)).take (s.len - (1 + k10))).drop 0).take (32)).map V8 ++ (([VI (x18.toNat : Int)] : List Value)))).toArray, (Sl.cut (Sl.cut (Sl.cut s (1 + k10) s.len s.cap) 32 (s.len - (1 + k10)) (s.cap - (1 + k10))) k19 (s.len - (1 + k10) - 32) (s.cap - (1 + k10) - 32)).v, .bool true]) _ Try.results62 rfl (H.resR (C := ([.string ⟨(t9).toArray⟩, VI (((s.l).getD 0 0).toNat : Int)] : List Value) ++ ((((((s.l).drop (1 + k10)).take (s.len - (1 + k10))).drop 0).take (32)).map V8 ++ (([VI (x18.toNat : Int)] : List Value)))) (i := 0) rfl rfl rt54 (by simp only [List.length_append, List.length_map, List.length_cons, List.length_nil, (show (((((s.l).drop (1 + k10)).take (s.len - (1 + k10))).drop 0).take (32)).length = 32 from (by simp only [List.length_take, List.length_drop]; omega))]) (resT (v := (Sl.cut (Sl.cut (Sl.cut s (1 + k10) s.len s.cap) 32 (s.len - (1 + k10)) (s.cap - (1 + k10))) k19 (s.len - (1 + k10) - 32) (s.cap - (1 + k10) - 32)).v) rfl (resT (v := .bool true) rfl (resZ)))) ?_
       refine ⟨_, rfl, ?_⟩
       rw [cut_l1 hs] at hto12
       have he0 : e11 = 0 := by omega
       subst he0
       rw [cut_l2 hs] at hco21
       have he2 : e20 = 0 := by omega
       subst he2
       have hy := item_yes (o := (⟨((((s.l).drop (1 + k10)).take (s.len - (1 + k10))).drop 0).take (32), (show (((((s.l).drop (1 + k10)).take (s.len - (1 + k10))).drop 0).take (32)).length = 32 from (by simp only [List.length_take, List.length_drop]; omega))⟩ : Id32)) hto12 (by omega) (by simp only [List.drop_zero, List.take_take]; congr 1; omega) hco21 (by omega)
       rw [← cut_l3 hs (1 + k10) k19] at hy
       exact ⟨_, (Sl.cut (Sl.cut (Sl.cut s (1 + k10) s.len s.cap) 32 (s.len - (1 + k10)) (s.cap - (1 + k10))) k19 (s.len - (1 + k10) - 32) (s.cap - (1 + k10) - 32)), true, rfl, fun w hs => ((hs.cut (by omega) (by omega) (by omega) (by omega)).cut (by omega) (by (try simp only [Sl.cut]); omega) (by omega) (by (try simp only [Sl.cut]); omega)).cut (by omega) (by (try simp only [Sl.cut]); omega) (by omega) (by (try simp only [Sl.cut]); omega), by simp only [Sl.cut]; omega, .inl ⟨rfl, hy⟩, H.sub (List.nil_sublist _)⟩
end Go.Proofs.Ytomjbabllcmodaa
namespace Go.Proofs.Ytomjbabllcmodaa
open Go
set_option maxRecDepth 100000
open Go.Proofs in
set_option maxHeartbeats 1000000 in
theorem strIndexByte (s : ByteArray) (c : Int) (w : World) :
    Calls Try.prog 92 #[.string s, .int .u8 c] w fun e w' => e = .returned (.int .i64 (Lib.indexByte s.data.toList c.toNat.toUInt8)) ∧ w' = w := by
  go_enter Try.func92, Try.ntmps92
  go_wp2
  rw [run_callFunc_extern Try.func96 (by kernel_rfl) (by kernel_rfl) (by kernel_rfl) (e := Extern.BytealgIndexByte.indexByte) (by kernel_rfl), Lib.run_indexByteString]
  simp only [Result.andThen]
  rw [Oper.upon_value]
  go_wp2
  go_ret
  exact ⟨rfl, rfl⟩
open Go.Proofs in
set_option maxHeartbeats 2000000 in
theorem strIndexOne (s : ByteArray) (c : UInt8) (w : World) :
    Calls Try.prog 91 #[.string s, .string ⟨#[c]⟩] w fun e w' => e = .returned (.int .i64 (Lib.indexByte s.data.toList c)) ∧ w' = w := by
  go_enter Try.func91, Try.ntmps91
  go_wp2_with (go_at_call 92; refine (strIndexByte _ _ _).mono ?_; rintro e w' ⟨rfl, rfl⟩)
  · have h : ([c] == s.toList) = true := by assumption
    go_ret
    refine ⟨?_, rfl⟩
    have e : s.data.toList = [c] := by rw [← Lib.toList_data]; exact (beq_iff_eq.1 h).symm
    rw [e]
    simp [Lib.indexByte]
  · go_ret
    exact ⟨rfl, rfl⟩
open Go.Proofs in
set_option maxHeartbeats 1000000 in
theorem strIndexOne2 (s : ByteArray) (c : UInt8) (w : World) :
    Calls Try.prog 90 #[.string s, .string ⟨#[c]⟩] w fun e w' => e = .returned (.int .i64 (Lib.indexByte s.data.toList c)) ∧ w' = w := by
  go_enter Try.func90, Try.ntmps90
  go_wp2_with (go_at_call 91; refine (strIndexOne _ _ _).mono ?_; rintro e w' ⟨rfl, rfl⟩)
  go_ret
  exact ⟨rfl, rfl⟩
open Go.Proofs in
set_option maxHeartbeats 1000000 in
theorem strContainsOne (s : ByteArray) (c : UInt8) (w : World) :
    Calls Try.prog 88 #[.string s, .string ⟨#[c]⟩] w fun e w' => e = .returned (.bool (decide (0 ≤ Lib.indexByte s.data.toList c))) ∧ w' = w := by
  go_enter Try.func88, Try.ntmps88
  go_wp2_with (go_at_call 90; refine (strIndexOne2 _ _ _).mono ?_; rintro e w' ⟨rfl, rfl⟩)
  go_ret
  exact ⟨rfl, rfl⟩
open Go.Proofs in
theorem indexByte_mem (l : List UInt8) (c : UInt8) : decide (0 ≤ Lib.indexByte l c) = decide (c ∈ l) := by
  rw [Bool.eq_iff_iff]
  simp only [decide_eq_true_eq]
  induction l with
  | nil => simp [Lib.indexByte]
  | cons b l ih =>
    simp only [Lib.indexByte, List.mem_cons]
    by_cases h : b = c
    · subst h; simp
    · have h1 : (b == c) = false := by simpa using h
      have h2 := Lib.indexByte_ge l c
      simp only [h1, Bool.false_eq_true, if_false, beq_iff_eq]
      constructor
      · intro hle
        by_cases h3 : Lib.indexByte l c = -1
        · rw [if_pos h3] at hle; omega
        · right; exact ih.1 (by omega)
      · rintro (h3 | h3)
        · exact absurd h3.symm h
        · have := ih.2 h3
          rw [if_neg (by omega)]; omega
/-- is a byte in a text? -/
theorem contains_ret (w : World) (s : List UInt8) (c : UInt8) : Ret Try.prog 88 [.string ⟨s.toArray⟩, .string ⟨([c] : List UInt8).toArray⟩] w fun v w' => v = .bool (decide (c ∈ s)) ∧ w' = w := by
  refine Calls.mono (strContainsOne ⟨s.toArray⟩ c w) fun e w' ⟨he, hw⟩ => ⟨_, he, ?_, hw⟩
  rw [← indexByte_mem]
open Go.Proofs in
set_option maxHeartbeats 1000000 in
theorem strHasPrefix (s p : ByteArray) (w : World) :
    Calls Try.prog 60 #[.string s, .string p] w fun e w' => e = .returned (.bool (Lib.hasPrefix s.data.toList p.data.toList)) ∧ w' = w := by
  rw [← Lib.hasPrefix_of_take, ← Lib.size_eq, ← Lib.size_eq]
  go_enter Try.func60, Try.ntmps60
  go_wp2
  · rename_i h
    go_ret
    refine ⟨?_, rfl⟩
    show Ending.returned (Value.bool ((s.extract 0 p.size).toList == p.toList)) = _
    rw [Lib.extract_toList, Lib.toList_data]
    simp [h]
  · rename_i h
    go_ret
    refine ⟨?_, rfl⟩
    show Ending.returned (Value.bool false) = _
    simp [h]
/-- does a text begin so? -/
theorem hasPrefix_ret (w : World) (s p : List UInt8) : Ret Try.prog 60 [.string ⟨s.toArray⟩, .string ⟨p.toArray⟩] w fun v w' => v = .bool (p.isPrefixOf s) ∧ w' = w :=
  Calls.mono (strHasPrefix ⟨s.toArray⟩ ⟨p.toArray⟩ w) fun e _w' ⟨he, hw⟩ => ⟨_, he, rfl, hw⟩
theorem bl_iff : ∀ (a b : List UInt8), Op.bytesLess a b = true ↔ a < b
  | a, [] => by cases a <;> simp [Op.bytesLess]
  | [], b :: bs => by simp [Op.bytesLess]
  | x :: xs, y :: ys => by
    rw [Op.bytesLess, List.cons_lt_cons_iff, ← bl_iff xs ys]
    simp
theorem bl_lt (a b : List UInt8) : Op.bytesLess a b = decide (a < b) := by rw [Bool.eq_iff_iff, bl_iff, decide_eq_true_eq]
theorem bl_le (a b : List UInt8) : (Op.bytesLess a b || a == b) = decide (a ≤ b) := by
  rw [bl_lt, Bool.eq_iff_iff]
  simp only [Bool.or_eq_true, decide_eq_true_eq, beq_iff_eq]
  constructor
  · rintro (h | h)
    · exact List.le_of_lt h
    · rw [h]; exact List.le_refl _
  · intro h
    by_cases hb : a = b
    · exact .inr hb
    · exact .inl (Decidable.byContradiction fun hn => hb (List.le_antisymm h (List.not_lt.1 hn)))
section
variable {P : Program} {n : Nat} {σ : Nat → Value} {w : World} {ty : TypeId} {pos : String} {aft : Array Edge} {g : Option (Nat × Bool)} {d : Nat} {t yt : TypeId} {x y : Operand}
theorem r_strle {a b : List UInt8} (hx : ev n σ x = .string ⟨a.toArray⟩) (hy : ev n σ y = .string ⟨b.toArray⟩) :
    (execOp (ev n σ) ⟨some d, .binOp .leq t x y yt, ty, pos, aft, g⟩).run P w = .ok (.value (.bool (decide (a ≤ b)))) w :=
  r_str hx hy (fun w => by simp only [Op.stringOp, ba_toList, bl_le]; rfl) (by decide)
theorem r_strgt {a b : List UInt8} (hx : ev n σ x = .string ⟨a.toArray⟩) (hy : ev n σ y = .string ⟨b.toArray⟩) :
    (execOp (ev n σ) ⟨some d, .binOp .gtr t x y yt, ty, pos, aft, g⟩).run P w = .ok (.value (.bool (decide (b < a)))) w :=
  r_str hx hy (fun w => by
    simp only [Op.stringOp, ba_toList, bl_le]
    have e : (!decide (a ≤ b)) = decide (b < a) := by
      rw [Bool.eq_iff_iff]; simp only [Bool.not_eq_true', decide_eq_false_iff_not, decide_eq_true_eq, List.not_le]
    rw [e]; rfl) (by decide)
theorem r_strge {a b : List UInt8} (hx : ev n σ x = .string ⟨a.toArray⟩) (hy : ev n σ y = .string ⟨b.toArray⟩) :
    (execOp (ev n σ) ⟨some d, .binOp .geq t x y yt, ty, pos, aft, g⟩).run P w = .ok (.value (.bool (decide (b ≤ a)))) w :=
  r_str hx hy (fun w => by
    simp only [Op.stringOp, ba_toList, bl_lt]
    have e : (!decide (a < b)) = decide (b ≤ a) := by
      rw [Bool.eq_iff_iff]; simp only [Bool.not_eq_true', decide_eq_false_iff_not, decide_eq_true_eq, List.not_lt]
    rw [e]; rfl) (by decide)
end
end Go.Proofs.Ytomjbabllcmodaa
namespace Go.Proofs.Ytomjbabllcmodaa
open Go
set_option maxRecDepth 100000
instance (s : List UInt8) : Decidable (NameOk s) := by unfold NameOk; exact inferInstance
def ItB (x : It) : Prop := NameOk x.name ∧ (x.kind = 1 ∨ x.kind = 2 ∧ x.size = 0) ∧ 0 ≤ x.size
def mayAt (l : List It) (j : Nat) : Prop := ∀ x, l[j]? = some x → ItB x ∧ ∀ y, 0 < j → l[j - 1]? = some y → y.name < x.name
/-- items that may be a folder, but for the bound of their sizes. -/
def MayB (l : List It) : Prop := l.length ≤ 64 ∧ ∀ j, j < l.length → mayAt l j
theorem mayB_of {l : List It} (h : MayF l) : MayB l := ⟨h.len, fun j hj x hx => ⟨⟨(h.ok x (List.mem_of_getElem? hx)).1, (h.ok x (List.mem_of_getElem? hx)).2.1, (h.ok x (List.mem_of_getElem? hx)).2.2.1⟩, fun y hp hy => h.up (j - 1) y x hy (by rw [Nat.sub_add_cancel hp]; exact hx)⟩⟩
theorem mayF_of {l : List It} (h : MayB l) (hs : ∀ x ∈ l, x.size ≤ 9223372036854775807) : MayF l := by
  refine ⟨h.1, fun x hx => ?_, fun i x y hx hy => ?_⟩
  · obtain ⟨j, hj, e⟩ := List.mem_iff_getElem.1 hx
    obtain ⟨h1, _⟩ := h.2 j hj x (by rw [List.getElem?_eq_getElem hj, e])
    exact ⟨h1.1, h1.2.1, h1.2.2, hs x hx⟩
  · have hj := (List.getElem?_eq_some_iff.1 hy).1
    exact (h.2 (i + 1) hj y hy).2 x (by omega) (by simpa using hx)
theorem mayName_ret (w0 : World) (s : List UInt8) :
    Ret Try.prog 81 [.string ⟨(s).toArray⟩] w0 fun v w' => v = .bool (decide (NameOk s)) ∧ Hp w0 w' [] [] := by
  refine ret_mk Try.func81 rfl Try.ntmps81 (by simp) ?_
  have H := Hp.refl w0 []
  repeat refine c_seq ?_
  refine c_region ?_; refine l_op (o_val r_as ?_); first | refine l_end ?_ | refine l_nil ?_
  repeat refine c_seq ?_
  refine c_region ?_; refine l_op (o_val r_mv ?_); refine l_op (o_val (r_lenstr (s := ⟨(s).toArray⟩) Try.underlying9 rfl) ?_); refine l_op (o_val (r_bin (a := ((s).length : Int)) (b := 1) rfl rfl (fun _ => b_geq)) ?_); refine l_op (o_val r_mv ?_)
  by_cases hc1 : 1 ≤ ((s).length : Int)
  ·
   refine l_yes rfl rfl (by exact congrArg Value.bool (decide_eq_true hc1)) (o_val r_mv ?_); refine l_yes rfl rfl (by exact congrArg Value.bool (decide_eq_true hc1)) (o_val (r_lenstr (s := ⟨(s).toArray⟩) Try.underlying9 rfl) ?_); refine l_yes rfl rfl (by exact congrArg Value.bool (decide_eq_true hc1)) (o_val (r_bin (a := ((s).length : Int)) (b := 64) rfl rfl (fun _ => b_leq)) ?_); refine l_op (o_val (r_pick (b := true) (congrArg Value.bool (decide_eq_true hc1))) ?_); refine l_op (o_val r_mv ?_)
   by_cases hc2 : ((s).length : Int) ≤ 64
   ·
    refine l_yes rfl rfl (by exact congrArg Value.bool (decide_eq_true hc2)) (o_val r_mv ?_); refine l_yes rfl rfl (by exact congrArg Value.bool (decide_eq_true hc2)) (o_val (r_strne (a := s) (b := ([46] : List UInt8)) rfl rfl) ?_); refine l_op (o_val (r_pick (b := true) (congrArg Value.bool (decide_eq_true hc2))) ?_); refine l_op (o_val r_mv ?_)
    by_cases hc3 : s = ([46] : List UInt8)
    ·
     refine l_no rfl rfl (by exact congrArg Value.bool (congrArg not (decide_eq_true hc3))) rfl ?_; refine l_no rfl rfl (by exact congrArg Value.bool (congrArg not (decide_eq_true hc3))) rfl ?_; refine l_op (o_val (r_pick (b := false) (congrArg Value.bool (congrArg not (decide_eq_true hc3)))) ?_); refine l_op (o_val r_mv ?_); refine l_no rfl rfl rfl rfl ?_; refine l_no rfl rfl rfl rfl ?_; refine l_no rfl rfl rfl rfl ?_; refine l_op (o_val (r_pick rfl) ?_); refine l_op (o_val r_mv ?_); refine l_no rfl rfl rfl rfl ?_; refine l_no rfl rfl rfl rfl ?_; refine l_no rfl rfl rfl rfl ?_; refine l_op (o_val (r_pick rfl) ?_); refine l_op (o_val r_as ?_); first | refine l_end ?_ | refine l_nil ?_
     refine c_ret ?_; try dsimp only [Exit.then, Exit.inBlock]
     refine e_ret1 (v := .bool false) Try.results81 rfl ?_
     refine ⟨_, rfl, ?_⟩
     exact ⟨congrArg Value.bool (decide_eq_false (fun h : NameOk s => by obtain ⟨h1, h2, h3, h4, h5⟩ := h; first | omega | contradiction | exact (h1 _ (by assumption)).1 rfl | exact (h1 _ (by assumption)).2 rfl)).symm, H⟩
    ·
     refine l_yes rfl rfl (by exact congrArg Value.bool (congrArg not (decide_eq_false hc3))) (o_val r_mv ?_); refine l_yes rfl rfl (by exact congrArg Value.bool (congrArg not (decide_eq_false hc3))) (o_val (r_strne (a := s) (b := ([46,46] : List UInt8)) rfl rfl) ?_); refine l_op (o_val (r_pick (b := true) (congrArg Value.bool (congrArg not (decide_eq_false hc3)))) ?_); refine l_op (o_val r_mv ?_)
     by_cases hc4 : s = ([46,46] : List UInt8)
     ·
      refine l_no rfl rfl (by exact congrArg Value.bool (congrArg not (decide_eq_true hc4))) rfl ?_; refine l_no rfl rfl (by exact congrArg Value.bool (congrArg not (decide_eq_true hc4))) rfl ?_; refine l_no rfl rfl (by exact congrArg Value.bool (congrArg not (decide_eq_true hc4))) rfl ?_; refine l_op (o_val (r_pick (b := false) (congrArg Value.bool (congrArg not (decide_eq_true hc4)))) ?_); refine l_op (o_val r_mv ?_); refine l_no rfl rfl rfl rfl ?_; refine l_no rfl rfl rfl rfl ?_; refine l_no rfl rfl rfl rfl ?_; refine l_op (o_val (r_pick rfl) ?_); refine l_op (o_val r_as ?_); first | refine l_end ?_ | refine l_nil ?_
      refine c_ret ?_; try dsimp only [Exit.then, Exit.inBlock]
      refine e_ret1 (v := .bool false) Try.results81 rfl ?_
      refine ⟨_, rfl, ?_⟩
      exact ⟨congrArg Value.bool (decide_eq_false (fun h : NameOk s => by obtain ⟨h1, h2, h3, h4, h5⟩ := h; first | omega | contradiction | exact (h1 _ (by assumption)).1 rfl | exact (h1 _ (by assumption)).2 rfl)).symm, H⟩
     ·
      refine l_yes rfl rfl (by exact congrArg Value.bool (congrArg not (decide_eq_false hc4))) (o_val r_mv ?_); refine l_yes rfl rfl (by exact congrArg Value.bool (congrArg not (decide_eq_false hc4))) (o_callR Try.func88 rfl rfl rfl (contains_ret _ (s) 47) ?_); rintro _ w' ⟨rfl, hw5⟩
      rw [hw5]; clear hw5 w'
      refine l_yes rfl rfl (by exact congrArg Value.bool (congrArg not (decide_eq_false hc4))) (o_val (r_not rfl) ?_); refine l_op (o_val (r_pick (b := true) (congrArg Value.bool (congrArg not (decide_eq_false hc4)))) ?_); refine l_op (o_val r_mv ?_)
      by_cases hc6 : 47 ∈ s
      ·
       refine l_no rfl rfl (by exact congrArg Value.bool (congrArg not (decide_eq_true hc6))) rfl ?_; refine l_no rfl rfl (by exact congrArg Value.bool (congrArg not (decide_eq_true hc6))) rfl ?_; refine l_no rfl rfl (by exact congrArg Value.bool (congrArg not (decide_eq_true hc6))) rfl ?_; refine l_op (o_val (r_pick (b := false) (congrArg Value.bool (congrArg not (decide_eq_true hc6)))) ?_); refine l_op (o_val r_as ?_); first | refine l_end ?_ | refine l_nil ?_
       refine c_ret ?_; try dsimp only [Exit.then, Exit.inBlock]
       refine e_ret1 (v := .bool false) Try.results81 rfl ?_
       refine ⟨_, rfl, ?_⟩
       exact ⟨congrArg Value.bool (decide_eq_false (fun h : NameOk s => by obtain ⟨h1, h2, h3, h4, h5⟩ := h; first | omega | contradiction | exact (h1 _ (by assumption)).1 rfl | exact (h1 _ (by assumption)).2 rfl)).symm, H⟩
      ·
       refine l_yes rfl rfl (by exact congrArg Value.bool (congrArg not (decide_eq_false hc6))) (o_val r_mv ?_); refine l_yes rfl rfl (by exact congrArg Value.bool (congrArg not (decide_eq_false hc6))) (o_callR Try.func88 rfl rfl rfl (contains_ret _ (s) 0) ?_); rintro _ w' ⟨rfl, hw7⟩
       rw [hw7]; clear hw7 w'
       refine l_yes rfl rfl (by exact congrArg Value.bool (congrArg not (decide_eq_false hc6))) (o_val (r_not rfl) ?_); refine l_op (o_val (r_pick (b := true) (congrArg Value.bool (congrArg not (decide_eq_false hc6)))) ?_); refine l_op (o_val r_as ?_); first | refine l_end ?_ | refine l_nil ?_
       refine c_ret ?_; try dsimp only [Exit.then, Exit.inBlock]
       refine e_ret1 (v := .bool (!(decide (0 ∈ s)))) Try.results81 rfl ?_
       refine ⟨_, rfl, ?_⟩
       have e : (!decide (0 ∈ s)) = decide (NameOk s) := by
         rw [Bool.eq_iff_iff]; simp only [Bool.not_eq_true', decide_eq_false_iff_not, decide_eq_true_eq]
         exact ⟨fun h0 => ⟨fun c hc => ⟨by rintro rfl; contradiction, by rintro rfl; contradiction⟩, by omega, by omega, by assumption, by assumption⟩, fun h h0 => (h.1 0 h0).2 rfl⟩
       exact ⟨congrArg Value.bool e, H⟩
   ·
    refine l_no rfl rfl (by exact congrArg Value.bool (decide_eq_false hc2)) rfl ?_; refine l_no rfl rfl (by exact congrArg Value.bool (decide_eq_false hc2)) rfl ?_; refine l_op (o_val (r_pick (b := false) (congrArg Value.bool (decide_eq_false hc2))) ?_); refine l_op (o_val r_mv ?_); refine l_no rfl rfl rfl rfl ?_; refine l_no rfl rfl rfl rfl ?_; refine l_op (o_val (r_pick rfl) ?_); refine l_op (o_val r_mv ?_); refine l_no rfl rfl rfl rfl ?_; refine l_no rfl rfl rfl rfl ?_; refine l_no rfl rfl rfl rfl ?_; refine l_op (o_val (r_pick rfl) ?_); refine l_op (o_val r_mv ?_); refine l_no rfl rfl rfl rfl ?_; refine l_no rfl rfl rfl rfl ?_; refine l_no rfl rfl rfl rfl ?_; refine l_op (o_val (r_pick rfl) ?_); refine l_op (o_val r_as ?_); first | refine l_end ?_ | refine l_nil ?_
    refine c_ret ?_; try dsimp only [Exit.then, Exit.inBlock]
    refine e_ret1 (v := .bool false) Try.results81 rfl ?_
    refine ⟨_, rfl, ?_⟩
    exact ⟨congrArg Value.bool (decide_eq_false (fun h : NameOk s => by obtain ⟨h1, h2, h3, h4, h5⟩ := h; first | omega | contradiction | exact (h1 _ (by assumption)).1 rfl | exact (h1 _ (by assumption)).2 rfl)).symm, H⟩
  ·
   refine l_no rfl rfl (by exact congrArg Value.bool (decide_eq_false hc1)) rfl ?_; refine l_no rfl rfl (by exact congrArg Value.bool (decide_eq_false hc1)) rfl ?_; refine l_no rfl rfl (by exact congrArg Value.bool (decide_eq_false hc1)) rfl ?_; refine l_op (o_val (r_pick (b := false) (congrArg Value.bool (decide_eq_false hc1))) ?_); refine l_op (o_val r_mv ?_); refine l_no rfl rfl rfl rfl ?_; refine l_no rfl rfl rfl rfl ?_; refine l_op (o_val (r_pick rfl) ?_); refine l_op (o_val r_mv ?_); refine l_no rfl rfl rfl rfl ?_; refine l_no rfl rfl rfl rfl ?_; refine l_op (o_val (r_pick rfl) ?_); refine l_op (o_val r_mv ?_); refine l_no rfl rfl rfl rfl ?_; refine l_no rfl rfl rfl rfl ?_; refine l_no rfl rfl rfl rfl ?_; refine l_op (o_val (r_pick rfl) ?_); refine l_op (o_val r_mv ?_); refine l_no rfl rfl rfl rfl ?_; refine l_no rfl rfl rfl rfl ?_; refine l_no rfl rfl rfl rfl ?_; refine l_op (o_val (r_pick rfl) ?_); refine l_op (o_val r_as ?_); first | refine l_end ?_ | refine l_nil ?_
   refine c_ret ?_; try dsimp only [Exit.then, Exit.inBlock]
   refine e_ret1 (v := .bool false) Try.results81 rfl ?_
   refine ⟨_, rfl, ?_⟩
   exact ⟨congrArg Value.bool (decide_eq_false (fun h : NameOk s => by obtain ⟨h1, h2, h3, h4, h5⟩ := h; first | omega | contradiction | exact (h1 _ (by assumption)).1 rfl | exact (h1 _ (by assumption)).2 rfl)).symm, H⟩
theorem fmay_ret (w0 : World) (g : Gl It) (hg : g.ok itE 35 w0) :
    Ret Try.prog 63 [g.v] w0 fun v w' => ∃ b, v = .bool b ∧ (b = true ↔ MayB g.l) ∧ Hp w0 w' [] [] := by
  refine ret_mk Try.func63 rfl Try.ntmps63 (by simp) ?_
  have H := Hp.refl w0 []
  have hgl := hg.ln
  repeat refine c_seq ?_
  refine c_region ?_; refine l_op (o_val r_as ?_); first | refine l_end ?_ | refine l_nil ?_
  repeat refine c_seq ?_
  refine c_region ?_; refine l_op (o_val r_mv ?_); refine l_op (o_val (r_lens el52 rfl) ?_); refine l_op (o_val (r_bin (a := (g.len : Int)) (b := 64) rfl rfl (fun _ => b_gtr)) ?_); first | refine l_end ?_ | refine l_nil ?_
  by_cases hc1 : 64 < (g.len : Int)
  ·
   repeat refine c_seq ?_
   refine c_yes (by exact congrArg Value.bool (decide_eq_true hc1)) ?_; repeat refine c_seq ?_
   refine c_region ?_; refine l_op (o_val r_as ?_); first | refine l_end ?_ | refine l_nil ?_
   refine c_ret ?_; try dsimp only [Exit.then, Exit.inBlock]
   refine e_ret1 (v := .bool false) Try.results63 rfl ?_
   refine ⟨_, rfl, ?_⟩
   exact ⟨false, rfl, ⟨fun h => (by cases h), fun h => absurd h.1 (by omega)⟩, H⟩
  ·
   repeat refine c_seq ?_
   refine c_no (by exact congrArg Value.bool (decide_eq_false hc1)) ?_; refine c_skip ?_; repeat refine c_seq ?_
   refine c_region ?_; refine l_op (o_val r_mv ?_); refine l_op (o_val (r_lens el52 rfl) ?_); refine l_op (o_val r_mv ?_); first | refine l_end ?_ | refine l_nil ?_
   repeat refine c_seq ?_
   refine c_block ?_; repeat refine c_seq ?_
   refine c_loop (fun (i : Nat) => [(0, g.v), (8, g.v), (9, VI (g.len : Int)), (10, VI (i : Int))])
     (fun (i : Nat) w => (i ≤ g.len ∧ ∀ j, j < i → mayAt g.l j) ∧ Hp w0 w [] ([]))
     (fun (i : Nat) => g.len - i) 0 ⟨rfl, rfl, rfl, rfl, trivial⟩ ⟨⟨by omega, fun j hj => absurd hj (by omega)⟩, H⟩ ?_
   clear H
   rintro i τ w ⟨⟨hil, hinv⟩, H⟩
   repeat refine c_seq ?_
   refine c_region ?_; refine l_op (o_val (r_bin (a := (i : Int)) (b := (g.len : Int)) rfl rfl (fun _ => b_lss)) ?_); first | refine l_end ?_ | refine l_nil ?_
   by_cases hc2 : (i : Int) < (g.len : Int)
   ·
    repeat refine c_seq ?_
    refine c_yes (by exact congrArg Value.bool (decide_eq_true hc2)) ?_; refine c_skip ?_; repeat refine c_seq ?_
    refine c_block ?_; repeat refine c_seq ?_
    refine c_region ?_; refine l_op (o_val r_mv ?_); have ah5 := ((hg.up H)).addr (by decide) (by first | omega | (dsimp only; omega))
    obtain ⟨ab3, ao4, ah5⟩ := ah5
    refine l_op (o_val (r_isN i rfl rfl el52 ah5 (by omega) (by (try simp only [Sl.cut]); omega)) ?_); have he7 : ∃ c, g.l[i]? = some c := ⟨_, List.getElem?_eq_getElem (by have := ((hg.up H)).ln; (try dsimp only at this ⊢); omega)⟩
    obtain ⟨e6, he7⟩ := he7
    have hez8 := ((hg.up H)).sz e6 (List.mem_of_getElem? he7)
    refine l_op (o_val (r_ldRow (s := g) (k := i) (hg.up H) ah5 rfl rt54 (by decide) he7) ?_); refine l_op (o_alloc H zc54 (fun b9 w H hb9 => ?_)); replace H : Hp _ w _ ([.blk b9 (([.string ⟨(([] : List UInt8)).toArray⟩, VI 0] : List Value) ++ ((List.replicate 32 (0 : UInt8)).map V8 ++ (([VI 0] : List Value)))) 54]) := H
    refine l_op (o_val r_as ?_); refine l_op (o_stW (C' := ([.string ⟨(e6.name).toArray⟩, VI e6.kind] : List Value) ++ ((e6.of.1).map V8 ++ (([VI e6.size] : List Value)))) H (i := 0) rfl rfl rfl cs54 (by first | (simp [Value.oneCell', List.all_append, List.all_map]; done) | (simp only [List.all_append, List.all_cons, List.all_nil, List.all_map]; simp [Value.oneCell', Function.comp_def])) (by simp only [List.length_append, List.length_map, List.length_cons, List.length_nil, (show (List.replicate 32 (0 : UInt8)).length = 32 from (List.length_replicate ..))]) (by simp only [List.length_append, List.length_map, List.length_cons, List.length_nil, (show (e6.of.1).length = 32 from e6.of.2)]) (fun w H => ?_)); replace H : Hp _ w _ ([.blk b9 (([.string ⟨(e6.name).toArray⟩, VI e6.kind] : List Value) ++ ((e6.of.1).map V8 ++ (([VI e6.size] : List Value)))) 54]) := H
    first | refine l_end ?_ | refine l_nil ?_
    repeat refine c_seq ?_
    refine c_block ?_; repeat refine c_seq ?_
    refine c_region ?_; refine l_op (o_val (r_fa rfl fo54_0) ?_); refine l_op (o_val (r_l1 (v := .string ⟨(e6.name).toArray⟩) H (i := 0) rfl rfl ct9 (show Cut3 (([.string ⟨(e6.name).toArray⟩, VI e6.kind] : List Value) ++ ((e6.of.1).map V8 ++ (([VI e6.size] : List Value)))) (([] : List Value)) (([.string ⟨(e6.name).toArray⟩] : List Value)) (([VI e6.kind] : List Value) ++ ((e6.of.1).map V8 ++ (([VI e6.size] : List Value)))) 0 1 from ⟨(show ([.string ⟨(e6.name).toArray⟩, VI e6.kind] : List Value) ++ ((e6.of.1).map V8 ++ (([VI e6.size] : List Value))) = ([] : List Value) ++ ((([.string ⟨(e6.name).toArray⟩] : List Value)) ++ (([VI e6.kind] : List Value) ++ ((e6.of.1).map V8 ++ (([VI e6.size] : List Value))))) from by simp only [List.cons_append, List.nil_append]), (by rfl), (by rfl)⟩)) ?_); refine l_op (o_callR Try.func81 rfl rfl rfl (mayName_ret _ (e6.name)) ?_); rintro _ w ⟨rfl, Hc⟩
    replace H : Hp _ w _ ([_]) := H.call Hc
    clear Hc
    refine l_op (o_val (r_not rfl) ?_); refine l_op (o_val r_as ?_); first | refine l_end ?_ | refine l_nil ?_
    by_cases hc10 : NameOk (e6.name)
    ·
     repeat refine c_seq ?_
     refine c_no (by exact congrArg Value.bool (congrArg not (decide_eq_true hc10))) ?_; repeat refine c_seq ?_
     refine c_still mixed (by kernel_rfl) ?_; replace H := H.drew
     refine s_op (r_mv) ?_; refine s_op (r_bin (a := (i : Int)) (b := 0) rfl rfl (fun _ => b_gtr)) ?_; refine s_op (r_mv) ?_
     by_cases hc11 : 0 < (i : Int)
     ·
      refine s_yes rfl rfl (by exact congrArg Value.bool (decide_eq_true hc11)) (r_fa rfl fo54_0) ?_; refine s_yes rfl rfl (by exact congrArg Value.bool (decide_eq_true hc11)) (r_l1 (v := .string ⟨(e6.name).toArray⟩) H (i := 0) rfl rfl ct9 (show Cut3 (([.string ⟨(e6.name).toArray⟩, VI e6.kind] : List Value) ++ ((e6.of.1).map V8 ++ (([VI e6.size] : List Value)))) (([] : List Value)) (([.string ⟨(e6.name).toArray⟩] : List Value)) (([VI e6.kind] : List Value) ++ ((e6.of.1).map V8 ++ (([VI e6.size] : List Value)))) 0 1 from ⟨(show ([.string ⟨(e6.name).toArray⟩, VI e6.kind] : List Value) ++ ((e6.of.1).map V8 ++ (([VI e6.size] : List Value))) = ([] : List Value) ++ ((([.string ⟨(e6.name).toArray⟩] : List Value)) ++ (([VI e6.kind] : List Value) ++ ((e6.of.1).map V8 ++ (([VI e6.size] : List Value))))) from by simp only [List.cons_append, List.nil_append]), (by rfl), (by rfl)⟩)) ?_; refine s_yes rfl rfl (by exact congrArg Value.bool (decide_eq_true hc11)) (r_mv) ?_; refine s_yes rfl rfl (by exact congrArg Value.bool (decide_eq_true hc11)) (r_mv) ?_; refine s_yes rfl rfl (by exact congrArg Value.bool (decide_eq_true hc11)) (r_bin (a := (i : Int)) (b := 1) rfl rfl (fun _ => b_sub (by omega) (by omega))) ?_; refine s_yes rfl rfl (by exact congrArg Value.bool (decide_eq_true hc11)) (r_isN (((i : Int) - 1).toNat) rfl rfl el52 ah5 (by omega) (by (try simp only [Sl.cut]); omega)) ?_; refine s_yes rfl rfl (by exact congrArg Value.bool (decide_eq_true hc11)) (r_fa rfl fo54_0) ?_; have he13 : ∃ c, g.l[((i : Int) - 1).toNat]? = some c := ⟨_, List.getElem?_eq_getElem (by have := ((hg.up H)).ln; (try dsimp only at this ⊢); omega)⟩
      obtain ⟨e12, he13⟩ := he13
      have hez14 := ((hg.up H)).sz e12 (List.mem_of_getElem? he13)
      refine s_yes rfl rfl (by exact congrArg Value.bool (decide_eq_true hc11)) (r_g1 (v := .string ⟨(e12.name).toArray⟩) (s := g) (j := ((i : Int) - 1).toNat) (hg.up H) ah5 rfl ct9 he13 (by decide) (show Cut3 (itE e12) (([] : List Value)) (([.string ⟨(e12.name).toArray⟩] : List Value)) (([VI e12.kind] : List Value) ++ ((e12.of.1).map V8 ++ (([VI e12.size] : List Value)))) 0 1 from ⟨(show ([.string ⟨(e12.name).toArray⟩, VI e12.kind] : List Value) ++ ((e12.of.1).map V8 ++ (([VI e12.size] : List Value))) = ([] : List Value) ++ ((([.string ⟨(e12.name).toArray⟩] : List Value)) ++ (([VI e12.kind] : List Value) ++ ((e12.of.1).map V8 ++ (([VI e12.size] : List Value))))) from by simp only [List.cons_append, List.nil_append]), (by rfl), (by rfl)⟩)) ?_; refine s_yes rfl rfl (by exact congrArg Value.bool (decide_eq_true hc11)) (r_strle (a := e6.name) (b := e12.name) rfl rfl) ?_; refine s_op (r_pick (b := true) (congrArg Value.bool (decide_eq_true hc11))) ?_; refine s_op (r_as) ?_; refine s_nil ?_
      by_cases hc15 : e6.name ≤ e12.name
      ·
       repeat refine c_seq ?_
       refine c_yes (by exact congrArg Value.bool (decide_eq_true hc15)) ?_; refine c_skip ?_; repeat refine c_seq ?_
       refine c_yes (by exact congrArg Value.bool (decide_eq_true hc15)) ?_; repeat refine c_seq ?_
       refine c_region ?_; refine l_op (o_val r_as ?_); first | refine l_end ?_ | refine l_nil ?_
       refine c_ret ?_; try dsimp only [Exit.then, Exit.inBlock]
       refine e_ret1 (v := .bool false) Try.results63 rfl ?_
       refine ⟨_, rfl, ?_⟩
       refine ⟨false, rfl, ⟨fun h => (by cases h), fun h => ?_⟩, H.sub (List.nil_sublist _)⟩
       have hm := h.2 i (by omega) e6 he7
       obtain ⟨⟨h1, h2, h3⟩, h4⟩ := hm
       first
         | omega
         | contradiction
         | exact absurd (h4 e12 (by omega) (by have e := he13; rwa [show ((i : Int) - 1).toNat = i - 1 by omega] at e)) (List.not_lt.2 (by assumption))
      ·
       repeat refine c_seq ?_
       refine c_no (by exact congrArg Value.bool (decide_eq_false hc15)) ?_; repeat refine c_seq ?_
       refine c_region ?_; refine l_op (o_val (r_fa rfl fo54_3) ?_); refine l_op (o_val (r_l1 (v := VI e6.size) H (i := 0) rfl rfl ct2 (show Cut3 (([.string ⟨(e6.name).toArray⟩, VI e6.kind] : List Value) ++ ((e6.of.1).map V8 ++ (([VI e6.size] : List Value)))) (([.string ⟨(e6.name).toArray⟩, VI e6.kind] : List Value) ++ ((e6.of.1).map V8)) (([VI e6.size] : List Value)) (([] : List Value)) 34 1 from ⟨(show ([.string ⟨(e6.name).toArray⟩, VI e6.kind] : List Value) ++ ((e6.of.1).map V8 ++ (([VI e6.size] : List Value))) = (([.string ⟨(e6.name).toArray⟩, VI e6.kind] : List Value) ++ ((e6.of.1).map V8)) ++ ((([VI e6.size] : List Value)) ++ (([] : List Value))) from by simp only [List.cons_append, List.nil_append]), (by simp only [List.length_append, List.length_map, List.length_cons, List.length_nil, (show (e6.of.1).length = 32 from e6.of.2)]), (by rfl)⟩)) ?_); refine l_op (o_val (r_bin (a := e6.size) (b := 0) rfl rfl (fun _ => b_lss)) ?_); refine l_op (o_val r_as ?_); first | refine l_end ?_ | refine l_nil ?_
       by_cases hc16 : e6.size < 0
       ·
        repeat refine c_seq ?_
        refine c_yes (by exact congrArg Value.bool (decide_eq_true hc16)) ?_; repeat refine c_seq ?_
        refine c_region ?_; refine l_op (o_val r_as ?_); first | refine l_end ?_ | refine l_nil ?_
        refine c_ret ?_; try dsimp only [Exit.then, Exit.inBlock]
        refine e_ret1 (v := .bool false) Try.results63 rfl ?_
        refine ⟨_, rfl, ?_⟩
        refine ⟨false, rfl, ⟨fun h => (by cases h), fun h => ?_⟩, H.sub (List.nil_sublist _)⟩
        have hm := h.2 i (by omega) e6 he7
        obtain ⟨⟨h1, h2, h3⟩, h4⟩ := hm
        first
          | omega
          | contradiction
          | exact absurd (h4 e12 (by omega) (by have e := he13; rwa [show ((i : Int) - 1).toNat = i - 1 by omega] at e)) (List.not_lt.2 (by assumption))
       ·
        repeat refine c_seq ?_
        refine c_no (by exact congrArg Value.bool (decide_eq_false hc16)) ?_; repeat refine c_seq ?_
        refine c_region ?_; refine l_op (o_val (r_fa rfl fo54_1) ?_); refine l_op (o_val (r_l1 (v := VI e6.kind) H (i := 0) rfl rfl ct3 (show Cut3 (([.string ⟨(e6.name).toArray⟩, VI e6.kind] : List Value) ++ ((e6.of.1).map V8 ++ (([VI e6.size] : List Value)))) (([.string ⟨(e6.name).toArray⟩] : List Value)) (([VI e6.kind] : List Value)) ((e6.of.1).map V8 ++ (([VI e6.size] : List Value))) 1 1 from ⟨(show ([.string ⟨(e6.name).toArray⟩, VI e6.kind] : List Value) ++ ((e6.of.1).map V8 ++ (([VI e6.size] : List Value))) = ([.string ⟨(e6.name).toArray⟩] : List Value) ++ ((([VI e6.kind] : List Value)) ++ ((e6.of.1).map V8 ++ (([VI e6.size] : List Value)))) from by simp only [List.cons_append, List.nil_append]), (by rfl), (by rfl)⟩)) ?_); refine l_op (o_val (r_bin (a := e6.kind) (b := 1) rfl rfl (fun _ => b_neq)) ?_); refine l_op (o_val r_mv ?_)
        by_cases hc17 : e6.kind ≠ 1
        ·
         refine l_yes rfl rfl (by exact congrArg Value.bool (decide_eq_true hc17)) (o_val (r_fa rfl fo54_1) ?_); refine l_yes rfl rfl (by exact congrArg Value.bool (decide_eq_true hc17)) (o_val (r_l1 (v := VI e6.kind) H (i := 0) rfl rfl ct3 (show Cut3 (([.string ⟨(e6.name).toArray⟩, VI e6.kind] : List Value) ++ ((e6.of.1).map V8 ++ (([VI e6.size] : List Value)))) (([.string ⟨(e6.name).toArray⟩] : List Value)) (([VI e6.kind] : List Value)) ((e6.of.1).map V8 ++ (([VI e6.size] : List Value))) 1 1 from ⟨(show ([.string ⟨(e6.name).toArray⟩, VI e6.kind] : List Value) ++ ((e6.of.1).map V8 ++ (([VI e6.size] : List Value))) = ([.string ⟨(e6.name).toArray⟩] : List Value) ++ ((([VI e6.kind] : List Value)) ++ ((e6.of.1).map V8 ++ (([VI e6.size] : List Value)))) from by simp only [List.cons_append, List.nil_append]), (by rfl), (by rfl)⟩)) ?_); refine l_yes rfl rfl (by exact congrArg Value.bool (decide_eq_true hc17)) (o_val (r_bin (a := e6.kind) (b := 2) rfl rfl (fun _ => b_neq)) ?_); refine l_yes rfl rfl (by exact congrArg Value.bool (decide_eq_true hc17)) (o_val r_mv ?_)
         by_cases hc18 : e6.kind ≠ 2
         ·
          refine l_no rfl rfl (by exact congrArg Value.bool (decide_eq_true hc18)) rfl ?_; refine l_no rfl rfl (by exact congrArg Value.bool (decide_eq_true hc18)) rfl ?_; refine l_no rfl rfl (by exact congrArg Value.bool (decide_eq_true hc18)) rfl ?_; refine l_yes rfl rfl (by exact congrArg Value.bool (decide_eq_true hc17)) (o_val (r_pick (b := true) (congrArg Value.bool (decide_eq_true hc18))) ?_); refine l_op (o_val (r_pick (b := true) (congrArg Value.bool (decide_eq_true hc17))) ?_); refine l_op (o_val r_as ?_); first | refine l_end ?_ | refine l_nil ?_
          repeat refine c_seq ?_
          refine c_yes rfl ?_; repeat refine c_seq ?_
          refine c_region ?_; refine l_op (o_val r_as ?_); first | refine l_end ?_ | refine l_nil ?_
          refine c_ret ?_; try dsimp only [Exit.then, Exit.inBlock]
          refine e_ret1 (v := .bool false) Try.results63 rfl ?_
          refine ⟨_, rfl, ?_⟩
          refine ⟨false, rfl, ⟨fun h => (by cases h), fun h => ?_⟩, H.sub (List.nil_sublist _)⟩
          have hm := h.2 i (by omega) e6 he7
          obtain ⟨⟨h1, h2, h3⟩, h4⟩ := hm
          first
            | omega
            | contradiction
            | exact absurd (h4 e12 (by omega) (by have e := he13; rwa [show ((i : Int) - 1).toNat = i - 1 by omega] at e)) (List.not_lt.2 (by assumption))
         ·
          refine l_yes rfl rfl (by exact congrArg Value.bool (decide_eq_false hc18)) (o_val (r_fa rfl fo54_3) ?_); refine l_yes rfl rfl (by exact congrArg Value.bool (decide_eq_false hc18)) (o_val (r_l1 (v := VI e6.size) H (i := 0) rfl rfl ct2 (show Cut3 (([.string ⟨(e6.name).toArray⟩, VI e6.kind] : List Value) ++ ((e6.of.1).map V8 ++ (([VI e6.size] : List Value)))) (([.string ⟨(e6.name).toArray⟩, VI e6.kind] : List Value) ++ ((e6.of.1).map V8)) (([VI e6.size] : List Value)) (([] : List Value)) 34 1 from ⟨(show ([.string ⟨(e6.name).toArray⟩, VI e6.kind] : List Value) ++ ((e6.of.1).map V8 ++ (([VI e6.size] : List Value))) = (([.string ⟨(e6.name).toArray⟩, VI e6.kind] : List Value) ++ ((e6.of.1).map V8)) ++ ((([VI e6.size] : List Value)) ++ (([] : List Value))) from by simp only [List.cons_append, List.nil_append]), (by simp only [List.length_append, List.length_map, List.length_cons, List.length_nil, (show (e6.of.1).length = 32 from e6.of.2)]), (by rfl)⟩)) ?_); refine l_yes rfl rfl (by exact congrArg Value.bool (decide_eq_false hc18)) (o_val (r_bin (a := e6.size) (b := 0) rfl rfl (fun _ => b_neq)) ?_); refine l_yes rfl rfl (by exact congrArg Value.bool (decide_eq_true hc17)) (o_val (r_pick (b := false) (congrArg Value.bool (decide_eq_false hc18))) ?_); refine l_op (o_val (r_pick (b := true) (congrArg Value.bool (decide_eq_true hc17))) ?_); refine l_op (o_val r_as ?_); first | refine l_end ?_ | refine l_nil ?_
          by_cases hc19 : e6.size ≠ 0
          ·
           repeat refine c_seq ?_
           refine c_yes (by exact congrArg Value.bool (decide_eq_true hc19)) ?_; repeat refine c_seq ?_
           refine c_region ?_; refine l_op (o_val r_as ?_); first | refine l_end ?_ | refine l_nil ?_
           refine c_ret ?_; try dsimp only [Exit.then, Exit.inBlock]
           refine e_ret1 (v := .bool false) Try.results63 rfl ?_
           refine ⟨_, rfl, ?_⟩
           refine ⟨false, rfl, ⟨fun h => (by cases h), fun h => ?_⟩, H.sub (List.nil_sublist _)⟩
           have hm := h.2 i (by omega) e6 he7
           obtain ⟨⟨h1, h2, h3⟩, h4⟩ := hm
           first
             | omega
             | contradiction
             | exact absurd (h4 e12 (by omega) (by have e := he13; rwa [show ((i : Int) - 1).toNat = i - 1 by omega] at e)) (List.not_lt.2 (by assumption))
          ·
           repeat refine c_seq ?_
           refine c_no (by exact congrArg Value.bool (decide_eq_false hc19)) ?_; refine c_skip ?_; repeat refine c_seq ?_
           refine c_region ?_; refine l_op (o_val (r_bin (a := (i : Int)) (b := 1) rfl rfl (fun _ => b_add (by omega) (by omega))) ?_); refine l_op (o_val r_mv ?_); first | refine l_end ?_ | refine l_nil ?_
           have hat : mayAt g.l i := fun x hx => by
             have ex : x = e6 := Option.some.inj (hx.symm.trans he7)
             subst ex
             refine ⟨⟨by assumption, by omega, by omega⟩, fun y hp hy => ?_⟩
             have ey : y = e12 := Option.some.inj (hy.symm.trans (by have e := he13; rwa [show ((i : Int) - 1).toNat = i - 1 by omega] at e))
             subst ey
             exact List.not_le.1 (by assumption)
           refine round_end (i + 1) ?_ ?_ ?_
           · exact ⟨rfl, rfl, rfl, show VI ((i : Int) + 1) = VI ((i + 1 : Nat) : Int) from congrArg VI (by omega), trivial⟩
           · refine ⟨?_, ?_⟩
             · try dsimp only
               exact ⟨by omega, fun j hj => (Nat.lt_or_ge j i).elim (hinv j) (fun h => (show i = j by omega) ▸ hat)⟩
             · exact H.sub (List.nil_sublist _)
           · show g.len - (i + 1 : Nat) < g.len - i; omega
        ·
         refine l_no rfl rfl (by exact congrArg Value.bool (decide_eq_false hc17)) rfl ?_; refine l_no rfl rfl (by exact congrArg Value.bool (decide_eq_false hc17)) rfl ?_; refine l_no rfl rfl (by exact congrArg Value.bool (decide_eq_false hc17)) rfl ?_; refine l_no rfl rfl (by exact congrArg Value.bool (decide_eq_false hc17)) rfl ?_; refine l_non rfl rfl rfl ?_; refine l_non rfl rfl rfl ?_; refine l_non rfl rfl rfl ?_; refine l_no rfl rfl (by exact congrArg Value.bool (decide_eq_false hc17)) rfl ?_; refine l_op (o_val (r_pick (b := false) (congrArg Value.bool (decide_eq_false hc17))) ?_); refine l_op (o_val r_as ?_); first | refine l_end ?_ | refine l_nil ?_
         repeat refine c_seq ?_
         refine c_no rfl ?_; refine c_skip ?_; repeat refine c_seq ?_
         refine c_region ?_; refine l_op (o_val (r_bin (a := (i : Int)) (b := 1) rfl rfl (fun _ => b_add (by omega) (by omega))) ?_); refine l_op (o_val r_mv ?_); first | refine l_end ?_ | refine l_nil ?_
         have hat : mayAt g.l i := fun x hx => by
           have ex : x = e6 := Option.some.inj (hx.symm.trans he7)
           subst ex
           refine ⟨⟨by assumption, by omega, by omega⟩, fun y hp hy => ?_⟩
           have ey : y = e12 := Option.some.inj (hy.symm.trans (by have e := he13; rwa [show ((i : Int) - 1).toNat = i - 1 by omega] at e))
           subst ey
           exact List.not_le.1 (by assumption)
         refine round_end (i + 1) ?_ ?_ ?_
         · exact ⟨rfl, rfl, rfl, show VI ((i : Int) + 1) = VI ((i + 1 : Nat) : Int) from congrArg VI (by omega), trivial⟩
         · refine ⟨?_, ?_⟩
           · try dsimp only
             exact ⟨by omega, fun j hj => (Nat.lt_or_ge j i).elim (hinv j) (fun h => (show i = j by omega) ▸ hat)⟩
           · exact H.sub (List.nil_sublist _)
         · show g.len - (i + 1 : Nat) < g.len - i; omega
     ·
      refine s_no rfl rfl (by exact congrArg Value.bool (decide_eq_false hc11)) rfl ?_; refine s_no rfl rfl (by exact congrArg Value.bool (decide_eq_false hc11)) rfl ?_; refine s_no rfl rfl (by exact congrArg Value.bool (decide_eq_false hc11)) rfl ?_; refine s_no rfl rfl (by exact congrArg Value.bool (decide_eq_false hc11)) rfl ?_; refine s_no rfl rfl (by exact congrArg Value.bool (decide_eq_false hc11)) rfl ?_; refine s_no rfl rfl (by exact congrArg Value.bool (decide_eq_false hc11)) rfl ?_; refine s_no rfl rfl (by exact congrArg Value.bool (decide_eq_false hc11)) rfl ?_; refine s_no rfl rfl (by exact congrArg Value.bool (decide_eq_false hc11)) rfl ?_; refine s_no rfl rfl (by exact congrArg Value.bool (decide_eq_false hc11)) rfl ?_; refine s_op (r_pick (b := false) (congrArg Value.bool (decide_eq_false hc11))) ?_; refine s_op (r_as) ?_; refine s_nil ?_; repeat refine c_seq ?_
      refine c_no rfl ?_; repeat refine c_seq ?_
      refine c_region ?_; refine l_op (o_val (r_fa rfl fo54_3) ?_); refine l_op (o_val (r_l1 (v := VI e6.size) H (i := 0) rfl rfl ct2 (show Cut3 (([.string ⟨(e6.name).toArray⟩, VI e6.kind] : List Value) ++ ((e6.of.1).map V8 ++ (([VI e6.size] : List Value)))) (([.string ⟨(e6.name).toArray⟩, VI e6.kind] : List Value) ++ ((e6.of.1).map V8)) (([VI e6.size] : List Value)) (([] : List Value)) 34 1 from ⟨(show ([.string ⟨(e6.name).toArray⟩, VI e6.kind] : List Value) ++ ((e6.of.1).map V8 ++ (([VI e6.size] : List Value))) = (([.string ⟨(e6.name).toArray⟩, VI e6.kind] : List Value) ++ ((e6.of.1).map V8)) ++ ((([VI e6.size] : List Value)) ++ (([] : List Value))) from by simp only [List.cons_append, List.nil_append]), (by simp only [List.length_append, List.length_map, List.length_cons, List.length_nil, (show (e6.of.1).length = 32 from e6.of.2)]), (by rfl)⟩)) ?_); refine l_op (o_val (r_bin (a := e6.size) (b := 0) rfl rfl (fun _ => b_lss)) ?_); refine l_op (o_val r_as ?_); first | refine l_end ?_ | refine l_nil ?_
      by_cases hc20 : e6.size < 0
      ·
       repeat refine c_seq ?_
       refine c_yes (by exact congrArg Value.bool (decide_eq_true hc20)) ?_; repeat refine c_seq ?_
       refine c_region ?_; refine l_op (o_val r_as ?_); first | refine l_end ?_ | refine l_nil ?_
       refine c_ret ?_; try dsimp only [Exit.then, Exit.inBlock]
       refine e_ret1 (v := .bool false) Try.results63 rfl ?_
       refine ⟨_, rfl, ?_⟩
       refine ⟨false, rfl, ⟨fun h => (by cases h), fun h => ?_⟩, H.sub (List.nil_sublist _)⟩
       have hm := h.2 i (by omega) e6 he7
       obtain ⟨⟨h1, h2, h3⟩, h4⟩ := hm
       first
         | omega
         | contradiction
         | skip
      ·
       repeat refine c_seq ?_
       refine c_no (by exact congrArg Value.bool (decide_eq_false hc20)) ?_; repeat refine c_seq ?_
       refine c_region ?_; refine l_op (o_val (r_fa rfl fo54_1) ?_); refine l_op (o_val (r_l1 (v := VI e6.kind) H (i := 0) rfl rfl ct3 (show Cut3 (([.string ⟨(e6.name).toArray⟩, VI e6.kind] : List Value) ++ ((e6.of.1).map V8 ++ (([VI e6.size] : List Value)))) (([.string ⟨(e6.name).toArray⟩] : List Value)) (([VI e6.kind] : List Value)) ((e6.of.1).map V8 ++ (([VI e6.size] : List Value))) 1 1 from ⟨(show ([.string ⟨(e6.name).toArray⟩, VI e6.kind] : List Value) ++ ((e6.of.1).map V8 ++ (([VI e6.size] : List Value))) = ([.string ⟨(e6.name).toArray⟩] : List Value) ++ ((([VI e6.kind] : List Value)) ++ ((e6.of.1).map V8 ++ (([VI e6.size] : List Value)))) from by simp only [List.cons_append, List.nil_append]), (by rfl), (by rfl)⟩)) ?_); refine l_op (o_val (r_bin (a := e6.kind) (b := 1) rfl rfl (fun _ => b_neq)) ?_); refine l_op (o_val r_mv ?_)
       by_cases hc21 : e6.kind ≠ 1
       ·
        refine l_yes rfl rfl (by exact congrArg Value.bool (decide_eq_true hc21)) (o_val (r_fa rfl fo54_1) ?_); refine l_yes rfl rfl (by exact congrArg Value.bool (decide_eq_true hc21)) (o_val (r_l1 (v := VI e6.kind) H (i := 0) rfl rfl ct3 (show Cut3 (([.string ⟨(e6.name).toArray⟩, VI e6.kind] : List Value) ++ ((e6.of.1).map V8 ++ (([VI e6.size] : List Value)))) (([.string ⟨(e6.name).toArray⟩] : List Value)) (([VI e6.kind] : List Value)) ((e6.of.1).map V8 ++ (([VI e6.size] : List Value))) 1 1 from ⟨(show ([.string ⟨(e6.name).toArray⟩, VI e6.kind] : List Value) ++ ((e6.of.1).map V8 ++ (([VI e6.size] : List Value))) = ([.string ⟨(e6.name).toArray⟩] : List Value) ++ ((([VI e6.kind] : List Value)) ++ ((e6.of.1).map V8 ++ (([VI e6.size] : List Value)))) from by simp only [List.cons_append, List.nil_append]), (by rfl), (by rfl)⟩)) ?_); refine l_yes rfl rfl (by exact congrArg Value.bool (decide_eq_true hc21)) (o_val (r_bin (a := e6.kind) (b := 2) rfl rfl (fun _ => b_neq)) ?_); refine l_yes rfl rfl (by exact congrArg Value.bool (decide_eq_true hc21)) (o_val r_mv ?_)
        by_cases hc22 : e6.kind ≠ 2
        ·
         refine l_no rfl rfl (by exact congrArg Value.bool (decide_eq_true hc22)) rfl ?_; refine l_no rfl rfl (by exact congrArg Value.bool (decide_eq_true hc22)) rfl ?_; refine l_no rfl rfl (by exact congrArg Value.bool (decide_eq_true hc22)) rfl ?_; refine l_yes rfl rfl (by exact congrArg Value.bool (decide_eq_true hc21)) (o_val (r_pick (b := true) (congrArg Value.bool (decide_eq_true hc22))) ?_); refine l_op (o_val (r_pick (b := true) (congrArg Value.bool (decide_eq_true hc21))) ?_); refine l_op (o_val r_as ?_); first | refine l_end ?_ | refine l_nil ?_
         repeat refine c_seq ?_
         refine c_yes rfl ?_; repeat refine c_seq ?_
         refine c_region ?_; refine l_op (o_val r_as ?_); first | refine l_end ?_ | refine l_nil ?_
         refine c_ret ?_; try dsimp only [Exit.then, Exit.inBlock]
         refine e_ret1 (v := .bool false) Try.results63 rfl ?_
         refine ⟨_, rfl, ?_⟩
         refine ⟨false, rfl, ⟨fun h => (by cases h), fun h => ?_⟩, H.sub (List.nil_sublist _)⟩
         have hm := h.2 i (by omega) e6 he7
         obtain ⟨⟨h1, h2, h3⟩, h4⟩ := hm
         first
           | omega
           | contradiction
           | skip
        ·
         refine l_yes rfl rfl (by exact congrArg Value.bool (decide_eq_false hc22)) (o_val (r_fa rfl fo54_3) ?_); refine l_yes rfl rfl (by exact congrArg Value.bool (decide_eq_false hc22)) (o_val (r_l1 (v := VI e6.size) H (i := 0) rfl rfl ct2 (show Cut3 (([.string ⟨(e6.name).toArray⟩, VI e6.kind] : List Value) ++ ((e6.of.1).map V8 ++ (([VI e6.size] : List Value)))) (([.string ⟨(e6.name).toArray⟩, VI e6.kind] : List Value) ++ ((e6.of.1).map V8)) (([VI e6.size] : List Value)) (([] : List Value)) 34 1 from ⟨(show ([.string ⟨(e6.name).toArray⟩, VI e6.kind] : List Value) ++ ((e6.of.1).map V8 ++ (([VI e6.size] : List Value))) = (([.string ⟨(e6.name).toArray⟩, VI e6.kind] : List Value) ++ ((e6.of.1).map V8)) ++ ((([VI e6.size] : List Value)) ++ (([] : List Value))) from by simp only [List.cons_append, List.nil_append]), (by simp only [List.length_append, List.length_map, List.length_cons, List.length_nil, (show (e6.of.1).length = 32 from e6.of.2)]), (by rfl)⟩)) ?_); refine l_yes rfl rfl (by exact congrArg Value.bool (decide_eq_false hc22)) (o_val (r_bin (a := e6.size) (b := 0) rfl rfl (fun _ => b_neq)) ?_); refine l_yes rfl rfl (by exact congrArg Value.bool (decide_eq_true hc21)) (o_val (r_pick (b := false) (congrArg Value.bool (decide_eq_false hc22))) ?_); refine l_op (o_val (r_pick (b := true) (congrArg Value.bool (decide_eq_true hc21))) ?_); refine l_op (o_val r_as ?_); first | refine l_end ?_ | refine l_nil ?_
         by_cases hc23 : e6.size ≠ 0
         ·
          repeat refine c_seq ?_
          refine c_yes (by exact congrArg Value.bool (decide_eq_true hc23)) ?_; repeat refine c_seq ?_
          refine c_region ?_; refine l_op (o_val r_as ?_); first | refine l_end ?_ | refine l_nil ?_
          refine c_ret ?_; try dsimp only [Exit.then, Exit.inBlock]
          refine e_ret1 (v := .bool false) Try.results63 rfl ?_
          refine ⟨_, rfl, ?_⟩
          refine ⟨false, rfl, ⟨fun h => (by cases h), fun h => ?_⟩, H.sub (List.nil_sublist _)⟩
          have hm := h.2 i (by omega) e6 he7
          obtain ⟨⟨h1, h2, h3⟩, h4⟩ := hm
          first
            | omega
            | contradiction
            | skip
         ·
          repeat refine c_seq ?_
          refine c_no (by exact congrArg Value.bool (decide_eq_false hc23)) ?_; refine c_skip ?_; repeat refine c_seq ?_
          refine c_region ?_; refine l_op (o_val (r_bin (a := (i : Int)) (b := 1) rfl rfl (fun _ => b_add (by omega) (by omega))) ?_); refine l_op (o_val r_mv ?_); first | refine l_end ?_ | refine l_nil ?_
          have hat : mayAt g.l i := fun x hx => by
            have ex : x = e6 := Option.some.inj (hx.symm.trans he7)
            subst ex
            refine ⟨⟨by assumption, by omega, by omega⟩, fun y hp hy => ?_⟩
            omega
          refine round_end (i + 1) ?_ ?_ ?_
          · exact ⟨rfl, rfl, rfl, show VI ((i : Int) + 1) = VI ((i + 1 : Nat) : Int) from congrArg VI (by omega), trivial⟩
          · refine ⟨?_, ?_⟩
            · try dsimp only
              exact ⟨by omega, fun j hj => (Nat.lt_or_ge j i).elim (hinv j) (fun h => (show i = j by omega) ▸ hat)⟩
            · exact H.sub (List.nil_sublist _)
          · show g.len - (i + 1 : Nat) < g.len - i; omega
       ·
        refine l_no rfl rfl (by exact congrArg Value.bool (decide_eq_false hc21)) rfl ?_; refine l_no rfl rfl (by exact congrArg Value.bool (decide_eq_false hc21)) rfl ?_; refine l_no rfl rfl (by exact congrArg Value.bool (decide_eq_false hc21)) rfl ?_; refine l_no rfl rfl (by exact congrArg Value.bool (decide_eq_false hc21)) rfl ?_; refine l_non rfl rfl rfl ?_; refine l_non rfl rfl rfl ?_; refine l_non rfl rfl rfl ?_; refine l_no rfl rfl (by exact congrArg Value.bool (decide_eq_false hc21)) rfl ?_; refine l_op (o_val (r_pick (b := false) (congrArg Value.bool (decide_eq_false hc21))) ?_); refine l_op (o_val r_as ?_); first | refine l_end ?_ | refine l_nil ?_
        repeat refine c_seq ?_
        refine c_no rfl ?_; refine c_skip ?_; repeat refine c_seq ?_
        refine c_region ?_; refine l_op (o_val (r_bin (a := (i : Int)) (b := 1) rfl rfl (fun _ => b_add (by omega) (by omega))) ?_); refine l_op (o_val r_mv ?_); first | refine l_end ?_ | refine l_nil ?_
        have hat : mayAt g.l i := fun x hx => by
          have ex : x = e6 := Option.some.inj (hx.symm.trans he7)
          subst ex
          refine ⟨⟨by assumption, by omega, by omega⟩, fun y hp hy => ?_⟩
          omega
        refine round_end (i + 1) ?_ ?_ ?_
        · exact ⟨rfl, rfl, rfl, show VI ((i : Int) + 1) = VI ((i + 1 : Nat) : Int) from congrArg VI (by omega), trivial⟩
        · refine ⟨?_, ?_⟩
          · try dsimp only
            exact ⟨by omega, fun j hj => (Nat.lt_or_ge j i).elim (hinv j) (fun h => (show i = j by omega) ▸ hat)⟩
          · exact H.sub (List.nil_sublist _)
        · show g.len - (i + 1 : Nat) < g.len - i; omega
    ·
     repeat refine c_seq ?_
     refine c_yes (by exact congrArg Value.bool (congrArg not (decide_eq_false hc10))) ?_; refine c_skip ?_; repeat refine c_seq ?_
     refine c_yes (by exact congrArg Value.bool (congrArg not (decide_eq_false hc10))) ?_; repeat refine c_seq ?_
     refine c_region ?_; refine l_op (o_val r_as ?_); first | refine l_end ?_ | refine l_nil ?_
     refine c_ret ?_; try dsimp only [Exit.then, Exit.inBlock]
     refine e_ret1 (v := .bool false) Try.results63 rfl ?_
     refine ⟨_, rfl, ?_⟩
     refine ⟨false, rfl, ⟨fun h => (by cases h), fun h => ?_⟩, H.sub (List.nil_sublist _)⟩
     have hm := h.2 i (by omega) e6 he7
     obtain ⟨⟨h1, h2, h3⟩, h4⟩ := hm
     first
       | omega
       | contradiction
       | skip
   ·
    repeat refine c_seq ?_
    refine c_no (by exact congrArg Value.bool (decide_eq_false hc2)) ?_; refine c_exit ?_; repeat refine c_seq ?_
    refine c_region ?_; refine l_op (o_val r_as ?_); first | refine l_end ?_ | refine l_nil ?_
    refine c_ret ?_; try dsimp only [Exit.then, Exit.inBlock]
    refine e_ret1 (v := .bool true) Try.results63 rfl ?_
    refine ⟨_, rfl, ?_⟩
    exact ⟨true, rfl, ⟨fun _ => ⟨by omega, fun j hj => hinv j (by omega)⟩, fun _ => rfl⟩, H⟩
end Go.Proofs.Ytomjbabllcmodaa
namespace Go.Proofs.Ytomjbabllcmodaa
open Go
set_option maxRecDepth 100000
def TakeRes (L : List UInt8) (l : List It) (e : Int) : Prop := (e = 0 ∧ takeF L = some l) ∨ (e = 4 ∧ l = [] ∧ takeF L = none)
theorem takeRes_len {L : List UInt8} {l : List It} {e : Int} (h : TakeRes L l e) : l.length ≤ 64 := by
  rcases h with ⟨_, h⟩ | ⟨_, h, _⟩
  · exact (takeF_of h).1.len
  · rw [h]; exact Nat.zero_le _
theorem take_no1 {L : List UInt8} (h : 4000 < L.length ∨ ([68, 49] : List UInt8).isPrefixOf L = false) : takeF L = none := by
  refine takeF_none fun m hm hl e => ?_
  rcases h with h | h
  · omega
  · rw [← e] at h; simp [fldB] at h
theorem take_pre {L : List UInt8} (h : ([68, 49] : List UInt8).isPrefixOf L = true) : L = [68, 49] ++ L.drop 2 := by
  obtain ⟨t, ht⟩ := List.isPrefixOf_iff_prefix.1 h
  rw [← ht]; rfl
theorem take_cnt {L b : List UInt8} {n : Nat} {m : List It} (hL : L = [68, 49] ++ (cnt n ++ b)) (e : fldB m = L) : m.length = n ∧ m.flatMap itB = b := by
  rw [hL, fldB] at e
  exact cnt_inj _ _ _ _ (List.append_cancel_left e)
theorem take_no2 {L : List UInt8} {x : UInt64} {k : Nat} {e : Int} (hp : L = [68, 49] ++ L.drop 2) (hc : CntRes (L.drop 2) x k e) (hbad : ¬ e = 0 ∨ 64 < x.toNat) : takeF L = none := by
  refine takeF_none fun m hm hl he => ?_
  rcases hc with ⟨h1, h2, h3, h4⟩ | ⟨_, h2⟩
  · rcases hbad with h5 | h5
    · exact h5 h1
    · have hL : L = [68, 49] ++ (cnt x.toNat ++ (L.drop 2).drop k) := by rw [← h3]; exact hp
      have := (take_cnt hL he).1
      have := hm.len
      omega
  · have e2 : L.drop 2 = cnt m.length ++ m.flatMap itB := by rw [← he]; rfl
    have := hm.len
    exact h2 m.length _ (by omega) e2
theorem take_no3 {L b : List UInt8} {l : List It} {n : Nat} (hL : L = [68, 49] ++ (cnt n ++ (l.flatMap itB ++ b))) (hl : ∀ x ∈ l, x.fits) (hlt : l.length < n) (h : NoIt b) : takeF L = none := by
  refine takeF_none fun m hm _ he => ?_
  obtain ⟨h1, h2⟩ := take_cnt hL he
  exact items_stuck (r := []) (fun x hx => (hl x hx).1) (fun x hx => (hm.ok x hx).fits) h (by omega) (by rw [List.append_nil]; exact h2.symm)
theorem take_no4 {L b : List UInt8} {l : List It} {n : Nat} (hL : L = [68, 49] ++ (cnt n ++ (l.flatMap itB ++ b))) (hl : ∀ x ∈ l, x.fits) (hlt : l.length = n) (h : 0 < b.length ∨ ¬ MayB l) : takeF L = none := by
  refine takeF_none fun m hm _ he => ?_
  obtain ⟨h1, h2⟩ := take_cnt hL he
  obtain ⟨e1, e2⟩ := items_inj (r := []) (s := b) (l := m) (m := l) (by omega) (fun x hx => (hm.ok x hx).fits.1) (fun x hx => (hl x hx).1) (by rw [List.append_nil]; exact h2)
  rcases h with h | h
  · rw [← e2] at h; exact Nat.lt_irrefl _ h
  · exact h (e1 ▸ mayB_of hm)
theorem take_yes {L b : List UInt8} {l : List It} {n : Nat} (hL : L = [68, 49] ++ (cnt n ++ (l.flatMap itB ++ b))) (hl : ∀ x ∈ l, x.fits) (hlt : l.length = n) (hb : ¬ 0 < b.length) (h : MayB l) (h4 : L.length ≤ 4000) : takeF L = some l := by
  have hb0 : b = [] := List.eq_nil_of_length_eq_zero (by omega)
  refine takeF_some (mayF_of h fun x hx => (hl x hx).2.2) ?_ h4
  rw [hL, hb0, List.append_nil, hlt.symm]; rfl
theorem cut_l0 {s : Sl} {w : World} (hs : s.ok w) (k : Nat) : (s.cut k s.len s.cap).l = s.l.drop k := by
  simp only [Sl.cut]; rw [List.take_of_length_le (by rw [List.length_drop, hs.ln]; omega)]
theorem cut_l00 {s : Sl} {w : World} (hs : s.ok w) (k j : Nat) : ((s.cut k s.len s.cap).cut j (s.len - k) (s.cap - k)).l = s.l.drop (k + j) := by
  have e := cut_l0 hs k
  rw [Sl.cut]; simp only [e]
  rw [List.drop_drop, List.take_of_length_le (by rw [List.length_drop, hs.ln]; omega)]
theorem ftake_ret (w0 : World) (s : Sl) (hs : s.ok w0) (hm : s.len ≤ 1048576) :
    Ret Try.prog 42 [s.v] w0 fun v w' => ∃ (a : Option Nat) (c : Nat) (l : List It) (e : Int), v = .tuple #[.slice (hd a) l.length c, VI e] ∧ TakeRes s.l l e ∧ Hp w0 w' [] [.own a l.length c (l.flatMap itE) 54 35] := by
  refine ret_mk Try.func42 rfl Try.ntmps42 (by simp) ?_
  have H := Hp.refl w0 []
  have hsl := hs.ln
  have hle := hs.le
  have hmx := hs.mx
  repeat refine c_seq ?_
  refine c_region ?_; refine l_op (o_val r_as ?_); refine l_op (o_val r_as ?_); first | refine l_end ?_ | refine l_nil ?_
  repeat refine c_seq ?_
  refine c_region ?_; refine l_op (o_val r_mv ?_); refine l_op (o_val (r_lens el32 rfl) ?_); refine l_op (o_val (r_bin (a := (s.len : Int)) (b := 4000) rfl rfl (fun _ => b_gtr)) ?_); refine l_op (o_val r_mv ?_)
  by_cases hc1 : 4000 < (s.len : Int)
  ·
   refine l_no rfl rfl (by exact congrArg Value.bool (decide_eq_true hc1)) rfl ?_; refine l_no rfl rfl (by exact congrArg Value.bool (decide_eq_true hc1)) rfl ?_; refine l_no rfl rfl (by exact congrArg Value.bool (decide_eq_true hc1)) rfl ?_; refine l_no rfl rfl (by exact congrArg Value.bool (decide_eq_true hc1)) rfl ?_; refine l_op (o_val (r_pick (b := true) (congrArg Value.bool (decide_eq_true hc1))) ?_); first | refine l_end ?_ | refine l_nil ?_
   repeat refine c_seq ?_
   refine c_yes rfl ?_; repeat refine c_seq ?_
   refine c_region ?_; refine l_op (o_val r_as ?_); refine l_op (o_val r_as ?_); first | refine l_end ?_ | refine l_nil ?_
   refine c_ret ?_; try dsimp only [Exit.then, Exit.inBlock]
   refine e_retN (vs := [.slice none 0 0, VI 4]) _ Try.results42 rfl (resT (v := .slice none 0 0) rfl (resT (v := VI 4) rfl (resZ))) ?_
   refine ⟨_, rfl, ?_⟩
   exact ⟨none, 0, [], 4, rfl, .inr ⟨rfl, rfl, take_no1 (by first | exact .inl (by omega) | exact .inr (by assumption))⟩, (H.sub (List.nil_sublist _)).nilEnd 54 35⟩
  ·
   refine l_yes rfl rfl (by exact congrArg Value.bool (decide_eq_false hc1)) (o_val r_mv ?_); refine l_yes rfl rfl (by exact congrArg Value.bool (decide_eq_false hc1)) (o_val (r_b2S (s := s) Try.underlying32 Try.underlying5 Try.underlying9 rfl (hs.up H (fun _ => apart_nil _))) ?_); refine l_yes rfl rfl (by exact congrArg Value.bool (decide_eq_false hc1)) (o_callR Try.func60 rfl rfl rfl (hasPrefix_ret _ (s.l) (([68,49] : List UInt8))) ?_); rintro _ w' ⟨rfl, hw2⟩
   rw [hw2]; clear hw2 w'
   refine l_yes rfl rfl (by exact congrArg Value.bool (decide_eq_false hc1)) (o_val (r_not rfl) ?_); refine l_op (o_val (r_pick (b := false) (congrArg Value.bool (decide_eq_false hc1))) ?_); first | refine l_end ?_ | refine l_nil ?_
   have hc30 := Bool.eq_false_or_eq_true ((([68,49] : List UInt8)).isPrefixOf (s.l))
   rcases hc30 with hc3 | hc3
   ·
    repeat refine c_seq ?_
    refine c_no (by exact congrArg Value.bool (congrArg not hc3)) ?_; refine c_skip ?_; have hpre := take_pre (by assumption : ([68, 49] : List UInt8).isPrefixOf s.l = true)
    have hpre2 := congrArg List.length hpre
    rw [List.length_append, List.length_drop] at hpre2
    have hpre3 : ([68, 49] : List UInt8).length = 2 := rfl
    repeat refine c_seq ?_
    refine c_region ?_; refine l_op (o_val r_mv ?_); refine l_op (o_val (r_slS (s := s) 2 s.len s.cap (lv := some (VI 2)) (hv := none) (mv := none) rfl el32 rfl rfl rfl (fun w => by exact sbl 2 (by omega) (by (try simp only [Sl.cut]); omega) w)) ?_); refine l_op (o_val r_as ?_); first | refine l_end ?_ | refine l_nil ?_
    repeat refine c_seq ?_
    refine c_region ?_; refine l_op (o_val r_mv ?_); refine l_op (o_callR Try.func61 rfl rfl rfl (takeCount_ret _ (Sl.cut s 2 s.len s.cap) ((hs.up H (fun _ => apart_nil _)).cut (l := 2) (h := s.len) (m := s.cap) (by omega) (by (try simp only [Sl.cut]); omega) (by omega) (by (try simp only [Sl.cut]); omega)) (by (try simp only [Sl.cut]); omega)) ?_); rintro _ w ⟨x4, k5, e6, rfl, hco7, Hc⟩
    replace H : Hp _ w _ ([]) := H.call Hc
    clear Hc
    have hco7n : e6 = 0 → k5 ≤ (((s.l).drop 2).take (s.len - 2)).length := fun h => hco7.elim (fun h1 => h1.2.1) (fun h1 => absurd h h1.1)
    try simp only [List.length_take, List.length_drop] at hco7n
    refine l_op (o_val r_mv ?_); refine l_op (o_val (r_ext rfl rfl) ?_); refine l_op (o_val (r_ext rfl rfl) ?_); refine l_op (o_val (r_ext rfl rfl) ?_); refine l_op (o_val r_as ?_); refine l_op (o_val r_as ?_); refine l_op (o_val r_as ?_); first | refine l_end ?_ | refine l_nil ?_
    rw [cut_l0 hs 2] at hco7
    repeat refine c_seq ?_
    refine c_region ?_; refine l_op (o_val r_mv ?_); refine l_op (o_val (r_bin (a := e6) (b := 0) rfl rfl (fun _ => b_neq)) ?_); refine l_op (o_val r_mv ?_)
    by_cases hc8 : e6 ≠ 0
    ·
     refine l_no rfl rfl (by exact congrArg Value.bool (decide_eq_true hc8)) rfl ?_; refine l_no rfl rfl (by exact congrArg Value.bool (decide_eq_true hc8)) rfl ?_; refine l_op (o_val (r_pick (b := true) (congrArg Value.bool (decide_eq_true hc8))) ?_); first | refine l_end ?_ | refine l_nil ?_
     repeat refine c_seq ?_
     refine c_yes rfl ?_; repeat refine c_seq ?_
     refine c_region ?_; refine l_op (o_val r_as ?_); refine l_op (o_val r_as ?_); first | refine l_end ?_ | refine l_nil ?_
     refine c_ret ?_; try dsimp only [Exit.then, Exit.inBlock]
     refine e_retN (vs := [.slice none 0 0, VI 4]) _ Try.results42 rfl (resT (v := .slice none 0 0) rfl (resT (v := VI 4) rfl (resZ))) ?_
     refine ⟨_, rfl, ?_⟩
     exact ⟨none, 0, [], 4, rfl, .inr ⟨rfl, rfl, take_no2 hpre hco7 (by omega)⟩, (H.sub (List.nil_sublist _)).nilEnd 54 35⟩
    ·
     refine l_yes rfl rfl (by exact congrArg Value.bool (decide_eq_false hc8)) (o_val r_mv ?_); refine l_yes rfl rfl (by exact congrArg Value.bool (decide_eq_false hc8)) (o_val (r_bin (a := (x4.toNat : Int)) (b := 64) rfl rfl (fun _ => b_gtr)) ?_); refine l_op (o_val (r_pick (b := false) (congrArg Value.bool (decide_eq_false hc8))) ?_); first | refine l_end ?_ | refine l_nil ?_
     by_cases hc9 : 64 < (x4.toNat : Int)
     ·
      repeat refine c_seq ?_
      refine c_yes (by exact congrArg Value.bool (decide_eq_true hc9)) ?_; repeat refine c_seq ?_
      refine c_region ?_; refine l_op (o_val r_as ?_); refine l_op (o_val r_as ?_); first | refine l_end ?_ | refine l_nil ?_
      refine c_ret ?_; try dsimp only [Exit.then, Exit.inBlock]
      refine e_retN (vs := [.slice none 0 0, VI 4]) _ Try.results42 rfl (resT (v := .slice none 0 0) rfl (resT (v := VI 4) rfl (resZ))) ?_
      refine ⟨_, rfl, ?_⟩
      exact ⟨none, 0, [], 4, rfl, .inr ⟨rfl, rfl, take_no2 hpre hco7 (by omega)⟩, (H.sub (List.nil_sublist _)).nilEnd 54 35⟩
     ·
      repeat refine c_seq ?_
      refine c_no (by exact congrArg Value.bool (decide_eq_false hc9)) ?_; refine c_skip ?_; have he0 : e6 = 0 := by omega
      subst he0
      have h00 : s.l = [68, 49] ++ (cnt x4.toNat ++ (([] : List It).flatMap itB ++ s.l.drop (2 + k5))) := by
        rcases hco7 with ⟨_, _, h3, _⟩ | ⟨h3, _⟩
        · rw [List.flatMap_nil, List.nil_append, ← List.drop_drop, ← h3]; exact hpre
        · exact absurd rfl h3
      repeat refine c_seq ?_
      refine c_region ?_; refine l_op (o_val r_mv ?_); refine l_op (o_val r_mv ?_); refine l_op (o_val (r_slS (s := (Sl.cut s 2 s.len s.cap)) k5 (s.len - 2) (s.cap - 2) (lv := some (VI (k5 : Int))) (hv := none) (mv := none) rfl el32 rfl rfl rfl (fun w => by exact sbl k5 (by omega) (by (try simp only [Sl.cut]); omega) w)) ?_); refine l_op (o_val r_as ?_); first | refine l_end ?_ | refine l_nil ?_
      repeat refine c_seq ?_
      refine c_region ?_; refine l_op (o_val r_as ?_); first | refine l_end ?_ | refine l_nil ?_
      repeat refine c_seq ?_
      refine c_region ?_; refine l_op (o_val r_mv ?_); refine l_op (o_val (r_mvV (c64 0 (by decide))) ?_); first | refine l_end ?_ | refine l_nil ?_
      repeat refine c_seq ?_
      refine c_block ?_; repeat refine c_seq ?_
      refine c_loop5 (fun (i : Nat) (b : Sl) (l : List It) (a : Option Nat) (c : Nat) => [(0, b.v), (7, .slice (hd a) l.length c), (37, V64 x4), (38, V64 (UInt64.ofNat i))])
        (fun (i : Nat) (b : Sl) (l : List It) (a : Option Nat) (c : Nat) w => (l.length = i ∧ i ≤ x4.toNat ∧ (∀ y ∈ l, y.fits) ∧ s.l = [68, 49] ++ (cnt x4.toNat ++ (l.flatMap itB ++ b.l)) ∧ (∀ w : World, s.ok w → b.ok w) ∧ b.len ≤ s.len) ∧ Hp w0 w [] ([.own a l.length c ((l).flatMap itE) 54 35]))
        (fun (i : Nat) (b : Sl) (l : List It) (a : Option Nat) (c : Nat) => x4.toNat - i) 0 (Sl.cut (Sl.cut s 2 s.len s.cap) k5 (s.len - 2) (s.cap - 2)) ([]) none 0 ⟨rfl, rfl, rfl, rfl, trivial⟩ ⟨⟨rfl, Nat.zero_le _, fun y hy => (by cases hy), by rw [cut_l00 hs 2 k5]; exact h00, fun w hs => (hs.cut (by omega) (by omega) (by omega) (by omega)).cut (by omega) (by (try simp only [Sl.cut]); omega) (by omega) (by (try simp only [Sl.cut]); omega), by first | (simp only [Sl.cut]; omega) | omega⟩, (H.nilEnd 54 35)⟩ ?_
      clear H
      rintro i b l a c τ w ⟨⟨hli, hix, hfit, hcut, hbk, hbl⟩, H⟩
      have hon := ofNat_nat i (by omega)
      have hbn := (hbk _ hs).ln
      repeat refine c_seq ?_
      refine c_region ?_; refine l_op (o_val (r_bin (a := ((UInt64.ofNat i).toNat : Int)) (b := (x4.toNat : Int)) rfl rfl (fun _ => b_lss)) ?_); first | refine l_end ?_ | refine l_nil ?_
      by_cases hc10 : ((UInt64.ofNat i).toNat : Int) < (x4.toNat : Int)
      ·
       repeat refine c_seq ?_
       refine c_yes (by exact congrArg Value.bool (decide_eq_true hc10)) ?_; refine c_skip ?_; repeat refine c_seq ?_
       refine c_block ?_; repeat refine c_seq ?_
       refine c_region ?_; refine l_op (o_val r_mv ?_); refine l_op (o_callR Try.func62 rfl rfl rfl (item_ret _ b (hbk _ (hs.up H (fun _ => apart_nil _))) (by (try simp only [Sl.cut]); omega)) ?_); rintro _ w ⟨x11, r12, f13, rfl, hrok15, hrl16, hit14, Hc⟩
       replace H : Hp _ w _ ([_]) := H.call Hc
       clear Hc
       refine l_op (o_val r_mv ?_); refine l_op (o_val (r_ext rfl rfl) ?_); refine l_op (o_val (r_ext rfl rfl) ?_); refine l_op (o_val (r_ext rfl rfl) ?_); refine l_op (o_alloc H zc54 (fun b17 w H hb17 => ?_)); replace H : Hp _ w _ ([_, .blk b17 (([.string ⟨(([] : List UInt8)).toArray⟩, VI 0] : List Value) ++ ((List.replicate 32 (0 : UInt8)).map V8 ++ (([VI 0] : List Value)))) 54]) := H
       refine l_op (o_stW (C' := ([.string ⟨(x11.name).toArray⟩, VI x11.kind] : List Value) ++ ((x11.of.1).map V8 ++ (([VI x11.size] : List Value)))) H (i := 1) rfl rfl rfl cs54 (by first | (simp [Value.oneCell', List.all_append, List.all_map]; done) | (simp only [List.all_append, List.all_cons, List.all_nil, List.all_map]; simp [Value.oneCell', Function.comp_def])) (by simp only [List.length_append, List.length_map, List.length_cons, List.length_nil, (show (List.replicate 32 (0 : UInt8)).length = 32 from (List.length_replicate ..))]) (by simp only [List.length_append, List.length_map, List.length_cons, List.length_nil, (show (x11.of.1).length = 32 from x11.of.2)]) (fun w H => ?_)); replace H : Hp _ w _ ([_, .blk b17 (([.string ⟨(x11.name).toArray⟩, VI x11.kind] : List Value) ++ ((x11.of.1).map V8 ++ (([VI x11.size] : List Value)))) 54]) := H
       refine l_op (o_val r_as ?_); refine l_op (o_val r_as ?_); first | refine l_end ?_ | refine l_nil ?_
       repeat refine c_seq ?_
       refine c_region ?_; refine l_op (o_val r_mv ?_); refine l_op (o_val (r_not rfl) ?_); first | refine l_end ?_ | refine l_nil ?_
       have hc180 := Bool.eq_false_or_eq_true (f13)
       rcases hc180 with hc18 | hc18
       ·
        repeat refine c_seq ?_
        refine c_no (by exact congrArg Value.bool (congrArg not hc18)) ?_; refine c_skip ?_; repeat refine c_seq ?_
        refine c_region ?_; refine l_op (o_val r_mv ?_); refine l_op (o_val (r_ldA (C := ([.string ⟨(x11.name).toArray⟩, VI x11.kind] : List Value) ++ ((x11.of.1).map V8 ++ (([VI x11.size] : List Value)))) H (i := 1) rfl rfl rt54 (by simp only [List.length_append, List.length_map, List.length_cons, List.length_nil, (show (x11.of.1).length = 32 from x11.of.2)])) ?_); refine l_op (o_bslG1 (enc := itE) (x11) H sl52 zc54 (by rfl) (by decide) (by decide) rfl (itE_len _) (fun b19 w H hb19 => ?_)); replace H : Hp _ w _ ([_, _, .own (some b19) 1 1 (([x11]).flatMap itE) 54 35]) := H
        have hl1 : (l ++ [x11]).length = l.length + 1 := by rw [List.length_append]; rfl
        refine l_op (o_appG (enc := itE) (s := ⟨hd (some b19), 1, 1, [x11]⟩) (l' := l ++ ([x11])) (len' := (l ++ ([x11])).length) rfl (by rw [List.length_append]; rfl) H (i := 0) rfl sl52 Try.underlying52 rfl rfl (H.glOwn (i := 2) rfl (by decide) (fun c _ => itE_len c)) (by decide) (fun c _ => itE_all c) (by omega) (by decide) (fun a20 c21 w H => ?_)); replace H : Hp _ w _ ([.own a20 ((l ++ ([x11])).length) c21 ((l ++ ([x11])).flatMap itE) 54 35, _, _]) := H
        refine l_op (o_val r_mv ?_); refine l_op (o_val r_as ?_); refine l_op (o_val r_as ?_); first | refine l_end ?_ | refine l_nil ?_
        repeat refine c_seq ?_
        refine c_region ?_; refine l_op (o_val (r_bin rfl (c64 1 (by decide)) (fun _ => b_add_u64N)) ?_); refine l_op (o_val r_mv ?_); first | refine l_end ?_ | refine l_nil ?_
        have hyes := hit14.elim (fun h => h.2) (fun h => absurd (hc18.symm.trans h.1) (by decide))
        refine round_end (i + 1, r12, l ++ ([x11]), a20, c21) ?_ ?_ ?_
        · exact ⟨rfl, rfl, rfl, show V64 (UInt64.ofNat (i + 1)) = V64 (UInt64.ofNat (i + 1 : Nat)) from congrArg V64 rfl, trivial⟩
        · refine ⟨?_, ?_⟩
          · try dsimp only
            exact ⟨by rw [List.length_append]; exact congrArg (· + 1) hli, by omega, fun y hy => (List.mem_append.1 hy).elim (hfit y) (fun hy => by rw [List.mem_singleton.1 hy]; exact hyes.1), by rw [List.flatMap_append, List.append_assoc, List.flatMap_cons, List.flatMap_nil, List.append_nil, ← hyes.2]; exact hcut, fun w h => hrok15 w (hbk w h), by omega⟩
          · exact H.sub (.cons_cons _ (List.nil_sublist _))
        · show x4.toNat - (i + 1 : Nat) < x4.toNat - i; omega
       ·
        repeat refine c_seq ?_
        refine c_yes (by exact congrArg Value.bool (congrArg not hc18)) ?_; repeat refine c_seq ?_
        refine c_region ?_; refine l_op (o_val r_as ?_); refine l_op (o_val r_as ?_); first | refine l_end ?_ | refine l_nil ?_
        refine c_ret ?_; try dsimp only [Exit.then, Exit.inBlock]
        refine e_retN (vs := [.slice none 0 0, VI 4]) _ Try.results42 rfl (resT (v := .slice none 0 0) rfl (resT (v := VI 4) rfl (resZ))) ?_
        refine ⟨_, rfl, ?_⟩
        exact ⟨none, 0, [], 4, rfl, .inr ⟨rfl, rfl, take_no3 hcut hfit (by omega) (hit14.elim (fun h => absurd (hc18.symm.trans h.1) (by decide)) (fun h => h.2))⟩, (H.sub (List.nil_sublist _)).nilEnd 54 35⟩
      ·
       repeat refine c_seq ?_
       refine c_no (by exact congrArg Value.bool (decide_eq_false hc10)) ?_; refine c_exit ?_; repeat refine c_seq ?_
       refine c_region ?_; refine l_op (o_val r_mv ?_); refine l_op (o_val (r_lens el32 rfl) ?_); refine l_op (o_val (r_bin (a := (b.len : Int)) (b := 0) rfl rfl (fun _ => b_gtr)) ?_); refine l_op (o_val r_mv ?_)
       by_cases hc22 : 0 < (b.len : Int)
       ·
        refine l_no rfl rfl (by exact congrArg Value.bool (decide_eq_true hc22)) rfl ?_; refine l_no rfl rfl (by exact congrArg Value.bool (decide_eq_true hc22)) rfl ?_; refine l_no rfl rfl (by exact congrArg Value.bool (decide_eq_true hc22)) rfl ?_; refine l_op (o_val (r_pick (b := true) (congrArg Value.bool (decide_eq_true hc22))) ?_); first | refine l_end ?_ | refine l_nil ?_
        repeat refine c_seq ?_
        refine c_yes rfl ?_; repeat refine c_seq ?_
        refine c_region ?_; refine l_op (o_val r_as ?_); refine l_op (o_val r_as ?_); first | refine l_end ?_ | refine l_nil ?_
        refine c_ret ?_; try dsimp only [Exit.then, Exit.inBlock]
        refine e_retN (vs := [.slice none 0 0, VI 4]) _ Try.results42 rfl (resT (v := .slice none 0 0) rfl (resT (v := VI 4) rfl (resZ))) ?_
        refine ⟨_, rfl, ?_⟩
        exact ⟨none, 0, [], 4, rfl, .inr ⟨rfl, rfl, take_no4 hcut hfit (by omega) (by first | exact .inl (by omega) | exact .inr (fun h => by have := hmay.2 h; simp [*] at this))⟩, (H.sub (List.nil_sublist _)).nilEnd 54 35⟩
       ·
        refine l_yes rfl rfl (by exact congrArg Value.bool (decide_eq_false hc22)) (o_val r_mv ?_); refine l_yes rfl rfl (by exact congrArg Value.bool (decide_eq_false hc22)) (o_callR Try.func63 rfl rfl rfl (fmay_ret _ ⟨hd a, l.length, c, l⟩ (H.glOwn (i := 0) rfl (by decide) (fun c _ => itE_len c))) ?_); rintro _ w ⟨b23, rfl, hmay24, Hc⟩
        replace H : Hp _ w _ ([_]) := H.call Hc
        clear Hc
        refine l_yes rfl rfl (by exact congrArg Value.bool (decide_eq_false hc22)) (o_val (r_not rfl) ?_); refine l_op (o_val (r_pick (b := false) (congrArg Value.bool (decide_eq_false hc22))) ?_); first | refine l_end ?_ | refine l_nil ?_
        have hc250 := Bool.eq_false_or_eq_true (b23)
        rcases hc250 with hc25 | hc25
        ·
         repeat refine c_seq ?_
         refine c_no (by exact congrArg Value.bool (congrArg not hc25)) ?_; refine c_skip ?_; repeat refine c_seq ?_
         refine c_region ?_; refine l_op (o_val r_mv ?_); refine l_op (o_val r_as ?_); refine l_op (o_val r_as ?_); first | refine l_end ?_ | refine l_nil ?_
         refine c_ret ?_; try dsimp only [Exit.then, Exit.inBlock]
         refine e_retN (vs := [.slice (hd a) l.length c, VI 0]) _ Try.results42 rfl (resT (v := .slice (hd a) l.length c) rfl (resT (v := VI 0) rfl (resZ))) ?_
         refine ⟨_, rfl, ?_⟩
         exact ⟨_, _, _, 0, rfl, .inl ⟨rfl, take_yes hcut hfit (by omega) (by omega) (hmay24.1 hc25) (by omega)⟩, H.sub (.cons_cons _ (List.nil_sublist _))⟩
        ·
         repeat refine c_seq ?_
         refine c_yes (by exact congrArg Value.bool (congrArg not hc25)) ?_; repeat refine c_seq ?_
         refine c_region ?_; refine l_op (o_val r_as ?_); refine l_op (o_val r_as ?_); first | refine l_end ?_ | refine l_nil ?_
         refine c_ret ?_; try dsimp only [Exit.then, Exit.inBlock]
         refine e_retN (vs := [.slice none 0 0, VI 4]) _ Try.results42 rfl (resT (v := .slice none 0 0) rfl (resT (v := VI 4) rfl (resZ))) ?_
         refine ⟨_, rfl, ?_⟩
         exact ⟨none, 0, [], 4, rfl, .inr ⟨rfl, rfl, take_no4 hcut hfit (by omega) (by first | exact .inl (by omega) | exact .inr (fun h => by have := hmay24.2 h; simp [*] at this))⟩, (H.sub (List.nil_sublist _)).nilEnd 54 35⟩
   ·
    repeat refine c_seq ?_
    refine c_yes (by exact congrArg Value.bool (congrArg not hc3)) ?_; repeat refine c_seq ?_
    refine c_region ?_; refine l_op (o_val r_as ?_); refine l_op (o_val r_as ?_); first | refine l_end ?_ | refine l_nil ?_
    refine c_ret ?_; try dsimp only [Exit.then, Exit.inBlock]
    refine e_retN (vs := [.slice none 0 0, VI 4]) _ Try.results42 rfl (resT (v := .slice none 0 0) rfl (resT (v := VI 4) rfl (resZ))) ?_
    refine ⟨_, rfl, ?_⟩
    exact ⟨none, 0, [], 4, rfl, .inr ⟨rfl, rfl, take_no1 (by first | exact .inl (by omega) | exact .inr (by assumption))⟩, (H.sub (List.nil_sublist _)).nilEnd 54 35⟩
end Go.Proofs.Ytomjbabllcmodaa
namespace Go.Proofs.Ytomjbabllcmodaa
open Go Go.Shelf
def Try.sortA_ren : Go.Shelf.Ren := ⟨fun | 6 => 39 | 15 => 59 | 14 => 58 | 28 => 77 | 29 => 78 | 20 => 69 | 21 => 70 | 22 => 71 | 23 => 72 | 24 => 73 | 25 => 74 | 26 => 75 | 27 => 76 | 46 => 82 | 47 => 83 | 48 => 84 | 49 => 85 | 50 => 86 | 57 => 89 | n => n, fun | 22 => 23 | 24 => 29 | 25 => 76 | 3 => 3 | 39 => 110 | 0 => 0 | 53 => 127 | 55 => 91 | 4 => 4 | 46 => 120 | 45 => 119 | 50 => 124 | 5 => 5 | 9 => 9 | 66 => 129 | 70 => 133 | 76 => 136 | 77 => 137 | n => n, fun | n => n⟩
theorem Try.sortA : Go.Proofs.SlLaysF0.n6 Try.prog Try.sortA_ren := {
  mixed := by kernel_rfl
  f6 := ⟨Try.f39.name, by decide, Try.func39.trans (congrArg some (by kernel_rfl))⟩
  f14 := ⟨Try.f58.name, by decide, Try.func58.trans (congrArg some (by kernel_rfl))⟩
  f15 := Try.func59.trans (congrArg some (by kernel_rfl))
  f20 := ⟨Try.f69.name, by decide, Try.func69.trans (congrArg some (by kernel_rfl))⟩
  f21 := ⟨Try.f70.name, by decide, Try.func70.trans (congrArg some (by kernel_rfl))⟩
  f22 := ⟨Try.f71.name, by decide, Try.func71.trans (congrArg some (by kernel_rfl))⟩
  f23 := ⟨Try.f72.name, by decide, Try.func72.trans (congrArg some (by kernel_rfl))⟩
  f24 := ⟨Try.f73.name, by decide, Try.func73.trans (congrArg some (by kernel_rfl))⟩
  f25 := ⟨Try.f74.name, by decide, Try.func74.trans (congrArg some (by kernel_rfl))⟩
  f26 := ⟨Try.f75.name, by decide, Try.func75.trans (congrArg some (by kernel_rfl))⟩
  f27 := ⟨Try.f76.name, by decide, Try.func76.trans (congrArg some (by kernel_rfl))⟩
  f28 := Try.func77.trans (congrArg some (by kernel_rfl))
  f29 := Try.func78.trans (congrArg some (by kernel_rfl))
  f46 := ⟨Try.f82.name, by decide, Try.func82.trans (congrArg some (by kernel_rfl))⟩
  f47 := Try.func83.trans (congrArg some (by kernel_rfl))
  f48 := Try.func84.trans (congrArg some (by kernel_rfl))
  f49 := ⟨Try.f85.name, by decide, Try.func85.trans (congrArg some (by kernel_rfl))⟩
  f50 := ⟨Try.f86.name, by decide, Try.func86.trans (congrArg some (by kernel_rfl))⟩
  f57 := ⟨Try.f89.name, by decide, Try.func89.trans (congrArg some (by kernel_rfl))⟩
  t0 := Try.underlying0
  a0 := Try.isAgg0
  z0 := Try.sizeOf0
  v0 := Try.zeroValue0
  t3 := Try.underlying3
  a3 := Try.isAgg3
  z3 := Try.sizeOf3
  v3 := Try.zeroValue3
  t4 := Try.underlying4
  a4 := Try.isAgg4
  z4 := Try.sizeOf4
  v4 := Try.zeroValue4
  t5 := Try.underlying5
  a5 := Try.isAgg5
  z5 := Try.sizeOf5
  v5 := Try.zeroValue5
  t9 := Try.underlying9
  a9 := Try.isAgg9
  z9 := Try.sizeOf9
  v9 := Try.zeroValue9
  t22 := Try.underlying23
  a22 := Try.isAgg23
  z22 := Try.sizeOf23
  v22 := Try.zeroValue23
  t25 := Try.underlying76
  a25 := Try.isAgg76
  z25 := Try.sizeOf76
  v25 := Try.zeroValue76
  t39 := Try.underlying110
  a39 := Try.isAgg110
  z39 := Try.sizeOf110
  v39 := Try.zeroValue110
  t45 := Try.underlying119
  a45 := Try.isAgg119
  z45 := Try.sizeOf119
  v45 := Try.zeroValue119
  t46 := Try.underlying120
  a46 := Try.isAgg120
  z46 := Try.sizeOf120
  v46 := Try.zeroValue120
  t50 := Try.underlying124
  a50 := Try.isAgg124
  z50 := Try.sizeOf124
  v50 := Try.zeroValue124
  t53 := Try.underlying127
  a53 := Try.isAgg127
  z53 := Try.sizeOf127
  v53 := Try.zeroValue127
  t55 := Try.underlying91
  a55 := Try.isAgg91
  z55 := Try.sizeOf91
  v55 := Try.zeroValue91
  t66 := Try.underlying129
  a66 := Try.isAgg129
  z66 := Try.sizeOf129
  v66 := Try.zeroValue129
  t70 := Try.underlying133
  a70 := Try.isAgg133
  z70 := Try.sizeOf133
  v70 := Try.zeroValue133
  t76 := Try.underlying136
  a76 := Try.isAgg136
  z76 := Try.sizeOf136
  v76 := Try.zeroValue136
  t77 := Try.underlying137
  a77 := Try.isAgg137
  z77 := Try.sizeOf137
  v77 := Try.zeroValue137 }
end Go.Proofs.Ytomjbabllcmodaa
namespace Go.Proofs.Ytomjbabllcmodaa
open Go Go.MapKept
set_option maxRecDepth 100000
def kA (x : Id32) : Value := .agg (x.1.map V8).toArray
theorem chkA_u8s (e : Bool) (l : List UInt8) (hl : l.length = 32) (w : World) (n : Nat) : (Instr.checkKey e (n + 2) 29 (.agg (l.map V8).toArray)).run Try.prog w = .ok () w := by
  obtain ⟨i, hi⟩ : ∃ i, Try.prog.info? 5 = some i := info_of_underlying (by kernel_rfl : Try.prog.underlying 5 = some (.int .u8))
  have hs : Try.prog.cellsOf 5 = 1 := by kernel_rfl
  rw [show n + 2 = (n + 1) + 1 from rfl, Instr.checkKey]
  simp only [Sem.run_bind, run_underlying (by kernel_rfl : Try.prog.underlying 29 = some (.array 32 5)), Result.andThen_ok]
  simp only [Std.Legacy.Range.forIn_eq_forIn_range', Std.Legacy.Range.size, Nat.sub_zero, Nat.add_one_sub_one, Nat.div_one]
  have each : ∀ j ∈ List.range' 0 32, j < 32 := by intro j hj; simpa using hj
  generalize List.range' 0 32 = is at each
  induction is with
  | nil => simp
  | cons j is ih =>
    have hj := each j (by simp)
    have p1 : (part 5 (l.map V8).toArray (j * Try.prog.cellsOf 5)).run Try.prog w = .ok (V8 (l.getD j 0)) w := by
      rw [hs, Nat.mul_one]
      exact part_cell (by kernel_rfl) (by rw [List.getElem?_toArray, Sl.get l j (by omega)])
    have p2 : (Instr.checkKey e (n + 1) 5 (V8 (l.getD j 0))).run Try.prog w = .ok () w := run_checkKey (d := .int .u8) (by kernel_rfl) (by simp [IsKey]) e n
    simp only [List.forIn_cons, Sem.run_bind, run_sizeOf w hi, Result.andThen_ok, p1, p2, Sem.run_pure]
    exact ih (fun y hy => each y (by simp [hy]))
theorem eqA (p q : Id32) (w : World) : (Op.equal 29 (kA p) (kA q)).run Try.prog w = .ok (decide (p = q)) w := by
  have h := eqI_u8s (P := Try.prog) (t := 29) (m := 32) (by kernel_rfl) (e := 5) (by kernel_rfl) (by kernel_rfl) 9998 p.1 q.1 p.2 q.2 (w := w)
  have e : decide (p.1 = q.1) = decide (p = q) := by
    rw [Bool.eq_iff_iff]
    simp only [decide_eq_true_eq]
    exact ⟨fun h => Subtype.ext h, fun h => by rw [h]⟩
  rw [← e]
  exact h
theorem sameA (p : Id32) : Instr.sameBits 10000 (kA p) (kA p) = true := by
  show Instr.sameBits (9999 + 1) (.agg _) (.agg _) = true
  simp only [Instr.sameBits, beq_self_eq_true, Bool.true_and, List.all_eq_true]
  intro x hx
  obtain ⟨i, hi, e⟩ := List.getElem_of_mem hx
  rw [List.getElem_zip] at e
  rw [← e]
  have hm := List.getElem_mem (l := p.1.map V8) (n := i) (by simpa using hi)
  simp only at hm ⊢
  generalize (p.1.map V8)[i]'(by simpa using hi) = v at hm
  obtain ⟨u, _, rfl⟩ := List.mem_map.1 hm; exact sameBits_self (d := .int .u8) (by simp [IsKey]) _
theorem keyA : KeyOf Try.prog 29 kA := KeyOf.ask (by kernel_rfl) (fun e p w => chkA_u8s e p.1 p.2 w 9998) eqA sameA
end Go.Proofs.Ytomjbabllcmodaa
namespace Go.Proofs.Ytomjbabllcmodaa
open Go
theorem Hp.slMid {w0 w : World} {S : List Nat} {L : List Ch} (H : Hp w0 w S L) {i b o k : Nat} {C A D : List Value} {l : List UInt8} {T : TypeId} (hi : L[i]? = some (.blk b C T)) (hc : Cut3 C A (l.map V8) D o k) (hm : k ≤ 9223372036854775807) : (⟨some ⟨b, o, none⟩, k, k, l⟩ : Sl).ok w := by
  have h := (Ch.rd_blk (H.has _ (List.mem_of_getElem? hi)) o).take k
  have e : (C.drop o).take k = l.map V8 := by rw [hc.e, ← hc.ha, List.drop_left, ← hc.hb, List.take_left]
  rw [e] at h
  exact ⟨h, by have := hc.hb; simpa using this, Nat.le_refl _, hm⟩
end Go.Proofs.Ytomjbabllcmodaa
namespace Go.Proofs.Ytomjbabllcmodaa
open Go
set_option maxRecDepth 100000
theorem run_load_cell {P : Program} {w : World} {a : Addr} {v : Value} (h : w.cell? a = some v) : (load a).run P w = .ok v w := by simp [load, Sem.run, h]
theorem run_loadBytes {P : Program} {w : World} {b : Nat} {C : Array Value} {T fr} (hb : w.heap[b]? = some (.cells C T fr)) : ∀ (l : List UInt8) (o : Nat) (acc : ByteArray), (∀ i v, (l.map V8)[i]? = some v → C[o + i]? = some v) →
    (Extern.Bytes.loadBytes ⟨b, o, none⟩ l.length acc).run P w = .ok ⟨(acc.data.toList ++ l).toArray⟩ w
  | [], o, acc, _ => by simp [Extern.Bytes.loadBytes]
  | c :: l, o, acc, h => by
    have h0 : C[o]? = some (V8 c) := by simpa using h 0 (V8 c) (by simp)
    have hc : w.cell? ⟨b, o, none⟩ = some (V8 c) := by simp [World.cell?, hb, h0]
    have ih := run_loadBytes (P := P) hb l (o + 1) (acc.push c) (fun i v hv => by
      have := h (i + 1) v (by simpa using hv)
      rw [show o + 1 + i = o + (i + 1) by omega]; exact this)
    rw [List.length_cons, Extern.Bytes.loadBytes]
    simp only [Sem.run_bind, run_load_cell hc, Result.andThen_ok, V8]
    have e1 : ((c.toNat : Int)).toNat.toUInt8 = c := by simp
    rw [e1]
    have e2 : (⟨b, o, none⟩ : Addr).add 1 = ⟨b, o + 1, none⟩ := rfl
    rw [e2, ih]
    simp [ByteArray.push]
theorem run_bytesOf {P : Program} {w : World} {s : Sl} (hs : s.ok w) : (Extern.Bytes.bytesOf s.v).run P w = .ok ⟨s.l.toArray⟩ w := by
  have hl := hs.ln
  rcases hs.rd with h | ⟨b, o, C, T, fr, ha, hb, hc⟩
  · have h0 : s.l = [] := by simpa using h
    rw [h0] at hl ⊢
    have hl0 : s.len = 0 := hl.symm
    unfold Sl.v
    rw [hl0]
    cases s.a with
    | none => simp [Extern.Bytes.bytesOf]; rfl
    | some a => simp [Extern.Bytes.bytesOf, Extern.Bytes.loadBytes]; rfl
  · unfold Sl.v
    rw [ha, ← hl]
    have := run_loadBytes (P := P) hb s.l o .empty hc
    simpa [Extern.Bytes.bytesOf] using this
theorem run_compare {P : Program} {w : World} {s u : Sl} (hs : s.ok w) (hu : u.ok w) : (Extern.BytealgCompare.compare #[s.v, u.v]).run P w = .ok (.int .i64 (Lib.compareBytes s.l u.l)) w := by
  change Sem.run P (do pure (goInt (Extern.BytealgCompare.cmp (← Extern.Bytes.bytesOf s.v) (← Extern.Bytes.bytesOf u.v)))) w = _
  simp only [Sem.run_bind, run_bytesOf hs, run_bytesOf hu, Result.andThen_ok, Sem.run_pure, Lib.cmp_eq]
  rfl
open Go.Proofs in
set_option maxHeartbeats 1000000 in
theorem bytesCompare_ret (w : World) (s u : Sl) (hs : s.ok w) (hu : u.ok w) : Ret Try.prog 35 [s.v, u.v] w fun v w' => v = VI (Lib.compareBytes s.l u.l) ∧ w' = w := by
  have hc := run_compare (P := Try.prog) hs hu
  unfold Sl.v at hc ⊢
  have h : Calls Try.prog 35 #[.slice s.a s.len s.cap, .slice u.a u.len u.cap] w fun e w' => e = .returned (VI (Lib.compareBytes s.l u.l)) ∧ w' = w := by
    go_enter Try.func35, Try.ntmps35
    go_wp2
    rw [run_callFunc_extern Try.func51 (by kernel_rfl) (by kernel_rfl) (by kernel_rfl) (e := Extern.BytealgCompare.compare) (by kernel_rfl), hc]
    simp only [Result.andThen]
    rw [Oper.upon_value]
    go_wp2
    go_ret
    exact ⟨rfl, rfl⟩
  exact Calls.mono h fun e w' ⟨he, hw⟩ => ⟨_, he, rfl, hw⟩
end Go.Proofs.Ytomjbabllcmodaa
namespace Go.Proofs.Ytomjbabllcmodaa
open Go
set_option maxRecDepth 100000
set_option linter.unusedSectionVars false
section
variable {α : Type} [Inhabited α] {enc : α → List Value} {k : Nat}
theorem flatK_get (hk : ∀ x, (enc x).length = k) (h0 : 0 < k) : ∀ (l : List α) (t : Nat), t < l.length * k → (l.flatMap enc)[t]? = (enc (l[t / k]!))[t % k]?
  | [], t, h => by simp at h
  | x :: l, t, h => by
    rw [List.flatMap_cons]
    by_cases ht : t < k
    · rw [List.getElem?_append_left (by rw [hk]; exact ht), Nat.div_eq_of_lt ht, Nat.mod_eq_of_lt ht]; rfl
    · have h2 : t - k < l.length * k := by rw [List.length_cons, Nat.add_mul, Nat.one_mul] at h; omega
      have e1 : t / k = (t - k) / k + 1 := Nat.div_eq_sub_div h0 (by omega)
      have e2 : t % k = (t - k) % k := Nat.mod_eq_sub_mod (by omega)
      rw [List.getElem?_append_right (by rw [hk]; omega), hk, flatK_get hk h0 l (t - k) h2, e1, e2]
      rfl
theorem flatK_len (hk : ∀ x, (enc x).length = k) : ∀ l : List α, (l.flatMap enc).length = l.length * k
  | [] => by simp
  | x :: l => by rw [List.flatMap_cons, List.length_append, hk, flatK_len hk l, List.length_cons, Nat.add_mul, Nat.one_mul, Nat.add_comm]
open Go.Sort in
theorem flatK_list (hk : ∀ x, (enc x).length = k) (h0 : 0 < k) (l : List α) : flatK enc k l.toArray = (l.flatMap enc).toArray := by
  refine ext_get! (by simp [flatK_len hk]) fun t ht => ?_
  have ht' : t < l.length * k := by simpa using ht
  rw [get_flatK enc k _ t (by simpa using ht')]
  have hl := flatK_get hk h0 l t ht'
  have hlt : t < (l.flatMap enc).length := by rw [flatK_len hk]; exact ht'
  rw [List.getElem?_eq_getElem hlt] at hl
  have e1 : (l.flatMap enc).toArray[t]! = (l.flatMap enc)[t] := by
    rw [getElem!_pos _ t (by simpa using hlt)]; simp
  rw [e1]
  have hm : t % k < (enc l[t / k]!).length := by rw [hk]; exact Nat.mod_lt _ h0
  rw [List.getElem?_eq_getElem hm] at hl
  have e2 : l.toArray[t / k]! = l[t / k]! := by simp
  rw [e2, getElem!_pos (enc l[t / k]!) (t % k) hm]
  exact (Option.some.inj hl).symm
open Go.Sort in
theorem putCells_id (d xs rest : List Value) (h : d.length = xs.length) : putCells id 0 d.toArray (xs ++ rest).toArray = (d ++ rest).toArray := by
  apply Array.ext_getElem?
  intro k
  simp only [putCells, Array.getElem?_mapIdx, List.getElem?_toArray, Nat.zero_add, Nat.sub_zero, Nat.zero_le, true_and, List.size_toArray, id]
  by_cases hk : k < d.length
  · rw [List.getElem?_append_left (by omega), List.getElem?_append_left (by simpa using hk), List.getElem?_eq_getElem (by omega), List.getElem?_eq_getElem hk]
    simp [hk]
  · rw [List.getElem?_append_right (by omega), List.getElem?_append_right (by simpa using hk), h]
    have hk2 : ¬ k < xs.length := by omega
    cases rest[k - xs.length]? <;> simp [hk2]
open Go.Sort in
theorem hp_putRowK {w0 w : World} {S : List Nat} {L : List Ch} {i b n c m : Nat} {l d : List α} {T : TypeId} {os : Array Obj} (hk : ∀ x, (enc x).length = k) (h0 : 0 < k) (H : Hp w0 w S L) (hi : L[i]? = some (.own (some b) n c (l.flatMap enc) T k)) (hd : d.length = l.length) :
    Hp w0 (sortWorldK enc k w b 0 m d.toArray os) S (L.set i (.own (some b) n c (d.flatMap enc) T k)) := by
  obtain ⟨q1, q2, q3, rest, hw, q5⟩ := H.has _ (List.mem_of_getElem? hi)
  have hlt : b < w.heap.size := (Array.getElem?_eq_some_iff.1 hw).1
  have hdl : (d.flatMap enc).length = (l.flatMap enc).length := by rw [flatK_len hk, flatK_len hk, hd]
  have e0 : sortWorldK enc k w b 0 m d.toArray os = grow (putRow id (Sort.ahead w m) b 0 (d.flatMap enc).toArray) os := by
    unfold sortWorldK putRowK; rw [flatK_list hk h0]
  rw [e0]
  have hsz : (putRow id (Sort.ahead w m) b 0 (d.flatMap enc).toArray).heap.size = w.heap.size := by rw [size_putRow]; rfl
  have hold : ∀ k, k < w.heap.size → (grow (putRow id (Sort.ahead w m) b 0 (d.flatMap enc).toArray) os).heap[k]? = (w.heap.modify b (onCells (putCells id 0 (d.flatMap enc).toArray)))[k]? := fun k hk => by
    show ((putRow id (Sort.ahead w m) b 0 (d.flatMap enc).toArray).heap ++ os)[k]? = _
    rw [Array.getElem?_append_left (by rw [hsz]; exact hk)]; rfl
  refine H.turn hi (c' := .own (some b) n c (d.flatMap enc) T k) ⟨by rw [hdl]; exact q1, q2, q3, rest, ?_, by rw [List.length_append, hdl, ← List.length_append]; exact q5⟩ (fun b' hb' => .inl hb') rfl rfl rfl (by show w.heap.size ≤ ((putRow id (Sort.ahead w m) b 0 (d.flatMap enc).toArray).heap ++ os).size; rw [Array.size_append, hsz]; omega) fun b' hlt' hne => ?_
  · rw [hold b hlt, Array.getElem?_modify, if_pos rfl, hw]
    simp only [Option.map_some, onCells, putCells_id _ _ rest hdl]
  · rw [hold b' hlt', Array.getElem?_modify, if_neg (fun e => hne (by rw [← e]; rfl))]
open Go.Sort in
theorem holdsK_own {w : World} {b n c : Nat} {l : List α} {T : TypeId} (hk : ∀ x, (enc x).length = k) (h0 : 0 < k) (h : (Ch.own (some b) n c (l.flatMap enc) T k).ok w) : HoldsK enc k w b 0 l.toArray := by
  obtain ⟨q1, q2, q3, rest, hw, q5⟩ := h
  unfold HoldsK
  rw [flatK_list hk h0]
  intro j hj
  have hj' : j < (l.flatMap enc).length := by simpa using hj
  refine ⟨?_, ?_⟩
  · simp only [World.cell?, hw, Nat.zero_add, List.getElem?_toArray]
    rw [List.getElem?_append_left hj', List.getElem?_eq_getElem hj']
    rw [getElem!_pos _ j hj]; simp
  · simp [World.frozen?, hw]
/-- a list, sorted by what tells less. -/
def sortK (cf : α → α → Int) (l : List α) : List α := l.mergeSort fun x y => !(decide (cf y x < 0))
open Go.Sort Go.Shelf in
theorem sortK_ret {ρ : Ren} (Ly : SlLaysF0.n6 Try.prog ρ) (aE : ∀ w, (isAgg (ρ.t 24)).run Try.prog w = .ok true w) (zE : ∀ w, (Go.sizeOf (ρ.t 24)).run Try.prog w = .ok k w) (hk : ∀ x, (enc x).length = k) (h0 : 0 < k) (h1 : ∀ x, ∀ v ∈ enc x, v.oneCell' = true) (cf : α → α → Int) (hO : SWO (ltOf cf)) (hT : ∀ x y, ltOf cf x y = false → ltOf cf y x = false → x = y)
    {g : FuncId} {fn : Func} (hf : Try.prog.funcs[g]? = some fn) (hb : fn.body.isSome = true) (hname : (fn.name == "runtime.NumGoroutine") = false)
    (hcmp : ∀ (W : World) (x y : α), Calls Try.prog g #[.agg (enc x).toArray, .agg (enc y).toArray] W fun e w' => e = .returned (VI (cf x y)) ∧ ∃ q os', w' = grow (W.drewN q) os')
    {w0 w : World} {S : List Nat} {L : List Ch} {i n c : Nat} {a : Option Nat} {l : List α} {T : TypeId} (H : Hp w0 w S L) (hi : L[i]? = some (.own a n c (l.flatMap enc) T k)) (hn : l.length = n) (hbd : n ≤ 1099511627776) :
    Ret Try.prog (ρ.f 6) [.slice (hd a) n c, .func (.func g) #[] #[]] w fun v w' => v = .tuple #[] ∧ Hp w0 w' S (L.set i (.own a n c ((sortK cf l).flatMap enc) T k)) := by
  subst hn
  have eg : ∀ args w, (callFunc g args).run Try.prog w = .ok (.enter g args) w := fun args w => by
    have hn' : fn.body ≠ none := by cases hh : fn.body <;> simp_all
    have hnm : fn.name ≠ "runtime.NumGoroutine" := by intro e; simp [e] at hname
    simp [callFunc, hf, hnm, hn']
  cases a with
  | none =>
    obtain ⟨h1', h2, h3⟩ := (H.has _ (List.mem_of_getElem? hi) : (Ch.own none l.length c (l.flatMap enc) T k).ok w)
    have hl : l = [] := List.eq_nil_of_length_eq_zero h1'
    subst hl
    have h := AnyF.slices_SortFunc_none (P := Try.prog) (ρ := ρ) Ly none c (.func (.func g) #[] #[]) w
    refine Calls.mono h fun e w' ⟨he, hw'⟩ => ⟨_, he, rfl, ?_⟩
    have e1 : sortK cf ([] : List α) = [] := by simp [sortK]
    rw [hw', e1]
    have e2 : L.set i (.own none ([] : List α).length c (([] : List α).flatMap enc) T k) = L := by
      apply List.ext_getElem?
      intro j
      rw [List.getElem?_set]
      by_cases e : i = j
      · subst e
        have := (List.getElem?_eq_some_iff.1 hi).1
        rw [if_pos rfl, if_pos this, hi]
      · rw [if_neg e]
    rw [e2]; exact H
  | some b =>
    have hc := H.has _ (List.mem_of_getElem? hi)
    have hlt : b < w.heap.size := Ch.lt hc rfl
    have h := AnyQ.slices_SortFunc_total Ly k aE zE enc hk h1 cf hO g #[] b 0 c l.toArray w eg (fun m os dk _ x y => hcmp _ x y) (holdsK_own hk h0 hc) hlt (by simp; omega) hT
    simp only [List.size_toArray] at h
    refine Calls.mono h fun e w' ⟨he, m, os, hw'⟩ => ⟨_, he, rfl, ?_⟩
    rw [hw']
    exact hp_putRowK (m := m) (os := os) (d := sortK cf l) hk h0 H hi (by rw [sortK, List.length_mergeSort])
end
end Go.Proofs.Ytomjbabllcmodaa
namespace Go.Proofs.Ytomjbabllcmodaa
open Go
set_option maxRecDepth 100000
def idE (x : Id32) : List Value := x.1.map V8
theorem idE_len (x : Id32) : (idE x).length = 32 := by rw [idE, List.length_map, x.2]
theorem idE_all (x : Id32) : (idE x).all (·.oneCell') = true := by
  rw [idE, List.all_eq_true]; intro v hv; obtain ⟨c, _, rfl⟩ := List.mem_map.1 hv; rfl
theorem cmpB_lt : ∀ a b : List UInt8, Lib.compareBytes a b < 0 ↔ a < b
  | [], [] => by simp [Lib.compareBytes]
  | [], _ :: _ => by simp [Lib.compareBytes]
  | _ :: _, [] => by simp [Lib.compareBytes]
  | a :: xs, b :: ys => by
    rw [Lib.compareBytes, List.cons_lt_cons_iff]
    by_cases h1 : a < b
    · simp [h1]
    · by_cases h2 : b < a
      · have : a ≠ b := fun e => by subst e; exact h1 h2
        simp [h1, h2, this]
      · have e : a = b := UInt8.toNat_inj.1 (by
          have g1 : ¬ a.toNat < b.toNat := fun h => h1 (UInt8.lt_iff_toNat_lt.2 h)
          have g2 : ¬ b.toNat < a.toNat := fun h => h2 (UInt8.lt_iff_toNat_lt.2 h)
          omega)
        subst e
        simp [h1, cmpB_lt xs ys]
instance : Inhabited Id32 := ⟨⟨List.replicate 32 0, by simp⟩⟩
def cmpA (x y : Id32) : Int := Lib.compareBytes x.1 y.1
open Go.Sort in
theorem ltA (x y : Id32) : ltOf cmpA x y = decide (x.1 < y.1) := by
  rw [ltOf, Bool.eq_iff_iff, decide_eq_true_eq, decide_eq_true_eq]; exact cmpB_lt _ _
theorem lt_irr (a : List UInt8) : ¬ a < a := List.lt_irrefl a
theorem lt_tot {a b : List UInt8} (h1 : ¬ a < b) (h2 : ¬ b < a) : a = b := List.le_antisymm (List.not_lt.1 h2) (List.not_lt.1 h1)
theorem lt_tr {a b c : List UInt8} (h1 : a < b) (h2 : b < c) : a < c := List.lt_trans h1 h2
open Go.Sort in
theorem swoA : SWO (ltOf cmpA) where
  irrefl x := by rw [ltA]; exact decide_eq_false (lt_irr _)
  trans x y z h1 h2 := by rw [ltA, decide_eq_true_eq] at *; exact lt_tr h1 h2
  ntrans x y z h1 h2 := by
    rw [ltA, decide_eq_false_iff_not] at *
    exact List.not_lt.2 (List.le_trans (List.not_lt.1 h2) (List.not_lt.1 h1))
theorem totA (x y : Id32) (h1 : ltOf cmpA x y = false) (h2 : ltOf cmpA y x = false) : x = y := by
  rw [ltA, decide_eq_false_iff_not] at *
  exact Subtype.ext (lt_tot h1 h2)
/-- names, in order. -/
def sortA (l : List Id32) : List Id32 := sortK cmpA l
section
variable {P : Program} {Q : Exit → Act → World → Prop} {n : Nat} {σ : Nat → Value} {w : World} {K : Act → World → Prop}
  {ty : TypeId} {pos : String} {aft : Array Edge} {g : Option (Nat × Bool)} {d : Nat} {t : TypeId} {x : Operand}
theorem o_boxE {v : Value} (hx : ev n σ x = v) (h : K (mk n (up σ d (.pointer (some ⟨w.heap.size, 0, none⟩)))) (w.alloc (.cells v.cells t))) : Oper.wp P ⟨some d, .box t x, ty, pos, aft, g⟩ (mk n σ) w K Q := by
  refine o_val (v := .pointer (some ⟨w.heap.size, 0, none⟩)) (w' := w.alloc (.cells v.cells t)) ?_ h
  simp [execOp, Instr.box, hx, newVar, newRow]
end
theorem id_slok {w : World} {b : Nat} {x : Id32} {T fr} (h : w.heap[b]? = some (.cells (idE x).toArray T fr)) : (⟨some ⟨b, 0, none⟩, 32, 32, x.1⟩ : Sl).ok w :=
  ⟨.inr ⟨b, 0, _, T, fr, rfl, h, fun i v hv => by rw [Nat.zero_add, List.getElem?_toArray]; exact hv⟩, x.2, Nat.le_refl _, (by decide : (32 : Nat) ≤ 9223372036854775807)⟩
theorem idCmpWlk (x y : Id32) (W : World) : Calls Try.prog 34 #[.agg (idE x).toArray, .agg (idE y).toArray] W fun e w' => e = .returned (VI (cmpA x y)) ∧ ∃ q os', w' = Go.Sort.grow (W.drewN q) os' := by
  refine calls_mk (args := [kA x, kA y]) Try.func34 rfl Try.ntmps34 (by simp) ?_
  refine c_seq ?_; refine c_region ?_; refine l_op (o_boxE (v := kA x) rfl ?_); refine l_op (o_boxE (v := kA y) rfl ?_); refine l_op (o_val r_as ?_); refine l_end ?_; refine c_seq ?_; refine c_still mixed (by kernel_rfl) ?_; refine s_op (r_slA (h := 32) (m := 32) (lv := none) (hv := none) (mv := none) rfl ar29 rfl rfl rfl (fun w => sbn w)) ?_; refine s_op (r_slA (h := 32) (m := 32) (lv := none) (hv := none) (mv := none) rfl ar29 rfl rfl rfl (fun w => sbn w)) ?_; have hs : ((W.alloc (.cells (kA x).cells 29)).alloc (.cells (kA y).cells 29)).drew.heap[W.heap.size]? = some (.cells (idE x).toArray 29 (0, 0)) := by
    have h1 := heap_alloc_old' (W.alloc (.cells (kA x).cells 29)) (.cells (kA y).cells 29) W.heap.size (by simp)
    exact h1.trans (heap_alloc_new' W _)
  have hu : ((W.alloc (.cells (kA x).cells 29)).alloc (.cells (kA y).cells 29)).drew.heap[(W.alloc (.cells (kA x).cells 29)).heap.size]? = some (.cells (idE y).toArray 29 (0, 0)) := heap_alloc_new' _ _
  refine s_call (v := VI (cmpA x y)) Try.func35 rfl rfl rfl (bytesCompare_ret _ ⟨some ⟨W.heap.size, 0, none⟩, 32, 32, x.1⟩ ⟨some ⟨(W.alloc (.cells (kA x).cells 29)).heap.size, 0, none⟩, 32, 32, y.1⟩ (id_slok hs) (id_slok hu)) ?_
  refine s_op (r_as) ?_; refine s_nil ?_; refine c_ret ?_; refine e_ret1 (v := VI (cmpA x y)) Try.results34 rfl ?_
  refine ⟨rfl, 1, #[.cells (kA x).cells 29, .cells (kA y).cells 29], ?_⟩
  rw [Go.Sort.alloc_eq_grow, Go.Sort.alloc_eq_grow, Go.Sort.grow_grow]
  rfl
theorem sortAWlk {w0 w : World} {S : List Nat} {L : List Ch} {i n c : Nat} {a : Option Nat} {l : List Id32} (H : Hp w0 w S L) (hi : L[i]? = some (.own a n c (l.flatMap idE) 29 32)) (hn : l.length = n) (hb : n ≤ 1099511627776) :
    Ret Try.prog 39 [.slice (hd a) n c, .func (.func 34) #[] #[]] w fun v w' => v = .tuple #[] ∧ Hp w0 w' S (L.set i (.own a n c ((sortA l).flatMap idE) 29 32)) :=
  sortK_ret Try.sortA Try.isAgg29 Try.sizeOf29 idE_len (by decide) (fun x v hv => List.all_eq_true.1 (idE_all x) v hv) cmpA swoA totA Try.func34 rfl rfl (fun W x y => idCmpWlk x y W) H hi hn hb
end Go.Proofs.Ytomjbabllcmodaa
namespace Go.Proofs.Ytomjbabllcmodaa
open Go
section
variable {P : Program} {ops : Array Oper} {Q : Exit → Act → World → Prop} {n l : Nat} {K : Act → World → Prop}
theorem rowsIn_round {row : String} {args : Array Value} {w : World} {R : Value → World → Prop} (h : Rows P row args w R) : RowsIn (Fence.wide.inRound l) n P row args w R :=
  fun c cs _ => let ⟨v, w', r, s⟩ := h c cs; ⟨v, w', r, stepsIn_wide.2 s⟩
theorem callsIn_round {f : FuncId} {args : Array Value} {w : World} {R : Ending → World → Prop} (h : Calls P f args w R) : CallsIn (Fence.wide.inRound l) n P f args w R := CallsIn.inRound l (callsIn_wide.2 h)
theorem uponIn_round {o : Oper} {a : Act} {r : Result Next} (h : o.upon P a K Q r) : o.uponIn (Fence.wide.inRound l) n P a K Q r := by
  cases r with
  | ok x w' =>
    cases x <;> simp only [Oper.upon, Oper.uponIn] at h ⊢ <;>
      first
        | exact h
        | exact ⟨fun h => (by cases h), callsIn_round h⟩
        | exact ⟨fun h => (by cases h), rowsIn_round h⟩
        | exact h.elim
  | halt x w' => cases x <;> simp only [Oper.upon, Oper.uponIn] at h ⊢ <;> exact h
/-- an operation is no 'defer'. -/
def Oper.plain (o : Oper) : Bool := match o.op with | .defer _ => false | _ => true
theorem semAt_plain {o : Oper} (h : Oper.plain o = true) (ρ : Operand → Value) : Oper.semAt (some l) ρ o = execOp ρ o := by
  unfold Oper.semAt
  unfold Oper.plain at h
  split
  · rename_i heq; rw [heq] at h; cases h
  · rfl
theorem wpIn_round {o : Oper} {a : Act} {w : World} (hp : Oper.plain o = true) (h : o.wp P a w K Q) : o.wpIn (Fence.wide.inRound l) n P a w K Q := by
  refine ⟨fun _ _ => trivial, ?_⟩
  rw [show (Fence.wide.inRound l).round = some l from rfl, semAt_plain hp]
  exact uponIn_round h
theorem wpList_round {L : Array Oper} (hp : ∀ o ∈ L, Oper.plain o = true) (hQ : ¬ LetsOut Q) : ∀ (is : List Oper) (a : Act) (w : World), (∀ o ∈ is, o ∈ L) → wpList P L Q is a w → wpListIn (Fence.wide.inRound l) n P L Q is a w
  | [], a, w, _, h => h
  | o :: is, a, w, hs, h => by
    unfold wpList at h
    unfold wpListIn
    by_cases hw : Region.wanted o (yielded L a.tmps) = true
    · rw [if_pos hw] at h ⊢
      rcases h with h | h
      · exact wpIn_round (hp o (hs o (List.mem_cons_self ..))) (Oper.wp_mono (fun a w h => wpList_round hp hQ is a w (fun o ho => hs o (List.mem_cons_of_mem _ ho)) h) h)
      · exact absurd h.2 hQ
    · rw [if_neg hw] at h ⊢
      exact ⟨fun _ _ => trivial, wpList_round hp hQ is _ w (fun o ho => hs o (List.mem_cons_of_mem _ ho)) h⟩
def plainAll (L : List Oper) : Bool := L.all Oper.plain
/-- a region that does not draw, in a round. -/
theorem i_region {id : Nat} {L : List Oper} {a : Act} {w : World} (hp : plainAll L = true) (hQ : ¬ LetsOut Q) (h : wpList P L.toArray Q L a w) : (Code.region id L.toArray false).wpIn (Fence.wide.inRound l) n P Q a w :=
  wpIn_region_lit (wpList_round (fun o ho => List.all_eq_true.1 hp o (by simpa using ho)) hQ L a w (fun o ho => by simpa using ho) h)
end
end Go.Proofs.Ytomjbabllcmodaa
namespace Go.Proofs.Ytomjbabllcmodaa
open Go
section
variable {P : Program} {ops : Array Oper} {Q : Exit → Act → World → Prop} {n l m : Nat} {K : Act → World → Prop} {σ : Nat → Value} {w : World}
  {ty : TypeId} {pos : String} {aft : Array Edge} {g : Option (Nat × Bool)} {d : Nat} {rest : List Oper}
theorem uponIn_wide {o : Oper} {a : Act} {r : Result Next} (h : o.upon P a K Q r) : o.uponIn Fence.wide m P a K Q r := by
  cases r with
  | ok x w' =>
    cases x <;> simp only [Oper.upon, Oper.uponIn] at h ⊢ <;>
      first
        | exact h
        | exact ⟨fun h => (by cases h), callsIn_wide.2 h⟩
        | exact ⟨fun h => (by cases h), fun c cs _ => let ⟨v, w', r, s⟩ := h c cs; ⟨v, w', r, stepsIn_wide.2 s⟩⟩
        | exact h.elim
  | halt x w' => cases x <;> simp only [Oper.upon, Oper.uponIn] at h ⊢ <;> exact h
/-- an operation of a list in which 'yield' is called. -/
theorem y_op {op : Op} {dst : Option Tmp} {a : Act} (h : Oper.wp P ⟨dst, op, ty, pos, aft, none⟩ a w (wpListIn Fence.wide m P ops Q rest) Q) : wpListIn Fence.wide m P ops Q (⟨dst, op, ty, pos, aft, none⟩ :: rest) a w := by
  unfold wpListIn
  rw [if_pos (by simp [Region.wanted])]
  exact ⟨fun _ _ => trivial, uponIn_wide h⟩
theorem y_end {y : Code} {a : Act} (h : y.wp P Q a w) : wpListIn Fence.wide m P ops (Exit.then (y.wp P Q) Q) [] a w := h
/-- 'yield' is called. -/
theorem y_yield {x y : Operand} {ats : Array TypeId} {v : Value} {b : Bool} {R : World → Prop} (hx : ev n σ x = .func (.yield l) #[] #[]) (hnf : ∀ f, x ≠ .func f) (hy : ev n σ y = v)
    (hY : YieldAt Fence.wide (m - 1) P l #[v] w fun e W' => e = .returned (.bool b) ∧ R W')
    (h : ∀ W', R W' → wpListIn Fence.wide m P ops Q rest (mk n (up σ d (.bool b))) W') :
    wpListIn Fence.wide m P ops Q (⟨some d, .call ⟨.value x, #[y], ats⟩, ty, pos, aft, none⟩ :: rest) (mk n σ) w := by
  obtain ⟨fn, tmps, assign, body, hrun, hR⟩ := hY
  unfold wpListIn
  rw [if_pos (by simp [Region.wanted])]
  refine ⟨fun _ _ => trivial, ?_⟩
  have e : (execOp (mk n σ).eval ⟨some d, .call ⟨.value x, #[y], ats⟩, ty, pos, aft, none⟩).run P w = .ok (.round l fn tmps assign body) w := by
    rw [mk_evalf]
    cases x with
    | func f => exact absurd rfl (hnf f)
    | _ => simp [execOp, resolve, hx, hy, Deferred.ofValue, invoke, hrun]
  rw [show Fence.wide.round = none from rfl, Oper.semAt_none, e, Oper.uponIn_round]
  refine ⟨fun h => (by cases h), hR.mono fun e W' he => ?_⟩
  obtain ⟨he, hr⟩ := he
  subst he
  show wpListIn Fence.wide m P ops Q rest ((mk n σ).put (some d) (.bool b)) W'
  rw [mk_put]
  exact h W' hr
end
end Go.Proofs.Ytomjbabllcmodaa
