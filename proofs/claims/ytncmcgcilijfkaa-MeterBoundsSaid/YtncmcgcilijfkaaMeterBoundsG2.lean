/- Lemmas for the statement MeterBounds, part 2: rules of operations, walks through functions, plain laws. -/
import Derived.Test.YtncmcgcilijfkaaMeterBoundsG1
namespace Go.Proofs.Ytncmcgcilijfkaa
open Go
set_option maxRecDepth 100000
/-- an operation. -/
structure OpM where
  kind : Int
  who : List UInt8
  k : UInt8
  n : Int
def opE (o : OpM) : List Value := [VI o.kind, .string ⟨o.who.toArray⟩, V8 o.k, VI o.n]
abbrev idB (u : UInt8) : Id32 := ⟨u :: List.replicate 31 (0 : UInt8), rfl⟩
theorem idB_inj {u v : UInt8} (h : idB u = idB v) : u = v := by
  have := congrArg Subtype.val h
  exact (List.cons.inj this).1
def lightM (l : List OpM) (m : Nat) : Bool := decide (l.length ≤ m ∧ ∀ e ∈ l, e.who.length ≤ 100)
theorem lightM_iff (l : List OpM) (m : Nat) : lightM l m = true ↔ l.length ≤ m ∧ ∀ e ∈ l, e.who.length ≤ 100 := by simp [lightM]
def sumL : List Int → Int
  | [] => 0
  | x :: l => x + sumL l
theorem sumL_app (a b : List Int) : sumL (a ++ b) = sumL a + sumL b := by
  induction a with
  | nil => simp [sumL]
  | cons x a ih => rw [List.cons_append, sumL, sumL, ih]; omega
theorem sumL_nn : ∀ {l : List Int}, (∀ x ∈ l, 0 ≤ x) → 0 ≤ sumL l
  | [], _ => Int.le_refl _
  | x :: l, h => by
    have h1 := h x (List.mem_cons_self ..)
    have h2 := sumL_nn (fun y hy => h y (List.mem_cons_of_mem x hy))
    rw [sumL]; omega
theorem sumL_take {l : List Int} (h : ∀ x ∈ l, 0 ≤ x) (k : Nat) : 0 ≤ sumL (l.take k) ∧ sumL (l.take k) ≤ sumL l := by
  have h1 := sumL_nn (fun x hx => h x (List.mem_of_mem_take hx) : ∀ x ∈ l.take k, 0 ≤ x)
  have h2 := sumL_nn (fun x hx => h x (List.mem_of_mem_drop hx) : ∀ x ∈ l.drop k, 0 ≤ x)
  have h3 := sumL_app (l.take k) (l.drop k)
  rw [List.take_append_drop] at h3
  omega
theorem sumL_succ (l : List Int) (k : Nat) (h : k < l.length) : sumL (l.take (k + 1)) = sumL (l.take k) + l.getD k 0 := by
  rw [List.take_add_one, List.getElem?_eq_getElem h, Option.toList, sumL_app, List.getD_eq_getElem?_getD, List.getElem?_eq_getElem h]
  simp [sumL]
theorem sumL_set (l : List Int) (k : Nat) (x : Int) (h : k < l.length) : sumL (l.set k x) = sumL l - l.getD k 0 + x := by
  induction l generalizing k with
  | nil => simp at h
  | cons y l ih =>
    cases k with
    | zero => simp [sumL]; omega
    | succ k =>
      have := ih k (by simpa using h)
      rw [List.set_cons_succ, sumL, sumL, this, List.getD_cons_succ]; omega
theorem getD_set {α : Type} (l : List α) (i j : Nat) (x z : α) (h : i < l.length) : (l.set i x).getD j z = if i = j then x else l.getD j z := by
  rw [List.getD_eq_getElem?_getD, List.getElem?_set]
  by_cases e : i = j
  · rw [if_pos e, if_pos h, if_pos e]; rfl
  · rw [if_neg e, if_neg e, List.getD_eq_getElem?_getD]
theorem look_put (G : List (MKey × Int)) (p : MKey × Int) (k : MKey) : look (p :: G) k = if k = p.1 then some p.2 else look G k := rfl
theorem look_drop {X : MM} (h : X.Inv) (k j : MKey) : look (dropG k X.G) j = if j = k then none else look X.G j := by
  rw [← fdel_look k h.nd]; rfl
theorem addB_look {X : MM} {s : List UInt8} {k : Id32} {n : Int} (h : addB X s k n = true) : ¬ n < 0 ∧ look X.G (s, k) = none ∧ ¬ (X.acc s).quota - (X.acc s).used < n := by
  simpa only [addB, Bool.and_eq_true, decide_eq_true_eq, Option.isNone_iff_eq_none] using h
theorem addX_T {X : MM} {s : List UInt8} {k : Id32} {n : Int} (h : addB X s k n = true) : addX X s k n = ⟨((s, k), n) :: X.G, fput X.A s ⟨(X.acc s).quota, (X.acc s).used + n, (X.acc s).things + 1⟩⟩ := by rw [addX, if_pos h]
theorem addX_F {X : MM} {s : List UInt8} {k : Id32} {n : Int} (h : addB X s k n = false) : addX X s k n = X := by rw [addX, if_neg (by rw [h]; decide)]
theorem dropX_T {X : MM} {s : List UInt8} {k : Id32} (h : (look X.G (s, k)).isSome = true) : dropX X s k = ⟨dropG (s, k) X.G, fput X.A s ⟨(X.acc s).quota, (X.acc s).used - (look X.G (s, k)).getD 0, (X.acc s).things - 1⟩⟩ := by rw [dropX, if_pos h]
theorem dropX_F {X : MM} {s : List UInt8} {k : Id32} (h : (look X.G (s, k)).isSome = false) : dropX X s k = X := by rw [dropX, if_neg (by rw [h]; decide)]
theorem dropE_eq (X : MM) (s : List UInt8) (k : Id32) : decide (dropE X s k = 0) = (look X.G (s, k)).isSome := by
  rw [dropE]; cases (look X.G (s, k)).isSome <;> rfl
structure MBs (X : MM) (most : Int) (hs : List Int) (bs : List Bool) : Prop where
  lh : hs.length = 256
  lb : bs.length = 256
  mo : (X.acc [97]).quota ≤ most ∧ 0 ≤ most ∧ most ≤ 9223372036854775807
  us : (X.acc [97]).used ≤ most
  sm : sumL hs = (X.acc [97]).used
  hv : ∀ u : UInt8, hs.getD u.toNat 0 = (look X.G ([97], idB u)).getD 0
  bv : ∀ u : UInt8, bs.getD u.toNat false = (look X.G ([97], idB u)).isSome
theorem getD_rep {α : Type} (n j : Nat) (x : α) : (List.replicate n x).getD j x = x := by
  rw [List.getD_eq_getElem?_getD, List.getElem?_replicate]; split <;> rfl
theorem MBs.mt : MBs MM.mt 0 (List.replicate 256 (0 : Int)) (List.replicate 256 false) :=
  ⟨by rw [List.length_replicate], by rw [List.length_replicate], by decide, by decide, by decide +kernel, fun u => getD_rep .., fun u => getD_rep ..⟩
theorem MBs.nn {X : MM} {most : Int} {hs : List Int} {bs : List Bool} (h : MBs X most hs bs) (hX : X.Inv) : ∀ x ∈ hs, 0 ≤ x := by
  intro x hx
  obtain ⟨j, hj, e⟩ := List.getElem_of_mem hx
  have hj' := hj
  rw [h.lh] at hj'
  have h1 := h.hv (UInt8.ofNat j)
  have e1 : (UInt8.ofNat j).toNat = j := by rw [UInt8.toNat_ofNat']; omega
  rw [e1, List.getD_eq_getElem?_getD, List.getElem?_eq_getElem hj, Option.getD_some, e] at h1
  rw [h1]
  exact (hX.v ([97], idB (UInt8.ofNat j))).1
theorem toNat_ne {u v : UInt8} (h : u ≠ v) : u.toNat ≠ v.toNat := fun e => h (UInt8.toNat_inj.1 e)
theorem idB_eq (s : List UInt8) (u v : UInt8) : ((s, idB u) : MKey) = (s, idB v) ↔ u = v := ⟨fun h => idB_inj (congrArg Prod.snd h), fun h => by rw [h]⟩
theorem MBs.addT {X : MM} {most : Int} {hs : List Int} {bs : List Bool} (h : MBs X most hs bs) {u : UInt8} {n : Int} (hb : addB X [97] (idB u) n = true) : MBs (addX X [97] (idB u) n) most (hs.set u.toNat n) (bs.set u.toNat true) := by
  obtain ⟨h1, h2, h3⟩ := addB_look hb
  have hu := u.toNat_lt
  have e0 := h.hv u
  rw [h2] at e0
  have hlh := h.lh
  have hlb := h.lb
  have hmo := h.mo
  rw [addX_T hb]
  have ha := acc_put (((([97], idB u) : MKey), n) :: X.G) X.A [97] [97] ⟨(X.acc [97]).quota, (X.acc [97]).used + n, (X.acc [97]).things + 1⟩
  rw [if_pos rfl] at ha
  refine ⟨by rw [List.length_set, hlh], by rw [List.length_set, hlb], by rw [ha]; exact hmo, by rw [ha]; dsimp only; omega, ?_, fun v => ?_, fun v => ?_⟩
  · rw [sumL_set _ _ _ (by omega), e0, h.sm, ha]; simp only [Option.getD_none]; omega
  · rw [getD_set _ _ _ _ _ (by omega), look_put]
    by_cases e : u = v
    · rw [if_pos (congrArg UInt8.toNat e), if_pos ((idB_eq _ _ _).2 e.symm)]; rfl
    · rw [if_neg (toNat_ne e), if_neg (fun e2 => e ((idB_eq _ _ _).1 e2).symm)]; exact h.hv v
  · rw [getD_set _ _ _ _ _ (by omega), look_put]
    by_cases e : u = v
    · rw [if_pos (congrArg UInt8.toNat e), if_pos ((idB_eq _ _ _).2 e.symm)]; rfl
    · rw [if_neg (toNat_ne e), if_neg (fun e2 => e ((idB_eq _ _ _).1 e2).symm)]; exact h.bv v
theorem MBs.addF {X : MM} {most : Int} {hs : List Int} {bs : List Bool} (h : MBs X most hs bs) {u : UInt8} {n : Int} (hb : addB X [97] (idB u) n = false) : MBs (addX X [97] (idB u) n) most hs bs := by
  rw [addX_F hb]; exact h
theorem MBs.drop {X : MM} {most : Int} {hs : List Int} {bs : List Bool} (h : MBs X most hs bs) (hX : X.Inv) (u : UInt8) : MBs (dropX X [97] (idB u)) most (hs.set u.toNat 0) (bs.set u.toNat false) := by
  have hu := u.toNat_lt
  have e0 := h.hv u
  have hlh := h.lh
  have hlb := h.lb
  have hmo := h.mo
  have hus := h.us
  have hv := hX.v ([97], idB u)
  cases hb : (look X.G ([97], idB u)).isSome with
  | true =>
    rw [dropX_T hb]
    have ha := acc_put (dropG ([97], idB u) X.G) X.A [97] [97] ⟨(X.acc [97]).quota, (X.acc [97]).used - (look X.G ([97], idB u)).getD 0, (X.acc [97]).things - 1⟩
    rw [if_pos rfl] at ha
    refine ⟨by rw [List.length_set, hlh], by rw [List.length_set, hlb], by rw [ha]; exact hmo, by rw [ha]; dsimp only; omega, ?_, fun v => ?_, fun v => ?_⟩
    · rw [sumL_set _ _ _ (by omega), e0, h.sm, ha]; dsimp only; omega
    · rw [getD_set _ _ _ _ _ (by omega), look_drop hX]
      by_cases e : u = v
      · rw [if_pos (congrArg UInt8.toNat e), if_pos ((idB_eq _ _ _).2 e.symm)]; rfl
      · rw [if_neg (toNat_ne e), if_neg (fun e2 => e ((idB_eq _ _ _).1 e2).symm)]; exact h.hv v
    · rw [getD_set _ _ _ _ _ (by omega), look_drop hX]
      by_cases e : u = v
      · rw [if_pos (congrArg UInt8.toNat e), if_pos ((idB_eq _ _ _).2 e.symm)]; rfl
      · rw [if_neg (toNat_ne e), if_neg (fun e2 => e ((idB_eq _ _ _).1 e2).symm)]; exact h.bv v
  | false =>
    have hn : look X.G ([97], idB u) = none := by cases hh : look X.G ([97], idB u) with
      | none => rfl
      | some _ => rw [hh] at hb; cases hb
    rw [dropX_F hb]
    rw [hn] at e0
    refine ⟨by rw [List.length_set, hlh], by rw [List.length_set, hlb], hmo, hus, ?_, fun v => ?_, fun v => ?_⟩
    · rw [sumL_set _ _ _ (by omega), e0, h.sm]; simp only [Option.getD_none]; omega
    · rw [getD_set _ _ _ _ _ (by omega)]
      by_cases e : u = v
      · rw [if_pos (congrArg UInt8.toNat e), ← e, hn]; rfl
      · rw [if_neg (toNat_ne e)]; exact h.hv v
    · rw [getD_set _ _ _ _ _ (by omega)]
      by_cases e : u = v
      · rw [if_pos (congrArg UInt8.toNat e), ← e, hn]; rfl
      · rw [if_neg (toNat_ne e)]; exact h.bv v
theorem MBs.quota {X : MM} {most : Int} {hs : List Int} {bs : List Bool} (h : MBs X most hs bs) (n : Int) (hn : n ≤ 9223372036854775807) : MBs (quotaX X [97] n) (if most < n then n else most) hs bs := by
  have hmo := h.mo
  have hus := h.us
  have ha := acc_put X.G X.A [97] [97] ⟨if n < 0 then 0 else n, (X.acc [97]).used, (X.acc [97]).things⟩
  rw [if_pos rfl] at ha
  have ha' : (quotaX X [97] n).acc [97] = ⟨if n < 0 then 0 else n, (X.acc [97]).used, (X.acc [97]).things⟩ := ha
  refine ⟨h.lh, h.lb, ?_, ?_, ?_, h.hv, h.bv⟩
  · rw [ha']; dsimp only; refine ⟨?_, ?_, ?_⟩ <;> (repeat' split) <;> omega
  · rw [ha']; dsimp only; split <;> omega
  · rw [ha']; exact h.sm
structure Apt (X Y : MM) : Prop where
  l : ∀ k, look X.G ([97], k) = look Y.G ([97], k)
  a : X.acc [97] = Y.acc [97]
theorem Apt.mt : Apt MM.mt MM.mt := ⟨fun _ => rfl, rfl⟩
theorem Apt.addB {X Y : MM} (h : Apt X Y) (k : Id32) (n : Int) : addB X [97] k n = addB Y [97] k n := by rw [Proofs.Ytncmcgcilijfkaa.addB, Proofs.Ytncmcgcilijfkaa.addB, h.l k, h.a]
theorem Apt.addE {X Y : MM} (h : Apt X Y) (k : Id32) (n : Int) : addE X [97] k n = addE Y [97] k n := by rw [Proofs.Ytncmcgcilijfkaa.addE, Proofs.Ytncmcgcilijfkaa.addE, h.l k, h.a]
theorem Apt.dropE {X Y : MM} (h : Apt X Y) (k : Id32) : dropE X [97] k = dropE Y [97] k := by rw [Proofs.Ytncmcgcilijfkaa.dropE, Proofs.Ytncmcgcilijfkaa.dropE, h.l k]
theorem Apt.add {X Y : MM} (h : Apt X Y) (k : Id32) (n : Int) : Apt (addX X [97] k n) (addX Y [97] k n) := by
  have hB := h.addB k n
  cases hb : Proofs.Ytncmcgcilijfkaa.addB Y [97] k n with
  | false => rw [hb] at hB; rw [addX_F hb, addX_F hB]; exact h
  | true =>
    rw [hb] at hB
    rw [addX_T hb, addX_T hB]
    refine ⟨fun j => ?_, ?_⟩
    · rw [look_put, look_put, h.l j]
    · rw [acc_put, acc_put, if_pos rfl, if_pos rfl, h.a]
theorem Apt.drop {X Y : MM} (h : Apt X Y) (hX : X.Inv) (hY : Y.Inv) (k : Id32) : Apt (dropX X [97] k) (dropX Y [97] k) := by
  have hB := congrArg Option.isSome (h.l k)
  cases hb : (look Y.G ([97], k)).isSome with
  | false => rw [hb] at hB; rw [dropX_F hb, dropX_F hB]; exact h
  | true =>
    rw [hb] at hB
    rw [dropX_T hb, dropX_T hB]
    refine ⟨fun j => ?_, ?_⟩
    · rw [look_drop hX, look_drop hY, h.l j]
    · rw [acc_put, acc_put, if_pos rfl, if_pos rfl, h.a, h.l k]
theorem Apt.quota {X Y : MM} (h : Apt X Y) (n : Int) : Apt (quotaX X [97] n) (quotaX Y [97] n) := by
  refine ⟨h.l, ?_⟩
  rw [quotaX, quotaX, acc_put, acc_put, if_pos rfl, if_pos rfl, h.a]
end Go.Proofs.Ytncmcgcilijfkaa
namespace Go.Proofs.Ytncmcgcilijfkaa
open Go Go.ChangeShapes Go.WideShapes Go.ChangeAt Go.RowKit Go.Deep Go.ChangeMaps
set_option maxRecDepth 100000
section
variable {H : Type} {enc : TypeId × Value → H} {W : World} {base : Nat} {spare : Nat → Bool} {held : Bool}
theorem Gl.ok_nil {α : Type} {enc : α → List Value} {sz : Nat} (w : World) : (⟨none, 0, 0, []⟩ : Gl α).ok enc sz w := ⟨.inl rfl, rfl, Nat.le_refl _, Nat.zero_le _, fun c hc => (by cases hc)⟩
theorem open_u8v {fuel : Nat} {cs : List Value} {x : DataW H × List MemPlace} {t : TypeId} (ht : Try.prog.underlying t = some (.int .u8)) (h : DataW.trod enc Try.prog W base spare held fuel t cs = some x) : ∃ u : UInt8, cs = [V8 u] := by
  obtain ⟨n, rfl, _, hw⟩ := DataW.trod_int ht h
  exact ⟨byteOf (.int .u8 n), by rw [byteOf_V8 hw]⟩
theorem open_rowsP {P : Program} {α : Type} [Inhabited α] {p : α → Prop} {en : α → List Value} {sz : Nat} {t e : TypeId} {fuel : Nat} {cs : List Value} {x : DataW H × List MemPlace} (ht : P.underlying t = some (.slice e)) (hsz : P.cellsOf e = sz) (hz : 0 < sz)
    (hrow : ∀ (fuel : Nat) (cs : List Value) (x : DataW H × List MemPlace), DataW.trod enc P W base spare held fuel e cs = some x → ∃ c : α, cs = en c ∧ (en c).length = sz ∧ p c)
    (h : DataW.trod enc P W base spare held fuel t cs = some x) : ∃ g : Gl α, cs = [g.v] ∧ g.ok en sz W ∧ ∀ c ∈ g.l, p c := by
  rcases DataW.trod_slice ht h with ⟨rfl, _⟩ | ⟨a, len, cap, elems, rest, n, _, rfl, _, _, hl, hm, hlen, hel, _, _⟩
  · exact ⟨⟨none, 0, 0, []⟩, rfl, Gl.ok_nil _, fun _ h => by cases h⟩
  · have hs : ∀ i, i < len → ∃ c : α, (∀ j v, (en c)[j]? = some v → W.cell? (a.add (i * sz + j)) = some v) ∧ (en c).length = sz ∧ p c := by
      intro i hi
      have h1 := hel i hi
      rw [List.getElem?_eq_getElem (by omega), hsz] at h1
      obtain ⟨cs, hcs, htr⟩ := Option.bind_eq_some_iff.1 h1
      obtain ⟨c, rfl, hc⟩ := hrow _ _ _ htr
      refine ⟨c, fun j v hv => ?_, hc⟩
      have hlt : j < sz := by rw [← hc.1]; exact (List.getElem?_eq_some_iff.1 hv).1
      obtain ⟨_, _, hq⟩ := World.cells?_some hcs
      have := hq j hlt
      rw [hv, Addr.add_add] at this
      exact this
    obtain ⟨F, hF⟩ := choose_lt (α := α) (p := fun i c => (∀ j v, (en c)[j]? = some v → W.cell? (a.add (i * sz + j)) = some v) ∧ (en c).length = sz ∧ p c) hs
    have hsz' : ∀ c ∈ (List.range len).map F, (en c).length = sz := by
      intro c hc
      simp only [List.mem_map, List.mem_range] at hc
      obtain ⟨i, hi, rfl⟩ := hc
      exact (hF i hi).2.1
    have hall : ∀ c ∈ (List.range len).map F, p c := by
      intro c hc
      simp only [List.mem_map, List.mem_range] at hc
      obtain ⟨i, hi, rfl⟩ := hc
      exact (hF i hi).2.2
    refine ⟨⟨some a, len, cap, (List.range len).map F⟩, rfl, ⟨rd_of_cells fun i v hv => ?_, by simp, hl, hm, hsz'⟩, hall⟩
    have hlt : i < len * sz := by
      have := (List.getElem?_eq_some_iff.1 hv).1
      rw [flat_len hsz'] at this; simpa using this
    have hq : i / sz < len := Nat.div_lt_of_lt_mul (by rw [Nat.mul_comm]; exact hlt)
    have hk : ((List.range len).map F)[i / sz]? = some (F (i / sz)) := by simp [hq]
    have hrow' := flat_at hsz' hk
    have hv' : (en (F (i / sz)))[i % sz]? = some v := by
      rw [← hrow', List.getElem?_take_of_lt (Nat.mod_lt _ hz), List.getElem?_drop, Nat.div_add_mod']
      exact hv
    have := (hF (i / sz) hq).1 _ _ hv'
    rwa [Nat.div_add_mod'] at this
instance : Inhabited OpM := ⟨⟨0, [], 0, 0⟩⟩
theorem cellsOpM : Try.prog.cellsOf 30 = 4 := by kernel_rfl
theorem trod_opm (fuel : Nat) (cs : List Value) (x : DataW H × List MemPlace) (h : DataW.trod enc Try.prog W base spare held fuel 30 cs = some x) :
    ∃ c : OpM, cs = opE c ∧ (opE c).length = 4 ∧ c.n ≤ 9223372036854775807 := by
  obtain ⟨xs, n, _, _, hl, hx, hi⟩ := DataW.trod_struct Try.underlying30 h
  have hs : ∀ i, i < 4 → ∃ y, xs[i]? = some y := fun i hi => ⟨_, List.getElem?_eq_getElem (by rw [hx]; exact hi)⟩
  obtain ⟨y0, e0⟩ := hs 0 (by decide)
  obtain ⟨y1, e1⟩ := hs 1 (by decide)
  obtain ⟨y2, e2⟩ := hs 2 (by decide)
  obtain ⟨y3, e3⟩ := hs 3 (by decide)
  have h0 := (hi 0 _ rfl).trans e0
  have h1 := (hi 1 _ rfl).trans e1
  have h2 := (hi 2 _ rfl).trans e2
  have h3 := (hi 3 _ rfl).trans e3
  obtain ⟨a0, q0, _, w0⟩ := DataW.trod_int (t := 3) (k := .i64) (by kernel_rfl) h0
  obtain ⟨a1, q1, _, _⟩ := DataW.trod_string (t := 9) (by kernel_rfl) h1
  obtain ⟨a2, q2⟩ := open_u8v (t := 5) (by kernel_rfl) h2
  obtain ⟨a3, q3, _, w3⟩ := DataW.trod_int (t := 2) (k := .i64) (by kernel_rfl) h3
  have f1 : Try.prog.cellsOf 5 = 1 := by kernel_rfl
  have f2 : Try.prog.cellsOf 9 = 1 := by kernel_rfl
  have f3 : Try.prog.cellsOf 3 = 1 := by kernel_rfl
  have f4 : Try.prog.cellsOf 2 = 1 := by kernel_rfl
  replace q0 : (cs.drop 0).take (Try.prog.cellsOf 3) = _ := q0
  rw [f3] at q0
  replace q1 : (cs.drop 1).take (Try.prog.cellsOf 9) = _ := q1
  rw [f2] at q1
  replace q2 : (cs.drop 2).take (Try.prog.cellsOf 5) = _ := q2
  rw [f1] at q2
  replace q3 : (cs.drop 3).take (Try.prog.cellsOf 2) = _ := q3
  rw [f4] at q3
  rw [cellsOpM] at hl
  have s : ∀ k v, (cs.drop k).take 1 = [v] → cs.drop k = v :: cs.drop (k + 1) := fun k v h => by
    have := List.take_append_drop 1 (cs.drop k)
    rw [h, List.drop_drop] at this
    exact this.symm
  refine ⟨⟨a0, a1.data.toList, a2, a3⟩, ?_, rfl, (bounds_i64 w3).2⟩
  have z : cs.drop 0 = [VI a0, .string a1, V8 a2, VI a3] := by
    rw [s 0 _ q0, s (0 + 1) _ q1, s (0 + 1 + 1) _ q2, s (0 + 1 + 1 + 1) _ q3, List.drop_of_length_le (by omega)]
  rw [List.drop_zero] at z
  exact z
theorem open_opms {base0 : Nat} {v : Value} {d : DataW H} {p : List MemPlace} (hval : Value.okWide Try.prog W .any base0 22 v) (h : DataW.Trod enc Try.prog W base spare held 22 v d p) :
    ∃ g : Gl OpM, v = g.v ∧ g.ok opE 4 W ∧ ∀ c ∈ g.l, c.n ≤ 9223372036854775807 := by
  obtain ⟨a, len, cap, rfl⟩ := okWide_slice Try.underlying22 hval
  obtain ⟨fuel, hf⟩ := h
  obtain ⟨g, hg, hok⟩ := open_rowsP Try.underlying22 cellsOpM (by decide) trod_opm hf
  refine ⟨g, ?_, hok⟩
  simpa [Value.cells] using hg
end
end Go.Proofs.Ytncmcgcilijfkaa
namespace Go.Proofs.Ytncmcgcilijfkaa
open Go
set_option maxRecDepth 100000
theorem place_ret (w : World) (k n : Int) (hn : 1 ≤ n) (hm : n ≤ 4611686018427387904) : Ret Try.prog 16 [VI k, VI n] w fun v w' => ∃ m : Nat, v = VI (m : Int) ∧ (m : Int) < n ∧ w' = w := by
  refine ret_mk Try.func16 rfl Try.ntmps16 (by simp) ?_
  have hb := tmod_lt k n (by omega)
  obtain ⟨r, hr⟩ : ∃ r, k.tmod n = r := ⟨_, rfl⟩
  rw [hr] at hb
  repeat refine c_seq ?_
  refine c_region ?_
  refine l_op (o_as ?_)
  first | refine l_end ?_ | refine l_nil ?_
  repeat refine c_seq ?_
  refine c_region ?_
  refine l_op (o_mv ?_)
  refine l_op (o_bin rfl rfl (fun _ => b_lssB false (decide_eq_false (by omega))) ?_)
  first | refine l_end ?_ | refine l_nil ?_
  repeat refine c_seq ?_
  refine c_no rfl ?_
  refine c_skip ?_
  repeat refine c_seq ?_
  refine c_region ?_
  refine l_op (o_mv ?_)
  refine l_op (o_mv ?_)
  refine l_op (o_bin (v := VI r) rfl rfl (fun _ => by rw [← hr]; exact b_remT (by omega)) ?_)
  refine l_op (o_as ?_)
  first | refine l_end ?_ | refine l_nil ?_
  by_cases h0 : r < 0
  · skip
    repeat refine c_seq ?_
    refine c_region ?_
    refine l_op (o_mv ?_)
    refine l_op (o_bin rfl rfl (fun _ => b_lssB true (decide_eq_true h0)) ?_)
    first | refine l_end ?_ | refine l_nil ?_
    repeat refine c_seq ?_
    refine c_yes rfl ?_
    repeat refine c_seq ?_
    refine c_region ?_
    refine l_op (o_mv ?_)
    refine l_op (o_mv ?_)
    refine l_op (o_bin rfl rfl (fun _ => b_add (by omega) (by omega)) ?_)
    refine l_op (o_as ?_)
    first | refine l_end ?_ | refine l_nil ?_
    repeat refine c_seq ?_
    refine c_region ?_
    refine l_op (o_mv ?_)
    refine l_op (o_as ?_)
    first | refine l_end ?_ | refine l_nil ?_
    refine c_ret (e_ret1 (v := VI ((r + n).toNat : Int)) Try.results16 ?_ ⟨_, rfl, (r + n).toNat, rfl, by omega, rfl⟩)
    have e : ((r + n).toNat : Int) = r + n := by omega
    rw [e]; rfl
  · skip
    repeat refine c_seq ?_
    refine c_region ?_
    refine l_op (o_mv ?_)
    refine l_op (o_bin rfl rfl (fun _ => b_lssB false (decide_eq_false h0)) ?_)
    first | refine l_end ?_ | refine l_nil ?_
    repeat refine c_seq ?_
    refine c_no rfl ?_
    refine c_skip ?_
    repeat refine c_seq ?_
    refine c_region ?_
    refine l_op (o_mv ?_)
    refine l_op (o_as ?_)
    first | refine l_end ?_ | refine l_nil ?_
    refine c_ret (e_ret1 (v := VI (r.toNat : Int)) Try.results16 ?_ ⟨_, rfl, r.toNat, rfl, by omega, rfl⟩)
    have e : (r.toNat : Int) = r := by omega
    rw [e]; rfl
end Go.Proofs.Ytncmcgcilijfkaa
namespace Go.Proofs.Ytncmcgcilijfkaa
open Go
set_option maxRecDepth 100000
theorem lightM_ret (w0 : World) (g : Gl OpM) (hg : g.ok opE 4 w0) (m : Nat) (_hm : m ≤ 65536) :
    Ret Try.prog 14 [g.v, VI (m : Int)] w0 fun v w' => v = .bool (lightM g.l m) ∧ Hp w0 w' [] [] := by
  refine ret_mk Try.func14 rfl Try.ntmps14 (by simp) ?_
  have H := Hp.refl w0 []
  have hgl := hg.ln
  have hge := hg.le
  have hgx := hg.mx
  have hmL : maxLen = 9223372036854775807 := rfl
  repeat refine c_seq ?_
  refine c_region ?_
  refine l_op (o_val (r_as) ?_)
  first | refine l_end ?_ | refine l_nil ?_
  repeat refine c_seq ?_
  refine c_region ?_
  refine l_op (o_val (r_mv) ?_)
  refine l_op (o_val (r_lens el22 rfl) ?_)
  refine l_op (o_val (r_mv) ?_)
  refine l_op (o_val (r_bin (a := (g.len : Int)) (b := (m : Int)) rfl rfl (fun _ => b_gtr)) ?_)
  first | refine l_end ?_ | refine l_nil ?_
  by_cases hc1 : (m : Int) < (g.len : Int)
  ·
   repeat refine c_seq ?_
   refine c_yes (by exact congrArg Value.bool (decide_eq_true hc1)) ?_
   repeat refine c_seq ?_
   refine c_region ?_
   refine l_op (o_val (r_as) ?_)
   first | refine l_end ?_ | refine l_nil ?_
   refine c_ret ?_
   try dsimp only [Exit.then, Exit.inBlock]
   refine e_ret1 (v := .bool false) Try.results14 rfl ?_
   refine ⟨_, rfl, ?_⟩
   refine ⟨?_, H⟩
   have e : lightM g.l m = false := Bool.eq_false_iff.2 fun h => by
     have h2 := ((lightM_iff _ _).1 h).1
     omega
   rw [e]
  ·
   repeat refine c_seq ?_
   refine c_no (by exact congrArg Value.bool (decide_eq_false hc1)) ?_
   refine c_skip ?_
   repeat refine c_seq ?_
   refine c_region ?_
   refine l_op (o_val (r_as) ?_)
   first | refine l_end ?_ | refine l_nil ?_
   repeat refine c_seq ?_
   refine c_block ?_
   repeat refine c_seq ?_
   refine c_loop (fun (i : Nat) => [(0, g.v), (5, VI (i : Int))])
     (fun (i : Nat) w => (i ≤ g.len ∧ ∀ (j : Nat) (x : OpM), j < i → g.l[j]? = some x → x.who.length ≤ 100) ∧ Hp w0 w [] ([]))
     (fun (i : Nat) => g.len - i) 0 ⟨rfl, rfl, trivial⟩ ⟨⟨Nat.zero_le _, fun j x hj => absurd hj (by omega)⟩, H⟩ ?_
   clear H
   rintro i τ w ⟨⟨hi, hall⟩, H⟩
   repeat refine c_seq ?_
   refine c_region ?_
   refine l_op (o_val (r_mv) ?_)
   refine l_op (o_val (r_mv) ?_)
   refine l_op (o_val (r_lens el22 rfl) ?_)
   refine l_op (o_val (r_bin (a := (i : Int)) (b := (g.len : Int)) rfl rfl (fun _ => b_lss)) ?_)
   first | refine l_end ?_ | refine l_nil ?_
   by_cases hc2 : (i : Int) < (g.len : Int)
   ·
    repeat refine c_seq ?_
    refine c_yes (by exact congrArg Value.bool (decide_eq_true hc2)) ?_
    refine c_skip ?_
    repeat refine c_seq ?_
    refine c_block ?_
    repeat refine c_seq ?_
    refine c_region ?_
    refine l_op (o_val (r_mv) ?_)
    refine l_op (o_val (r_mv) ?_)
    have ah5 := ((hg.up H)).addr (by decide) (by first | omega | (dsimp only; omega))
    obtain ⟨ab3, ao4, ah5⟩ := ah5
    refine l_op (o_val (r_isN i rfl rfl el22 ah5 (by omega) (by (try simp only [Sl.cut]); omega)) ?_)
    refine l_op (o_val (r_fa rfl fo30_1) ?_)
    have he7 : ∃ c, g.l[i]? = some c := ⟨_, List.getElem?_eq_getElem (by have := ((hg.up H)).ln; (try dsimp only at this ⊢); omega)⟩
    obtain ⟨e6, he7⟩ := he7
    have hez8 := ((hg.up H)).sz e6 (List.mem_of_getElem? he7)
    refine l_op (o_val (r_ldFld (v := .string ⟨(e6.who).toArray⟩) (s := g) (k := i) (off := 1) (hg.up H) ah5 rfl ct9 he7 (by decide) rfl) ?_)
    refine l_op (o_val (r_lenstr (s := ⟨(e6.who).toArray⟩) Try.underlying9 rfl) ?_)
    refine l_op (o_val (r_bin (a := ((e6.who).length : Int)) (b := 100) rfl rfl (fun _ => b_gtr)) ?_)
    first | refine l_end ?_ | refine l_nil ?_
    by_cases hc9 : 100 < ((e6.who).length : Int)
    ·
     repeat refine c_seq ?_
     refine c_yes (by exact congrArg Value.bool (decide_eq_true hc9)) ?_
     repeat refine c_seq ?_
     refine c_region ?_
     refine l_op (o_val (r_as) ?_)
     first | refine l_end ?_ | refine l_nil ?_
     refine c_ret ?_
     try dsimp only [Exit.then, Exit.inBlock]
     refine e_ret1 (v := .bool false) Try.results14 rfl ?_
     refine ⟨_, rfl, ?_⟩
     refine ⟨?_, H⟩
     have e : lightM g.l m = false := Bool.eq_false_iff.2 fun h => by
       have h2 := ((lightM_iff _ _).1 h).2 _ (List.mem_of_getElem? he7)
       omega
     rw [e]
    ·
     repeat refine c_seq ?_
     refine c_no (by exact congrArg Value.bool (decide_eq_false hc9)) ?_
     refine c_skip ?_
     repeat refine c_seq ?_
     refine c_region ?_
     refine l_op (o_val (r_mv) ?_)
     refine l_op (o_val (r_bin (a := (i : Int)) (b := 1) rfl rfl (fun _ => b_add (by omega) (by omega))) ?_)
     refine l_op (o_val (r_as) ?_)
     first | refine l_end ?_ | refine l_nil ?_
     refine round_end (i + 1) ?_ ?_ ?_
     · exact ⟨rfl, show VI ((i : Int) + 1) = VI ((i + 1 : Nat) : Int) from congrArg VI (by omega), trivial⟩
     · refine ⟨?_, ?_⟩
       · try dsimp only
         exact ⟨by omega, fun j x hj hjx => by
           by_cases hji : j < i
           · exact hall j x hji hjx
           · have e : j = i := by omega
             rw [e, he7] at hjx
             cases hjx
             omega⟩
       · exact H
     · show g.len - (i + 1 : Nat) < g.len - i; omega
   ·
    repeat refine c_seq ?_
    refine c_no (by exact congrArg Value.bool (decide_eq_false hc2)) ?_
    refine c_exit ?_
    repeat refine c_seq ?_
    refine c_region ?_
    refine l_op (o_val (r_as) ?_)
    first | refine l_end ?_ | refine l_nil ?_
    refine c_ret ?_
    try dsimp only [Exit.then, Exit.inBlock]
    refine e_ret1 (v := .bool true) Try.results14 rfl ?_
    refine ⟨_, rfl, ?_⟩
    refine ⟨?_, H⟩
    rw [(lightM_iff _ _).2 ⟨by omega, fun x hx => by
      obtain ⟨j, hj⟩ := List.getElem?_of_mem hx
      exact hall j x (by have := (List.getElem?_eq_some_iff.1 hj).1; omega) hj⟩]
theorem begunM_ret (w0 : World) :
    Ret Try.prog 13 [] w0 fun v w' => v = .bool true ∧ Hp w0 w' [] [] := by
  refine ret_mk Try.func13 rfl Try.ntmps13 (by simp) ?_
  have H := Hp.refl w0 []
  have hG0 : MW.mt.X.G.length = 0 := rfl
  repeat refine c_seq ?_
  refine c_region ?_
  refine l_op (o_val (r_as) ?_)
  first | refine l_end ?_ | refine l_nil ?_
  repeat refine c_seq ?_
  refine c_region ?_
  refine l_op (o_callR Try.func15 rfl rfl rfl (mnew_ret _) ?_)
  rintro _ w ⟨nb1, nb2, nb3, rfl, Hc⟩
  replace H : Hp _ w _ ([.obj nb2 (mobj kT MW.mt.Mh MW.mt.c1), .obj nb3 (mobj kS MW.mt.Ma MW.mt.c2), .blk nb1 ([.map (some nb2), .map (some nb3)]) 54]) := H.call Hc
  clear Hc
  refine l_op (o_val (r_as) ?_)
  first | refine l_end ?_ | refine l_nil ?_
  repeat refine c_seq ?_
  refine c_region ?_
  refine l_op (o_val (r_mv) ?_)
  refine l_op (o_callR Try.func19 rfl rfl rfl (quota_m _ _ _ _ MW.mt (mst_of H (i := 2) (j := 0) (k := 1) rfl rfl rfl (by decide) (by decide) (by decide) MW.mt_ok.fh MW.mt_ok.fa MW.mt_ok.oh MW.mt_ok.oa) MW.mt_ok ([97] : List UInt8) 5 (by omega)) ?_)
  rintro _ w ⟨rfl, z4, hzx5, hzo6, Hc⟩
  replace H := (met_at H (i := 2) (j := 0) (k := 1) rfl rfl rfl (by decide) (by decide) (by decide) Hc)
  clear Hc
  replace H : Hp _ w _ ([.obj nb2 (mobj kT z4.Mh z4.c1), .obj nb3 (mobj kS z4.Ma z4.c2), _]) := H
  replace hzx5 : z4.X = quotaX MW.mt.X ([97] : List UInt8) 5 := hzx5
  have hzx5l : z4.X.G.length = MW.mt.X.G.length := by rw [hzx5]; rfl
  first | refine l_end ?_ | refine l_nil ?_
  repeat refine c_seq ?_
  refine c_region ?_
  refine l_op (o_val (r_mv) ?_)
  refine l_op (o_val (r_bld' (cells := ((((1 : UInt8) :: List.replicate 31 (0 : UInt8))).map V8).toArray) (pv := [(0, V8 (1 : UInt8))]) bd36 rfl rfl) ?_)
  refine l_op (o_callR Try.func17 rfl rfl rfl (add_m _ _ _ _ z4 (mst_of H (i := 2) (j := 0) (k := 1) rfl rfl rfl (by decide) (by decide) (by decide) hzo6.fh hzo6.fa hzo6.oh hzo6.oa) hzo6 (by omega) ([97] : List UInt8) (idB (1 : UInt8)).1 (idB (1 : UInt8)).2 3) ?_)
  rintro _ w ⟨rfl, z7, hzx8, hzo9, Hc⟩
  replace H := (met_at H (i := 2) (j := 0) (k := 1) rfl rfl rfl (by decide) (by decide) (by decide) Hc)
  clear Hc
  replace H : Hp _ w _ ([.obj nb2 (mobj kT z7.Mh z7.c1), .obj nb3 (mobj kS z7.Ma z7.c2), _]) := H
  replace hzx8 : z7.X = addX z4.X ([97] : List UInt8) (idB (1 : UInt8)) 3 := hzx8
  have hzx8l := add_len z4.X ([97] : List UInt8) (idB (1 : UInt8)) 3
  rw [← hzx8] at hzx8l
  refine l_op (o_val (r_mv) ?_)
  refine l_op (o_val (r_ext rfl rfl) ?_)
  have hk10 : (addB z4.X ([97] : List UInt8) (idB (1 : UInt8)) 3) = true := (by simp only [hzx5]; rfl)
  refine l_op (o_val (r_ext rfl rfl) ?_)
  refine l_op (o_val (r_as) ?_)
  refine l_op (o_val (r_as) ?_)
  first | refine l_end ?_ | refine l_nil ?_
  repeat refine c_seq ?_
  refine c_region ?_
  refine l_op (o_val (r_mv) ?_)
  refine l_op (o_val (r_bld' (cells := ((((2 : UInt8) :: List.replicate 31 (0 : UInt8))).map V8).toArray) (pv := [(0, V8 (2 : UInt8))]) bd36 rfl rfl) ?_)
  refine l_op (o_callR Try.func17 rfl rfl rfl (add_m _ _ _ _ z7 (mst_of H (i := 2) (j := 0) (k := 1) rfl rfl rfl (by decide) (by decide) (by decide) hzo9.fh hzo9.fa hzo9.oh hzo9.oa) hzo9 (by omega) ([97] : List UInt8) (idB (2 : UInt8)).1 (idB (2 : UInt8)).2 3) ?_)
  rintro _ w ⟨rfl, z11, hzx12, hzo13, Hc⟩
  replace H := (met_at H (i := 2) (j := 0) (k := 1) rfl rfl rfl (by decide) (by decide) (by decide) Hc)
  clear Hc
  replace H : Hp _ w _ ([.obj nb2 (mobj kT z11.Mh z11.c1), .obj nb3 (mobj kS z11.Ma z11.c2), _]) := H
  replace hzx12 : z11.X = addX z7.X ([97] : List UInt8) (idB (2 : UInt8)) 3 := hzx12
  have hzx12l := add_len z7.X ([97] : List UInt8) (idB (2 : UInt8)) 3
  rw [← hzx12] at hzx12l
  refine l_op (o_val (r_mv) ?_)
  refine l_op (o_val (r_ext rfl rfl) ?_)
  refine l_op (o_val (r_ext rfl rfl) ?_)
  refine l_op (o_val (r_as) ?_)
  refine l_op (o_val (r_as) ?_)
  first | refine l_end ?_ | refine l_nil ?_
  repeat refine c_seq ?_
  refine c_region ?_
  refine l_op (o_val (r_mv) ?_)
  refine l_op (o_val (r_mv) ?_)
  refine l_yes rfl rfl (by exact congrArg Value.bool hk10) (o_val (r_mv) ?_)
  refine l_yes rfl rfl (by exact congrArg Value.bool hk10) (o_val (r_bin (a := addE z4.X ([97] : List UInt8) (idB (1 : UInt8)) 3) (b := 0) rfl rfl (fun _ => b_eqlB true (decide_eq_true (by simp only [hzx5]; rfl)))) ?_)
  refine l_op (o_val (r_pick (b := true) (congrArg Value.bool hk10)) ?_)
  refine l_op (o_val (r_mv) ?_)
  refine l_yes rfl rfl rfl (o_val (r_mv) ?_)
  refine l_yes rfl rfl rfl (o_val (r_bin (a := addE z7.X ([97] : List UInt8) (idB (2 : UInt8)) 3) (b := 16) rfl rfl (fun _ => b_eqlB true (decide_eq_true (by simp only [hzx8, hzx5]; rfl)))) ?_)
  refine l_op (o_val (r_pick rfl) ?_)
  refine l_op (o_val (r_mv) ?_)
  refine l_yes rfl rfl rfl (o_val (r_mv) ?_)
  refine l_yes rfl rfl rfl (o_callR Try.func20 rfl rfl rfl (used_m _ _ _ _ z11 (mst_of H (i := 2) (j := 0) (k := 1) rfl rfl rfl (by decide) (by decide) (by decide) hzo13.fh hzo13.fa hzo13.oh hzo13.oa) hzo13 ([97] : List UInt8)) ?_)
  rintro _ w ⟨rfl, z14, hzx15, hzo16, Hc⟩
  replace H := (met_at H (i := 2) (j := 0) (k := 1) rfl rfl rfl (by decide) (by decide) (by decide) Hc)
  clear Hc
  replace H : Hp _ w _ ([.obj nb2 (mobj kT z14.Mh z14.c1), .obj nb3 (mobj kS z14.Ma z14.c2), _]) := H
  replace hzx15 : z14.X = z11.X := hzx15
  have hzx15l : z14.X.G.length = z11.X.G.length := by rw [hzx15]
  refine l_yes rfl rfl rfl (o_val (r_bin (a := (z11.X.acc ([97] : List UInt8)).used) (b := 3) rfl rfl (fun _ => b_eqlB true (decide_eq_true (by simp only [hzx12, hzx8, hzx5]; rfl)))) ?_)
  refine l_op (o_val (r_pick rfl) ?_)
  refine l_op (o_val (r_as) ?_)
  first | refine l_end ?_ | refine l_nil ?_
  refine c_ret ?_
  try dsimp only [Exit.then, Exit.inBlock]
  refine e_ret1 (v := .bool true) Try.results13 rfl ?_
  refine ⟨_, rfl, ?_⟩
  exact ⟨rfl, H.sub (List.nil_sublist _)⟩
end Go.Proofs.Ytncmcgcilijfkaa
namespace Go.Proofs.Ytncmcgcilijfkaa
open Go
set_option maxRecDepth 100000
set_option maxHeartbeats 4000000 in
theorem meterBounds_ret (w0 : World) (g : Gl OpM) (hg : g.ok opE 4 w0) (hb : ∀ e ∈ g.l, e.n ≤ 9223372036854775807) :
    Ret Try.prog 3 [g.v] w0 fun v w' => v = .bool true ∧ Hp w0 w' [] [] := by
  refine ret_mk Try.func3 rfl Try.ntmps3 (by simp) ?_
  have H := Hp.refl w0 []
  have hgl := hg.ln
  have hge := hg.le
  have hgx := hg.mx
  have hmL : maxLen = 9223372036854775807 := rfl
  have hG0 : MW.mt.X.G.length = 0 := rfl
  repeat refine c_seq ?_
  refine c_region ?_
  refine l_op (o_val (r_as) ?_)
  first | refine l_end ?_ | refine l_nil ?_
  repeat refine c_seq ?_
  refine c_region ?_
  refine l_op (o_callR Try.func13 rfl rfl rfl (begunM_ret _) ?_)
  rintro _ w ⟨rfl, Hc⟩
  replace H : Hp _ w _ ([]) := H.call Hc
  clear Hc
  refine l_op (o_val (r_not rfl) ?_)
  first | refine l_end ?_ | refine l_nil ?_
  repeat refine c_seq ?_
  refine c_no rfl ?_
  refine c_skip ?_
  repeat refine c_seq ?_
  refine c_region ?_
  refine l_op (o_val (r_mv) ?_)
  refine l_op (o_callR Try.func14 rfl rfl rfl (lightM_ret _ g (hg.up H) 100 (by omega)) ?_)
  rintro _ w ⟨rfl, Hc⟩
  replace H : Hp _ w _ ([]) := H.call Hc
  clear Hc
  refine l_op (o_val (r_not rfl) ?_)
  first | refine l_end ?_ | refine l_nil ?_
  have hc10 := Bool.eq_false_or_eq_true (lightM g.l 100)
  rcases hc10 with hc1 | hc1
  ·
   repeat refine c_seq ?_
   refine c_no (by exact congrArg Value.bool (congrArg not hc1)) ?_
   refine c_skip ?_
   have hlg := ((lightM_iff _ _).1 hc1).1
   repeat refine c_seq ?_
   refine c_region ?_
   refine l_op (o_callR Try.func15 rfl rfl rfl (mnew_ret _) ?_)
   rintro _ w ⟨nb2, nb3, nb4, rfl, Hc⟩
   replace H : Hp _ w _ ([.obj nb3 (mobj kT MW.mt.Mh MW.mt.c1), .obj nb4 (mobj kS MW.mt.Ma MW.mt.c2), .blk nb2 ([.map (some nb3), .map (some nb4)]) 54]) := H.call Hc
   clear Hc
   refine l_op (o_val (r_as) ?_)
   first | refine l_end ?_ | refine l_nil ?_
   repeat refine c_seq ?_
   refine c_region ?_
   refine l_op (o_val (r_as) ?_)
   first | refine l_end ?_ | refine l_nil ?_
   repeat refine c_seq ?_
   refine c_region ?_
   refine l_op (o_alloc H zc27 (fun b5 w H hb5 => ?_))
   replace H : Hp _ w _ ([_, _, _, .blk b5 ((List.replicate 256 (0 : Int)).map VI) 27]) := H
   first | refine l_end ?_ | refine l_nil ?_
   repeat refine c_seq ?_
   refine c_region ?_
   refine l_op (o_alloc H zc28 (fun b6 w H hb6 => ?_))
   replace H : Hp _ w _ ([_, _, _, _, .blk b6 ((List.replicate 256 false).map Value.bool) 28]) := H
   first | refine l_end ?_ | refine l_nil ?_
   repeat refine c_seq ?_
   refine c_region ?_
   refine l_op (o_val (r_as) ?_)
   first | refine l_end ?_ | refine l_nil ?_
   repeat refine c_seq ?_
   refine c_block ?_
   repeat refine c_seq ?_
   refine c_loop5 (fun (i : Nat) (z : MW) (most : Int) (hs : List Int) (bs : List Bool) => [(0, g.v), (3, .pointer (some ⟨nb2, 0, none⟩)), (4, VI most), (5, .pointer (some ⟨b5, 0, none⟩)), (6, .pointer (some ⟨b6, 0, none⟩)), (7, VI (i : Int))])
     (fun (i : Nat) (z : MW) (most : Int) (hs : List Int) (bs : List Bool) w => (i ≤ g.len ∧ z.ok ∧ MBs z.X most hs bs ∧ z.X.G.length ≤ i) ∧ Hp w0 w [] ([.obj nb3 (mobj kT z.Mh z.c1), .obj nb4 (mobj kS z.Ma z.c2), .blk nb2 ([.map (some nb3), .map (some nb4)]) 54, .blk b5 ((hs).map VI) 27, .blk b6 ((bs).map Value.bool) 28]))
     (fun (i : Nat) (z : MW) (most : Int) (hs : List Int) (bs : List Bool) => g.len - i) 0 MW.mt 0 (List.replicate 256 (0 : Int)) (List.replicate 256 false) ⟨rfl, rfl, rfl, rfl, rfl, rfl, trivial⟩ ⟨⟨Nat.zero_le _, MW.mt_ok, MBs.mt, Nat.le_refl _⟩, H⟩ ?_
   clear H
   rintro i z most hs bs τ w ⟨⟨hi, hz, hB, hzl⟩, H⟩
   have hmo := hB.mo
   have hus := hB.us
   repeat refine c_seq ?_
   refine c_region ?_
   refine l_op (o_val (r_mv) ?_)
   refine l_op (o_val (r_mv) ?_)
   refine l_op (o_val (r_lens el22 rfl) ?_)
   refine l_op (o_val (r_bin (a := (i : Int)) (b := (g.len : Int)) rfl rfl (fun _ => b_lss)) ?_)
   first | refine l_end ?_ | refine l_nil ?_
   by_cases hc7 : (i : Int) < (g.len : Int)
   ·
    repeat refine c_seq ?_
    refine c_yes (by exact congrArg Value.bool (decide_eq_true hc7)) ?_
    refine c_skip ?_
    repeat refine c_seq ?_
    refine c_block ?_
    repeat refine c_seq ?_
    refine c_region ?_
    refine l_op (o_val (r_mv) ?_)
    refine l_op (o_val (r_mv) ?_)
    have ah10 := ((hg.up H)).addr (by decide) (by first | omega | (dsimp only; omega))
    obtain ⟨ab8, ao9, ah10⟩ := ah10
    refine l_op (o_val (r_isN i rfl rfl el22 ah10 (by omega) (by (try simp only [Sl.cut]); omega)) ?_)
    have he12 : ∃ c, g.l[i]? = some c := ⟨_, List.getElem?_eq_getElem (by have := ((hg.up H)).ln; (try dsimp only at this ⊢); omega)⟩
    obtain ⟨e11, he12⟩ := he12
    have hez13 := ((hg.up H)).sz e11 (List.mem_of_getElem? he12)
    refine l_op (o_val (r_ldRow (s := g) (k := i) (hg.up H) ah10 rfl rt30 (by decide) he12) ?_)
    refine l_op (o_alloc H zc30 (fun b14 w H hb14 => ?_))
    replace H : Hp _ w _ ([_, _, _, _, _, .blk b14 ([VI 0, .string ⟨(([] : List UInt8)).toArray⟩, V8 (0 : UInt8), VI 0]) 30]) := H
    refine l_op (o_stW (C' := [VI e11.kind, .string ⟨(e11.who).toArray⟩, V8 e11.k, VI e11.n]) H (i := 5) rfl rfl rfl cs30 (by simp [Value.oneCell']) (by rfl) (by rfl) (fun w H => ?_))
    replace H : Hp _ w _ ([_, _, _, _, _, .blk b14 ([VI e11.kind, .string ⟨(e11.who).toArray⟩, V8 e11.k, VI e11.n]) 30]) := H
    first | refine l_end ?_ | refine l_nil ?_
    have huk := e11.k.toNat_lt
    have hnb := hb _ (List.mem_of_getElem? he12)
    repeat refine c_seq ?_
    refine c_region ?_
    refine l_op (o_val (r_fa rfl fo30_0) ?_)
    refine l_op (o_val (r_ld (v := VI e11.kind) H (i := 5) rfl rfl ct3 rfl) ?_)
    refine l_op (o_callR Try.func16 rfl rfl rfl (place_ret _ e11.kind 3 (by omega) (by omega)) ?_)
    rintro _ w' ⟨m15, rfl, hm16, hw17⟩
    rw [hw17]; clear hw17 w'
    first | refine l_end ?_ | refine l_nil ?_
    repeat refine c_seq ?_
    refine c_block ?_
    repeat refine c_seq ?_
    refine c_region ?_
    refine l_op (o_val (r_bin (a := (m15 : Int)) (b := 0) rfl rfl (fun _ => b_eql)) ?_)
    refine l_op (o_val (r_as) ?_)
    first | refine l_end ?_ | refine l_nil ?_
    by_cases hc18 : (m15 : Int) = 0
    ·
     repeat refine c_seq ?_
     refine c_yes (by exact congrArg Value.bool (decide_eq_true hc18)) ?_
     repeat refine c_seq ?_
     refine c_region ?_
     refine l_op (o_val (r_mv) ?_)
     refine l_op (o_val (r_fa rfl fo30_2) ?_)
     refine l_op (o_val (r_ld (v := V8 e11.k) H (i := 5) rfl rfl ct5 rfl) ?_)
     refine l_op (o_val (r_bld' (cells := (((e11.k :: List.replicate 31 (0 : UInt8))).map V8).toArray) (pv := [(0, V8 e11.k)]) bd36 rfl rfl) ?_)
     refine l_op (o_val (r_fa rfl fo30_3) ?_)
     refine l_op (o_val (r_ld (v := VI e11.n) H (i := 5) rfl rfl ct2 rfl) ?_)
     refine l_op (o_callR Try.func17 rfl rfl rfl (add_m _ _ _ _ z (mst_of H (i := 2) (j := 0) (k := 1) rfl rfl rfl (by decide) (by decide) (by decide) hz.fh hz.fa hz.oh hz.oa) hz (by omega) ([97] : List UInt8) (idB e11.k).1 (idB e11.k).2 e11.n) ?_)
     rintro _ w ⟨rfl, z19, hzx20, hzo21, Hc⟩
     replace H := (met_at H (i := 2) (j := 0) (k := 1) rfl rfl rfl (by decide) (by decide) (by decide) Hc)
     clear Hc
     replace H : Hp _ w _ ([.obj nb3 (mobj kT z19.Mh z19.c1), .obj nb4 (mobj kS z19.Ma z19.c2), _, _, _, _]) := H
     replace hzx20 : z19.X = addX z.X ([97] : List UInt8) (idB e11.k) e11.n := hzx20
     have hzx20l := add_len z.X ([97] : List UInt8) (idB e11.k) e11.n
     rw [← hzx20] at hzx20l
     refine l_op (o_val (r_mv) ?_)
     refine l_op (o_val (r_ext rfl rfl) ?_)
     refine l_op (o_val (r_ext rfl rfl) ?_)
     refine l_op (o_val (r_as) ?_)
     refine l_op (o_val (r_as) ?_)
     first | refine l_end ?_ | refine l_nil ?_
     repeat refine c_seq ?_
     refine c_region ?_
     refine l_op (o_val (r_mv) ?_)
     first | refine l_end ?_ | refine l_nil ?_
     have hc220 := Bool.eq_false_or_eq_true (addB z.X ([97] : List UInt8) (idB e11.k) e11.n)
     rcases hc220 with hc22 | hc22
     ·
      repeat refine c_seq ?_
      refine c_yes (by exact congrArg Value.bool hc22) ?_
      repeat refine c_seq ?_
      refine c_region ?_
      refine l_op (o_val (r_fa rfl fo30_2) ?_)
      refine l_op (o_val (r_ld (v := V8 e11.k) H (i := 5) rfl rfl ct5 rfl) ?_)
      refine l_op (o_val (r_iaN ((e11.k).toNat) rfl rfl ar28 (by omega) (by omega)) ?_)
      refine l_op (o_val (r_ldBB (k := (e11.k).toNat) (l := bs) H (i := 4) rfl rfl ct4 (by rw [(show (bs).length = 256 from hB.lb)]; omega)) ?_)
      have hk23 : ((bs).getD ((e11.k).toNat) false) = false := (by rw [hB.bv, (addB_look hc22).2.1]; rfl)
      first | refine l_end ?_ | refine l_nil ?_
      repeat refine c_seq ?_
      refine c_no (by exact congrArg Value.bool hk23) ?_
      refine c_skip ?_
      repeat refine c_seq ?_
      refine wp_held (fun w => Hp w0 w [] [.obj nb3 (mobj kT z19.Mh z19.c1), .obj nb4 (mobj kS z19.Ma z19.c2), .blk nb2 ([.map (some nb3), .map (some nb4)]) 54, .blk b14 ([VI e11.kind, .string ⟨(e11.who).toArray⟩, V8 e11.k, VI e11.n]) 30]) mixed ?_
      replace H := H.drew
      have HS := H.sub (.cons_cons _ (.cons_cons _ (.cons_cons _ (.cons _ (.cons _ (.cons_cons _ (List.nil_sublist _)))))))
      refine t_take 0 rfl (by kernel_rfl) (by kernel_rfl) (by kernel_rfl) (fun _ _ _ h => h) (fun w HS => r_fa rfl fo30_2) HS ?_
      refine t_take 1 rfl (by kernel_rfl) (by kernel_rfl) (by kernel_rfl) (fun _ _ _ h => h) (fun w HS => r_ld (v := V8 e11.k) HS (i := 3) rfl rfl ct5 rfl) HS ?_
      refine t_take 2 rfl (by kernel_rfl) (by kernel_rfl) (by kernel_rfl) (fun _ _ _ h => h) (fun w HS => r_fa rfl fo30_2) HS ?_
      refine t_take 3 rfl (by kernel_rfl) (by kernel_rfl) (by kernel_rfl) (fun _ _ _ h => h) (fun w HS => r_ld (v := V8 e11.k) HS (i := 3) rfl rfl ct5 rfl) HS ?_
      refine t_take 4 rfl (by kernel_rfl) (by kernel_rfl) (by kernel_rfl) (fun _ _ _ h => h) (fun w HS => r_fa rfl fo30_3) HS ?_
      refine t_take 5 rfl (by kernel_rfl) (by kernel_rfl) (by kernel_rfl) (fun _ _ _ h => h) (fun w HS => r_ld (v := VI e11.n) HS (i := 3) rfl rfl ct2 rfl) HS ?_
      refine t_take 6 rfl (by kernel_rfl) (by kernel_rfl) (by kernel_rfl) (fun _ _ _ h => h) (fun w HS => r_iaN ((e11.k).toNat) rfl rfl ar28 (by omega) (by omega)) HS ?_
      refine t_step 7 rfl (by kernel_rfl) (o_stBB (u := true) (k := (e11.k).toNat) H (i := 4) rfl rfl rfl cs4 (by rw [(show (bs).length = 256 from hB.lb)]; omega) (fun w H => ?_))
      replace H : Hp _ w _ ([_, _, _, _, .blk b6 (((bs).set ((e11.k).toNat) (true)).map Value.bool) 28, _]) := H
      refine ⟨H.sub (.cons_cons _ (.cons_cons _ (.cons_cons _ (.cons _ (.cons _ (.cons_cons _ (List.nil_sublist _))))))), ?_⟩
      replace HS := H.sub (.cons_cons _ (.cons_cons _ (.cons_cons _ (.cons _ (.cons _ (.cons_cons _ (List.nil_sublist _)))))))
      refine t_take 8 rfl (by kernel_rfl) (by kernel_rfl) (by kernel_rfl) (fun _ _ _ h => h) (fun w HS => r_iaN ((e11.k).toNat) rfl rfl ar27 (by omega) (by omega)) HS ?_
      refine t_step 9 rfl (by kernel_rfl) (o_stIB (u := e11.n) (k := (e11.k).toNat) H (i := 3) rfl rfl rfl cs2 (by rw [(show (hs).length = 256 from hB.lh)]; omega) (fun w H => ?_))
      replace H : Hp _ w _ ([_, _, _, .blk b5 (((hs).set ((e11.k).toNat) (e11.n)).map VI) 27, _, _]) := H
      refine ⟨H.sub (.cons_cons _ (.cons_cons _ (.cons_cons _ (.cons _ (.cons _ (.cons_cons _ (List.nil_sublist _))))))), ?_⟩
      replace HS := H.sub (.cons_cons _ (.cons_cons _ (.cons_cons _ (.cons _ (.cons _ (.cons_cons _ (List.nil_sublist _)))))))
      refine t_done (by kernel_rfl) ?_
      clear HS
      have hBb : MBs z19.X (most) ((hs).set ((e11.k).toNat) (e11.n)) ((bs).set ((e11.k).toNat) (true)) := by
        rw [hzx20]
        exact hB.addT hc22
      have hnn := hBb.nn hzo21.inv
      have hmo2 := hBb.mo
      have hus2 := hBb.us
      have hsm2 := hBb.sm
      repeat refine c_seq ?_
      refine c_region ?_
      refine l_op (o_val (r_as) ?_)
      first | refine l_end ?_ | refine l_nil ?_
      repeat refine c_seq ?_
      refine c_region ?_
      refine l_op (o_val (r_as) ?_)
      first | refine l_end ?_ | refine l_nil ?_
      repeat refine c_seq ?_
      refine c_block ?_
      repeat refine c_seq ?_
      refine c_loop (fun (k : Nat) => [(0, g.v), (3, .pointer (some ⟨nb2, 0, none⟩)), (4, VI most), (5, .pointer (some ⟨b5, 0, none⟩)), (6, .pointer (some ⟨b6, 0, none⟩)), (7, VI (i : Int)), (11, VI (sumL (((hs).set ((e11.k).toNat) (e11.n)).take k))), (12, VI (k : Int))])
        (fun (k : Nat) w => (k ≤ 256) ∧ Hp w0 w [] ([.obj nb3 (mobj kT z19.Mh z19.c1), .obj nb4 (mobj kS z19.Ma z19.c2), .blk nb2 ([.map (some nb3), .map (some nb4)]) 54, .blk b5 (((hs).set ((e11.k).toNat) (e11.n)).map VI) 27, .blk b6 (((bs).set ((e11.k).toNat) (true)).map Value.bool) 28, .blk b14 ([VI e11.kind, .string ⟨(e11.who).toArray⟩, V8 e11.k, VI e11.n]) 30]))
        (fun (k : Nat) => 256 - k) 0 ⟨rfl, rfl, rfl, rfl, rfl, rfl, rfl, rfl, trivial⟩ ⟨Nat.zero_le _, H⟩ ?_
      clear H
      rintro k τ w ⟨hk, H⟩
      have hs1 := sumL_take hnn k
      have hs2 := sumL_take hnn (k + 1)
      repeat refine c_seq ?_
      refine c_region ?_
      refine l_op (o_val (r_mv) ?_)
      refine l_op (o_val (r_bin (a := (k : Int)) (b := 256) rfl rfl (fun _ => b_lss)) ?_)
      first | refine l_end ?_ | refine l_nil ?_
      by_cases hc24 : (k : Int) < 256
      ·
       repeat refine c_seq ?_
       refine c_yes (by exact congrArg Value.bool (decide_eq_true hc24)) ?_
       refine c_skip ?_
       repeat refine c_seq ?_
       refine c_block ?_
       have hs3 := sumL_succ ((hs).set ((e11.k).toNat) (e11.n)) k (by rw [(show ((hs).set ((e11.k).toNat) (e11.n)).length = 256 from (by rw [List.length_set]; exact hB.lh))]; omega)
       repeat refine c_seq ?_
       refine c_region ?_
       refine l_op (o_val (r_mv) ?_)
       refine l_op (o_val (r_mv) ?_)
       refine l_op (o_val (r_iaN k rfl rfl ar27 (by omega) (by omega)) ?_)
       refine l_op (o_val (r_ldIB (k := k) (l := (hs).set ((e11.k).toNat) (e11.n)) H (i := 3) rfl rfl ct2 (by rw [(show ((hs).set ((e11.k).toNat) (e11.n)).length = 256 from (by rw [List.length_set]; exact hB.lh))]; omega)) ?_)
       refine l_op (o_val (r_bin (a := sumL (((hs).set ((e11.k).toNat) (e11.n)).take k)) (b := ((hs).set ((e11.k).toNat) (e11.n)).getD k 0) rfl rfl (fun _ => b_add (by omega) (by omega))) ?_)
       refine l_op (o_val (r_as) ?_)
       first | refine l_end ?_ | refine l_nil ?_
       repeat refine c_seq ?_
       refine c_region ?_
       refine l_op (o_val (r_mv) ?_)
       refine l_op (o_val (r_bin (a := (k : Int)) (b := 1) rfl rfl (fun _ => b_add (by omega) (by omega))) ?_)
       refine l_op (o_val (r_as) ?_)
       first | refine l_end ?_ | refine l_nil ?_
       refine round_end (k + 1) ?_ ?_ ?_
       · exact ⟨rfl, rfl, rfl, rfl, rfl, rfl, show VI ((sumL (((hs).set ((e11.k).toNat) (e11.n)).take k)) + (((hs).set ((e11.k).toNat) (e11.n)).getD k 0)) = VI (sumL (((hs).set ((e11.k).toNat) (e11.n)).take (k + 1 : Nat))) from congrArg VI (sumL_succ _ k (by rw [(show ((hs).set ((e11.k).toNat) (e11.n)).length = 256 from (by rw [List.length_set]; exact hB.lh))]; omega)).symm, show VI ((k : Int) + 1) = VI ((k + 1 : Nat) : Int) from congrArg VI (by omega), trivial⟩
       · refine ⟨?_, ?_⟩
         · try dsimp only
           exact by omega
         · exact H
       · show 256 - (k + 1 : Nat) < 256 - k; omega
      ·
       repeat refine c_seq ?_
       refine c_no (by exact congrArg Value.bool (decide_eq_false hc24)) ?_
       refine c_exit ?_
       have hk2 : k = 256 := by omega
       have hkk : sumL (((hs).set ((e11.k).toNat) (e11.n)).take k) = sumL ((hs).set ((e11.k).toNat) (e11.n)) := by rw [List.take_of_length_le (by rw [(show ((hs).set ((e11.k).toNat) (e11.n)).length = 256 from (by rw [List.length_set]; exact hB.lh))]; omega)]
       repeat refine c_seq ?_
       refine c_region ?_
       refine l_op (o_val (r_mv) ?_)
       refine l_op (o_callR Try.func20 rfl rfl rfl (used_m _ _ _ _ z19 (mst_of H (i := 2) (j := 0) (k := 1) rfl rfl rfl (by decide) (by decide) (by decide) hzo21.fh hzo21.fa hzo21.oh hzo21.oa) hzo21 ([97] : List UInt8)) ?_)
       rintro _ w ⟨rfl, z25, hzx26, hzo27, Hc⟩
       replace H := (met_at H (i := 2) (j := 0) (k := 1) rfl rfl rfl (by decide) (by decide) (by decide) Hc)
       clear Hc
       replace H : Hp _ w _ ([.obj nb3 (mobj kT z25.Mh z25.c1), .obj nb4 (mobj kS z25.Ma z25.c2), _, _, _, _]) := H
       replace hzx26 : z25.X = z19.X := hzx26
       have hzx26l : z25.X.G.length = z19.X.G.length := by rw [hzx26]
       refine l_op (o_val (r_mv) ?_)
       refine l_op (o_val (r_bin (a := (z19.X.acc ([97] : List UInt8)).used) (b := sumL (((hs).set ((e11.k).toNat) (e11.n)).take k)) rfl rfl (fun _ => b_neqB false (decide_eq_false (by omega)))) ?_)
       refine l_op (o_val (r_mv) ?_)
       refine l_yes rfl rfl rfl (o_val (r_mv) ?_)
       refine l_yes rfl rfl rfl (o_val (r_mv) ?_)
       refine l_yes rfl rfl rfl (o_val (r_bin (a := sumL (((hs).set ((e11.k).toNat) (e11.n)).take k)) (b := most) rfl rfl (fun _ => b_gtrB false (decide_eq_false (by omega)))) ?_)
       refine l_op (o_val (r_pick rfl) ?_)
       first | refine l_end ?_ | refine l_nil ?_
       have hBc : MBs z25.X (most) ((hs).set ((e11.k).toNat) (e11.n)) ((bs).set ((e11.k).toNat) (true)) := by
         rw [hzx26]
         exact hBb
       repeat refine c_seq ?_
       refine c_no rfl ?_
       refine c_skip ?_
       repeat refine c_seq ?_
       refine c_region ?_
       refine l_op (o_val (r_mv) ?_)
       refine l_op (o_val (r_bin (a := (i : Int)) (b := 1) rfl rfl (fun _ => b_add (by omega) (by omega))) ?_)
       refine l_op (o_val (r_as) ?_)
       first | refine l_end ?_ | refine l_nil ?_
       refine round_end (i + 1, z25, most, (hs).set ((e11.k).toNat) (e11.n), (bs).set ((e11.k).toNat) (true)) ?_ ?_ ?_
       · exact ⟨rfl, rfl, show VI most = VI (most : Int) from congrArg VI (by omega), rfl, rfl, show VI ((i : Int) + 1) = VI ((i + 1 : Nat) : Int) from congrArg VI (by omega), trivial⟩
       · refine ⟨?_, ?_⟩
         · try dsimp only
           exact ⟨by omega, hzo27, hBc, by omega⟩
         · exact H.sub (.cons_cons _ (.cons_cons _ (.cons_cons _ (.cons_cons _ (.cons_cons _ (List.nil_sublist _))))))
       · show g.len - (i + 1 : Nat) < g.len - i; omega
     ·
      repeat refine c_seq ?_
      refine c_no (by exact congrArg Value.bool hc22) ?_
      refine c_skip ?_
      have hBb : MBs z19.X (most) (hs) (bs) := by
        rw [hzx20]
        exact hB.addF hc22
      have hnn := hBb.nn hzo21.inv
      have hmo2 := hBb.mo
      have hus2 := hBb.us
      have hsm2 := hBb.sm
      repeat refine c_seq ?_
      refine c_region ?_
      refine l_op (o_val (r_as) ?_)
      first | refine l_end ?_ | refine l_nil ?_
      repeat refine c_seq ?_
      refine c_region ?_
      refine l_op (o_val (r_as) ?_)
      first | refine l_end ?_ | refine l_nil ?_
      repeat refine c_seq ?_
      refine c_block ?_
      repeat refine c_seq ?_
      refine c_loop (fun (k : Nat) => [(0, g.v), (3, .pointer (some ⟨nb2, 0, none⟩)), (4, VI most), (5, .pointer (some ⟨b5, 0, none⟩)), (6, .pointer (some ⟨b6, 0, none⟩)), (7, VI (i : Int)), (11, VI (sumL ((hs).take k))), (12, VI (k : Int))])
        (fun (k : Nat) w => (k ≤ 256) ∧ Hp w0 w [] ([.obj nb3 (mobj kT z19.Mh z19.c1), .obj nb4 (mobj kS z19.Ma z19.c2), .blk nb2 ([.map (some nb3), .map (some nb4)]) 54, .blk b5 ((hs).map VI) 27, .blk b6 ((bs).map Value.bool) 28, .blk b14 ([VI e11.kind, .string ⟨(e11.who).toArray⟩, V8 e11.k, VI e11.n]) 30]))
        (fun (k : Nat) => 256 - k) 0 ⟨rfl, rfl, rfl, rfl, rfl, rfl, rfl, rfl, trivial⟩ ⟨Nat.zero_le _, H⟩ ?_
      clear H
      rintro k τ w ⟨hk, H⟩
      have hs1 := sumL_take hnn k
      have hs2 := sumL_take hnn (k + 1)
      repeat refine c_seq ?_
      refine c_region ?_
      refine l_op (o_val (r_mv) ?_)
      refine l_op (o_val (r_bin (a := (k : Int)) (b := 256) rfl rfl (fun _ => b_lss)) ?_)
      first | refine l_end ?_ | refine l_nil ?_
      by_cases hc28 : (k : Int) < 256
      ·
       repeat refine c_seq ?_
       refine c_yes (by exact congrArg Value.bool (decide_eq_true hc28)) ?_
       refine c_skip ?_
       repeat refine c_seq ?_
       refine c_block ?_
       have hs3 := sumL_succ (hs) k (by rw [(show (hs).length = 256 from hB.lh)]; omega)
       repeat refine c_seq ?_
       refine c_region ?_
       refine l_op (o_val (r_mv) ?_)
       refine l_op (o_val (r_mv) ?_)
       refine l_op (o_val (r_iaN k rfl rfl ar27 (by omega) (by omega)) ?_)
       refine l_op (o_val (r_ldIB (k := k) (l := hs) H (i := 3) rfl rfl ct2 (by rw [(show (hs).length = 256 from hB.lh)]; omega)) ?_)
       refine l_op (o_val (r_bin (a := sumL ((hs).take k)) (b := (hs).getD k 0) rfl rfl (fun _ => b_add (by omega) (by omega))) ?_)
       refine l_op (o_val (r_as) ?_)
       first | refine l_end ?_ | refine l_nil ?_
       repeat refine c_seq ?_
       refine c_region ?_
       refine l_op (o_val (r_mv) ?_)
       refine l_op (o_val (r_bin (a := (k : Int)) (b := 1) rfl rfl (fun _ => b_add (by omega) (by omega))) ?_)
       refine l_op (o_val (r_as) ?_)
       first | refine l_end ?_ | refine l_nil ?_
       refine round_end (k + 1) ?_ ?_ ?_
       · exact ⟨rfl, rfl, rfl, rfl, rfl, rfl, show VI ((sumL ((hs).take k)) + ((hs).getD k 0)) = VI (sumL ((hs).take (k + 1 : Nat))) from congrArg VI (sumL_succ _ k (by rw [(show (hs).length = 256 from hB.lh)]; omega)).symm, show VI ((k : Int) + 1) = VI ((k + 1 : Nat) : Int) from congrArg VI (by omega), trivial⟩
       · refine ⟨?_, ?_⟩
         · try dsimp only
           exact by omega
         · exact H
       · show 256 - (k + 1 : Nat) < 256 - k; omega
      ·
       repeat refine c_seq ?_
       refine c_no (by exact congrArg Value.bool (decide_eq_false hc28)) ?_
       refine c_exit ?_
       have hk2 : k = 256 := by omega
       have hkk : sumL ((hs).take k) = sumL (hs) := by rw [List.take_of_length_le (by rw [(show (hs).length = 256 from hB.lh)]; omega)]
       repeat refine c_seq ?_
       refine c_region ?_
       refine l_op (o_val (r_mv) ?_)
       refine l_op (o_callR Try.func20 rfl rfl rfl (used_m _ _ _ _ z19 (mst_of H (i := 2) (j := 0) (k := 1) rfl rfl rfl (by decide) (by decide) (by decide) hzo21.fh hzo21.fa hzo21.oh hzo21.oa) hzo21 ([97] : List UInt8)) ?_)
       rintro _ w ⟨rfl, z29, hzx30, hzo31, Hc⟩
       replace H := (met_at H (i := 2) (j := 0) (k := 1) rfl rfl rfl (by decide) (by decide) (by decide) Hc)
       clear Hc
       replace H : Hp _ w _ ([.obj nb3 (mobj kT z29.Mh z29.c1), .obj nb4 (mobj kS z29.Ma z29.c2), _, _, _, _]) := H
       replace hzx30 : z29.X = z19.X := hzx30
       have hzx30l : z29.X.G.length = z19.X.G.length := by rw [hzx30]
       refine l_op (o_val (r_mv) ?_)
       refine l_op (o_val (r_bin (a := (z19.X.acc ([97] : List UInt8)).used) (b := sumL ((hs).take k)) rfl rfl (fun _ => b_neqB false (decide_eq_false (by omega)))) ?_)
       refine l_op (o_val (r_mv) ?_)
       refine l_yes rfl rfl rfl (o_val (r_mv) ?_)
       refine l_yes rfl rfl rfl (o_val (r_mv) ?_)
       refine l_yes rfl rfl rfl (o_val (r_bin (a := sumL ((hs).take k)) (b := most) rfl rfl (fun _ => b_gtrB false (decide_eq_false (by omega)))) ?_)
       refine l_op (o_val (r_pick rfl) ?_)
       first | refine l_end ?_ | refine l_nil ?_
       have hBc : MBs z29.X (most) (hs) (bs) := by
         rw [hzx30]
         exact hBb
       repeat refine c_seq ?_
       refine c_no rfl ?_
       refine c_skip ?_
       repeat refine c_seq ?_
       refine c_region ?_
       refine l_op (o_val (r_mv) ?_)
       refine l_op (o_val (r_bin (a := (i : Int)) (b := 1) rfl rfl (fun _ => b_add (by omega) (by omega))) ?_)
       refine l_op (o_val (r_as) ?_)
       first | refine l_end ?_ | refine l_nil ?_
       refine round_end (i + 1, z29, most, hs, bs) ?_ ?_ ?_
       · exact ⟨rfl, rfl, show VI most = VI (most : Int) from congrArg VI (by omega), rfl, rfl, show VI ((i : Int) + 1) = VI ((i + 1 : Nat) : Int) from congrArg VI (by omega), trivial⟩
       · refine ⟨?_, ?_⟩
         · try dsimp only
           exact ⟨by omega, hzo31, hBc, by omega⟩
         · exact H.sub (.cons_cons _ (.cons_cons _ (.cons_cons _ (.cons_cons _ (.cons_cons _ (List.nil_sublist _))))))
       · show g.len - (i + 1 : Nat) < g.len - i; omega
    ·
     repeat refine c_seq ?_
     refine c_no (by exact congrArg Value.bool (decide_eq_false hc18)) ?_
     repeat refine c_seq ?_
     refine c_region ?_
     refine l_op (o_val (r_bin (a := (m15 : Int)) (b := 1) rfl rfl (fun _ => b_eql)) ?_)
     refine l_op (o_val (r_as) ?_)
     first | refine l_end ?_ | refine l_nil ?_
     by_cases hc32 : (m15 : Int) = 1
     ·
      repeat refine c_seq ?_
      refine c_yes (by exact congrArg Value.bool (decide_eq_true hc32)) ?_
      repeat refine c_seq ?_
      refine wp_held (fun w => Hp w0 w [] [.blk nb2 ([.map (some nb3), .map (some nb4)]) 54, .blk b5 ((hs).map VI) 27, .blk b6 ((bs).map Value.bool) 28, .blk b14 ([VI e11.kind, .string ⟨(e11.who).toArray⟩, V8 e11.k, VI e11.n]) 30]) mixed ?_
      replace H := H.drew
      have HS := H.sub (.cons _ (.cons _ (.cons_cons _ (.cons_cons _ (.cons_cons _ (.cons_cons _ (List.nil_sublist _)))))))
      refine t_take 0 rfl (by kernel_rfl) (by kernel_rfl) (by kernel_rfl) (fun _ _ _ h => h) (fun w HS => r_mv) HS ?_
      refine t_take 1 rfl (by kernel_rfl) (by kernel_rfl) (by kernel_rfl) (fun _ _ _ h => h) (fun w HS => r_fa rfl fo30_2) HS ?_
      refine t_take 2 rfl (by kernel_rfl) (by kernel_rfl) (by kernel_rfl) (fun _ _ _ h => h) (fun w HS => r_ld (v := V8 e11.k) HS (i := 3) rfl rfl ct5 rfl) HS ?_
      refine t_take 3 rfl (by kernel_rfl) (by kernel_rfl) (by kernel_rfl) (fun _ _ _ h => h) (fun w HS => r_bld' (cells := (((e11.k :: List.replicate 31 (0 : UInt8))).map V8).toArray) (pv := [(0, V8 e11.k)]) bd36 rfl rfl) HS ?_
      refine t_take 6 rfl (by kernel_rfl) (by kernel_rfl) (by kernel_rfl) (fun _ _ _ h => h) (fun w HS => r_fa rfl fo30_2) HS ?_
      refine t_take 7 rfl (by kernel_rfl) (by kernel_rfl) (by kernel_rfl) (fun _ _ _ h => h) (fun w HS => r_ld (v := V8 e11.k) HS (i := 3) rfl rfl ct5 rfl) HS ?_
      refine t_take 8 rfl (by kernel_rfl) (by kernel_rfl) (by kernel_rfl) (fun _ _ _ h => h) (fun w HS => r_iaN ((e11.k).toNat) rfl rfl ar28 (by omega) (by omega)) HS ?_
      refine t_take 9 rfl (by kernel_rfl) (by kernel_rfl) (by kernel_rfl) (fun _ _ _ h => h) (fun w HS => r_ldBB (k := (e11.k).toNat) (l := bs) HS (i := 2) rfl rfl ct4 (by rw [(show (bs).length = 256 from hB.lb)]; omega)) HS ?_
      refine t_step 4 rfl (by kernel_rfl) (o_callR Try.func18 rfl rfl rfl (drop_m _ _ _ _ z (mst_of H (i := 2) (j := 0) (k := 1) rfl rfl rfl (by decide) (by decide) (by decide) hz.fh hz.fa hz.oh hz.oa) hz (by omega) ([97] : List UInt8) (idB e11.k).1 (idB e11.k).2) ?_)
      rintro _ w ⟨rfl, z33, hzx34, hzo35, Hc⟩
      replace H := (met_at H (i := 2) (j := 0) (k := 1) rfl rfl rfl (by decide) (by decide) (by decide) Hc)
      clear Hc
      replace H : Hp _ w _ ([.obj nb3 (mobj kT z33.Mh z33.c1), .obj nb4 (mobj kS z33.Ma z33.c2), _, _, _, _]) := H
      replace hzx34 : z33.X = dropX z.X ([97] : List UInt8) (idB e11.k) := hzx34
      have hzx34l := drop_len z.X ([97] : List UInt8) (idB e11.k)
      rw [← hzx34] at hzx34l
      refine ⟨H.sub (.cons _ (.cons _ (.cons_cons _ (.cons_cons _ (.cons_cons _ (.cons_cons _ (List.nil_sublist _))))))), ?_⟩
      replace HS := H.sub (.cons _ (.cons _ (.cons_cons _ (.cons_cons _ (.cons_cons _ (.cons_cons _ (List.nil_sublist _)))))))
      refine t_take 5 rfl (by kernel_rfl) (by kernel_rfl) (by kernel_rfl) (fun _ _ _ h => h) (fun w HS => r_bin (a := dropE z.X ([97] : List UInt8) (idB e11.k)) (b := 0) rfl rfl (fun _ => b_eql)) HS ?_
      refine t_take 10 rfl (by kernel_rfl) (by kernel_rfl) (by kernel_rfl) (fun _ _ _ h => h) (fun w HS => r_bne Try.underlying4 rfl rfl) HS ?_
      have hk36 : (!((decide (dropE z.X ([97] : List UInt8) (idB e11.k) = 0)) == ((bs).getD ((e11.k).toNat) false))) = false := (by rw [hB.bv, dropE_eq]; simp)
      refine t_done (by kernel_rfl) ?_
      clear HS
      repeat refine c_seq ?_
      refine c_no (by exact congrArg Value.bool hk36) ?_
      refine c_skip ?_
      repeat refine c_seq ?_
      refine wp_held (fun w => Hp w0 w [] [.obj nb3 (mobj kT z33.Mh z33.c1), .obj nb4 (mobj kS z33.Ma z33.c2), .blk nb2 ([.map (some nb3), .map (some nb4)]) 54, .blk b14 ([VI e11.kind, .string ⟨(e11.who).toArray⟩, V8 e11.k, VI e11.n]) 30]) mixed ?_
      replace H := H.drew
      have HS := H.sub (.cons_cons _ (.cons_cons _ (.cons_cons _ (.cons _ (.cons _ (.cons_cons _ (List.nil_sublist _)))))))
      refine t_take 0 rfl (by kernel_rfl) (by kernel_rfl) (by kernel_rfl) (fun _ _ _ h => h) (fun w HS => r_fa rfl fo30_2) HS ?_
      refine t_take 1 rfl (by kernel_rfl) (by kernel_rfl) (by kernel_rfl) (fun _ _ _ h => h) (fun w HS => r_ld (v := V8 e11.k) HS (i := 3) rfl rfl ct5 rfl) HS ?_
      refine t_take 2 rfl (by kernel_rfl) (by kernel_rfl) (by kernel_rfl) (fun _ _ _ h => h) (fun w HS => r_fa rfl fo30_2) HS ?_
      refine t_take 3 rfl (by kernel_rfl) (by kernel_rfl) (by kernel_rfl) (fun _ _ _ h => h) (fun w HS => r_ld (v := V8 e11.k) HS (i := 3) rfl rfl ct5 rfl) HS ?_
      refine t_take 4 rfl (by kernel_rfl) (by kernel_rfl) (by kernel_rfl) (fun _ _ _ h => h) (fun w HS => r_iaN ((e11.k).toNat) rfl rfl ar28 (by omega) (by omega)) HS ?_
      refine t_step 5 rfl (by kernel_rfl) (o_stBB (u := false) (k := (e11.k).toNat) H (i := 4) rfl rfl rfl cs4 (by rw [(show (bs).length = 256 from hB.lb)]; omega) (fun w H => ?_))
      replace H : Hp _ w _ ([_, _, _, _, .blk b6 (((bs).set ((e11.k).toNat) (false)).map Value.bool) 28, _]) := H
      refine ⟨H.sub (.cons_cons _ (.cons_cons _ (.cons_cons _ (.cons _ (.cons _ (.cons_cons _ (List.nil_sublist _))))))), ?_⟩
      replace HS := H.sub (.cons_cons _ (.cons_cons _ (.cons_cons _ (.cons _ (.cons _ (.cons_cons _ (List.nil_sublist _)))))))
      refine t_take 6 rfl (by kernel_rfl) (by kernel_rfl) (by kernel_rfl) (fun _ _ _ h => h) (fun w HS => r_iaN ((e11.k).toNat) rfl rfl ar27 (by omega) (by omega)) HS ?_
      refine t_step 7 rfl (by kernel_rfl) (o_stIB (u := 0) (k := (e11.k).toNat) H (i := 3) rfl rfl rfl cs2 (by rw [(show (hs).length = 256 from hB.lh)]; omega) (fun w H => ?_))
      replace H : Hp _ w _ ([_, _, _, .blk b5 (((hs).set ((e11.k).toNat) (0)).map VI) 27, _, _]) := H
      refine ⟨H.sub (.cons_cons _ (.cons_cons _ (.cons_cons _ (.cons _ (.cons _ (.cons_cons _ (List.nil_sublist _))))))), ?_⟩
      replace HS := H.sub (.cons_cons _ (.cons_cons _ (.cons_cons _ (.cons _ (.cons _ (.cons_cons _ (List.nil_sublist _)))))))
      refine t_done (by kernel_rfl) ?_
      clear HS
      have hBb : MBs z33.X (most) ((hs).set ((e11.k).toNat) (0)) ((bs).set ((e11.k).toNat) (false)) := by
        rw [hzx34]
        exact hB.drop hz.inv _
      have hnn := hBb.nn hzo35.inv
      have hmo2 := hBb.mo
      have hus2 := hBb.us
      have hsm2 := hBb.sm
      repeat refine c_seq ?_
      refine c_region ?_
      refine l_op (o_val (r_as) ?_)
      first | refine l_end ?_ | refine l_nil ?_
      repeat refine c_seq ?_
      refine c_region ?_
      refine l_op (o_val (r_as) ?_)
      first | refine l_end ?_ | refine l_nil ?_
      repeat refine c_seq ?_
      refine c_block ?_
      repeat refine c_seq ?_
      refine c_loop (fun (k : Nat) => [(0, g.v), (3, .pointer (some ⟨nb2, 0, none⟩)), (4, VI most), (5, .pointer (some ⟨b5, 0, none⟩)), (6, .pointer (some ⟨b6, 0, none⟩)), (7, VI (i : Int)), (11, VI (sumL (((hs).set ((e11.k).toNat) (0)).take k))), (12, VI (k : Int))])
        (fun (k : Nat) w => (k ≤ 256) ∧ Hp w0 w [] ([.obj nb3 (mobj kT z33.Mh z33.c1), .obj nb4 (mobj kS z33.Ma z33.c2), .blk nb2 ([.map (some nb3), .map (some nb4)]) 54, .blk b5 (((hs).set ((e11.k).toNat) (0)).map VI) 27, .blk b6 (((bs).set ((e11.k).toNat) (false)).map Value.bool) 28, .blk b14 ([VI e11.kind, .string ⟨(e11.who).toArray⟩, V8 e11.k, VI e11.n]) 30]))
        (fun (k : Nat) => 256 - k) 0 ⟨rfl, rfl, rfl, rfl, rfl, rfl, rfl, rfl, trivial⟩ ⟨Nat.zero_le _, H⟩ ?_
      clear H
      rintro k τ w ⟨hk, H⟩
      have hs1 := sumL_take hnn k
      have hs2 := sumL_take hnn (k + 1)
      repeat refine c_seq ?_
      refine c_region ?_
      refine l_op (o_val (r_mv) ?_)
      refine l_op (o_val (r_bin (a := (k : Int)) (b := 256) rfl rfl (fun _ => b_lss)) ?_)
      first | refine l_end ?_ | refine l_nil ?_
      by_cases hc37 : (k : Int) < 256
      ·
       repeat refine c_seq ?_
       refine c_yes (by exact congrArg Value.bool (decide_eq_true hc37)) ?_
       refine c_skip ?_
       repeat refine c_seq ?_
       refine c_block ?_
       have hs3 := sumL_succ ((hs).set ((e11.k).toNat) (0)) k (by rw [(show ((hs).set ((e11.k).toNat) (0)).length = 256 from (by rw [List.length_set]; exact hB.lh))]; omega)
       repeat refine c_seq ?_
       refine c_region ?_
       refine l_op (o_val (r_mv) ?_)
       refine l_op (o_val (r_mv) ?_)
       refine l_op (o_val (r_iaN k rfl rfl ar27 (by omega) (by omega)) ?_)
       refine l_op (o_val (r_ldIB (k := k) (l := (hs).set ((e11.k).toNat) (0)) H (i := 3) rfl rfl ct2 (by rw [(show ((hs).set ((e11.k).toNat) (0)).length = 256 from (by rw [List.length_set]; exact hB.lh))]; omega)) ?_)
       refine l_op (o_val (r_bin (a := sumL (((hs).set ((e11.k).toNat) (0)).take k)) (b := ((hs).set ((e11.k).toNat) (0)).getD k 0) rfl rfl (fun _ => b_add (by omega) (by omega))) ?_)
       refine l_op (o_val (r_as) ?_)
       first | refine l_end ?_ | refine l_nil ?_
       repeat refine c_seq ?_
       refine c_region ?_
       refine l_op (o_val (r_mv) ?_)
       refine l_op (o_val (r_bin (a := (k : Int)) (b := 1) rfl rfl (fun _ => b_add (by omega) (by omega))) ?_)
       refine l_op (o_val (r_as) ?_)
       first | refine l_end ?_ | refine l_nil ?_
       refine round_end (k + 1) ?_ ?_ ?_
       · exact ⟨rfl, rfl, rfl, rfl, rfl, rfl, show VI ((sumL (((hs).set ((e11.k).toNat) (0)).take k)) + (((hs).set ((e11.k).toNat) (0)).getD k 0)) = VI (sumL (((hs).set ((e11.k).toNat) (0)).take (k + 1 : Nat))) from congrArg VI (sumL_succ _ k (by rw [(show ((hs).set ((e11.k).toNat) (0)).length = 256 from (by rw [List.length_set]; exact hB.lh))]; omega)).symm, show VI ((k : Int) + 1) = VI ((k + 1 : Nat) : Int) from congrArg VI (by omega), trivial⟩
       · refine ⟨?_, ?_⟩
         · try dsimp only
           exact by omega
         · exact H
       · show 256 - (k + 1 : Nat) < 256 - k; omega
      ·
       repeat refine c_seq ?_
       refine c_no (by exact congrArg Value.bool (decide_eq_false hc37)) ?_
       refine c_exit ?_
       have hk2 : k = 256 := by omega
       have hkk : sumL (((hs).set ((e11.k).toNat) (0)).take k) = sumL ((hs).set ((e11.k).toNat) (0)) := by rw [List.take_of_length_le (by rw [(show ((hs).set ((e11.k).toNat) (0)).length = 256 from (by rw [List.length_set]; exact hB.lh))]; omega)]
       repeat refine c_seq ?_
       refine c_region ?_
       refine l_op (o_val (r_mv) ?_)
       refine l_op (o_callR Try.func20 rfl rfl rfl (used_m _ _ _ _ z33 (mst_of H (i := 2) (j := 0) (k := 1) rfl rfl rfl (by decide) (by decide) (by decide) hzo35.fh hzo35.fa hzo35.oh hzo35.oa) hzo35 ([97] : List UInt8)) ?_)
       rintro _ w ⟨rfl, z38, hzx39, hzo40, Hc⟩
       replace H := (met_at H (i := 2) (j := 0) (k := 1) rfl rfl rfl (by decide) (by decide) (by decide) Hc)
       clear Hc
       replace H : Hp _ w _ ([.obj nb3 (mobj kT z38.Mh z38.c1), .obj nb4 (mobj kS z38.Ma z38.c2), _, _, _, _]) := H
       replace hzx39 : z38.X = z33.X := hzx39
       have hzx39l : z38.X.G.length = z33.X.G.length := by rw [hzx39]
       refine l_op (o_val (r_mv) ?_)
       refine l_op (o_val (r_bin (a := (z33.X.acc ([97] : List UInt8)).used) (b := sumL (((hs).set ((e11.k).toNat) (0)).take k)) rfl rfl (fun _ => b_neqB false (decide_eq_false (by omega)))) ?_)
       refine l_op (o_val (r_mv) ?_)
       refine l_yes rfl rfl rfl (o_val (r_mv) ?_)
       refine l_yes rfl rfl rfl (o_val (r_mv) ?_)
       refine l_yes rfl rfl rfl (o_val (r_bin (a := sumL (((hs).set ((e11.k).toNat) (0)).take k)) (b := most) rfl rfl (fun _ => b_gtrB false (decide_eq_false (by omega)))) ?_)
       refine l_op (o_val (r_pick rfl) ?_)
       first | refine l_end ?_ | refine l_nil ?_
       have hBc : MBs z38.X (most) ((hs).set ((e11.k).toNat) (0)) ((bs).set ((e11.k).toNat) (false)) := by
         rw [hzx39]
         exact hBb
       repeat refine c_seq ?_
       refine c_no rfl ?_
       refine c_skip ?_
       repeat refine c_seq ?_
       refine c_region ?_
       refine l_op (o_val (r_mv) ?_)
       refine l_op (o_val (r_bin (a := (i : Int)) (b := 1) rfl rfl (fun _ => b_add (by omega) (by omega))) ?_)
       refine l_op (o_val (r_as) ?_)
       first | refine l_end ?_ | refine l_nil ?_
       refine round_end (i + 1, z38, most, (hs).set ((e11.k).toNat) (0), (bs).set ((e11.k).toNat) (false)) ?_ ?_ ?_
       · exact ⟨rfl, rfl, show VI most = VI (most : Int) from congrArg VI (by omega), rfl, rfl, show VI ((i : Int) + 1) = VI ((i + 1 : Nat) : Int) from congrArg VI (by omega), trivial⟩
       · refine ⟨?_, ?_⟩
         · try dsimp only
           exact ⟨by omega, hzo40, hBc, by omega⟩
         · exact H.sub (.cons_cons _ (.cons_cons _ (.cons_cons _ (.cons_cons _ (.cons_cons _ (List.nil_sublist _))))))
       · show g.len - (i + 1 : Nat) < g.len - i; omega
     ·
      repeat refine c_seq ?_
      refine c_no (by exact congrArg Value.bool (decide_eq_false hc32)) ?_
      repeat refine c_seq ?_
      refine c_region ?_
      refine l_op (o_val (r_mv) ?_)
      refine l_op (o_val (r_fa rfl fo30_3) ?_)
      refine l_op (o_val (r_ld (v := VI e11.n) H (i := 5) rfl rfl ct2 rfl) ?_)
      refine l_op (o_callR Try.func19 rfl rfl rfl (quota_m _ _ _ _ z (mst_of H (i := 2) (j := 0) (k := 1) rfl rfl rfl (by decide) (by decide) (by decide) hz.fh hz.fa hz.oh hz.oa) hz ([97] : List UInt8) e11.n (by omega)) ?_)
      rintro _ w ⟨rfl, z41, hzx42, hzo43, Hc⟩
      replace H := (met_at H (i := 2) (j := 0) (k := 1) rfl rfl rfl (by decide) (by decide) (by decide) Hc)
      clear Hc
      replace H : Hp _ w _ ([.obj nb3 (mobj kT z41.Mh z41.c1), .obj nb4 (mobj kS z41.Ma z41.c2), _, _, _, _]) := H
      replace hzx42 : z41.X = quotaX z.X ([97] : List UInt8) e11.n := hzx42
      have hzx42l : z41.X.G.length = z.X.G.length := by rw [hzx42]; rfl
      first | refine l_end ?_ | refine l_nil ?_
      repeat refine c_seq ?_
      refine c_region ?_
      refine l_op (o_val (r_mv) ?_)
      refine l_op (o_val (r_fa rfl fo30_3) ?_)
      refine l_op (o_val (r_ld (v := VI e11.n) H (i := 5) rfl rfl ct2 rfl) ?_)
      refine l_op (o_val (r_max rfl rfl) ?_)
      refine l_op (o_val (r_as) ?_)
      first | refine l_end ?_ | refine l_nil ?_
      have hBb : MBs z41.X ((if most < e11.n then e11.n else most)) (hs) (bs) := by
        rw [hzx42]
        exact hB.quota _ hnb
      have hnn := hBb.nn hzo43.inv
      have hmo2 := hBb.mo
      have hus2 := hBb.us
      have hsm2 := hBb.sm
      repeat refine c_seq ?_
      refine c_region ?_
      refine l_op (o_val (r_as) ?_)
      first | refine l_end ?_ | refine l_nil ?_
      repeat refine c_seq ?_
      refine c_region ?_
      refine l_op (o_val (r_as) ?_)
      first | refine l_end ?_ | refine l_nil ?_
      repeat refine c_seq ?_
      refine c_block ?_
      repeat refine c_seq ?_
      refine c_loop (fun (k : Nat) => [(0, g.v), (3, .pointer (some ⟨nb2, 0, none⟩)), (4, VI (if most < e11.n then e11.n else most)), (5, .pointer (some ⟨b5, 0, none⟩)), (6, .pointer (some ⟨b6, 0, none⟩)), (7, VI (i : Int)), (11, VI (sumL ((hs).take k))), (12, VI (k : Int))])
        (fun (k : Nat) w => (k ≤ 256) ∧ Hp w0 w [] ([.obj nb3 (mobj kT z41.Mh z41.c1), .obj nb4 (mobj kS z41.Ma z41.c2), .blk nb2 ([.map (some nb3), .map (some nb4)]) 54, .blk b5 ((hs).map VI) 27, .blk b6 ((bs).map Value.bool) 28, .blk b14 ([VI e11.kind, .string ⟨(e11.who).toArray⟩, V8 e11.k, VI e11.n]) 30]))
        (fun (k : Nat) => 256 - k) 0 ⟨rfl, rfl, rfl, rfl, rfl, rfl, rfl, rfl, trivial⟩ ⟨Nat.zero_le _, H⟩ ?_
      clear H
      rintro k τ w ⟨hk, H⟩
      have hs1 := sumL_take hnn k
      have hs2 := sumL_take hnn (k + 1)
      repeat refine c_seq ?_
      refine c_region ?_
      refine l_op (o_val (r_mv) ?_)
      refine l_op (o_val (r_bin (a := (k : Int)) (b := 256) rfl rfl (fun _ => b_lss)) ?_)
      first | refine l_end ?_ | refine l_nil ?_
      by_cases hc44 : (k : Int) < 256
      ·
       repeat refine c_seq ?_
       refine c_yes (by exact congrArg Value.bool (decide_eq_true hc44)) ?_
       refine c_skip ?_
       repeat refine c_seq ?_
       refine c_block ?_
       have hs3 := sumL_succ (hs) k (by rw [(show (hs).length = 256 from hB.lh)]; omega)
       repeat refine c_seq ?_
       refine c_region ?_
       refine l_op (o_val (r_mv) ?_)
       refine l_op (o_val (r_mv) ?_)
       refine l_op (o_val (r_iaN k rfl rfl ar27 (by omega) (by omega)) ?_)
       refine l_op (o_val (r_ldIB (k := k) (l := hs) H (i := 3) rfl rfl ct2 (by rw [(show (hs).length = 256 from hB.lh)]; omega)) ?_)
       refine l_op (o_val (r_bin (a := sumL ((hs).take k)) (b := (hs).getD k 0) rfl rfl (fun _ => b_add (by omega) (by omega))) ?_)
       refine l_op (o_val (r_as) ?_)
       first | refine l_end ?_ | refine l_nil ?_
       repeat refine c_seq ?_
       refine c_region ?_
       refine l_op (o_val (r_mv) ?_)
       refine l_op (o_val (r_bin (a := (k : Int)) (b := 1) rfl rfl (fun _ => b_add (by omega) (by omega))) ?_)
       refine l_op (o_val (r_as) ?_)
       first | refine l_end ?_ | refine l_nil ?_
       refine round_end (k + 1) ?_ ?_ ?_
       · exact ⟨rfl, rfl, rfl, rfl, rfl, rfl, show VI ((sumL ((hs).take k)) + ((hs).getD k 0)) = VI (sumL ((hs).take (k + 1 : Nat))) from congrArg VI (sumL_succ _ k (by rw [(show (hs).length = 256 from hB.lh)]; omega)).symm, show VI ((k : Int) + 1) = VI ((k + 1 : Nat) : Int) from congrArg VI (by omega), trivial⟩
       · refine ⟨?_, ?_⟩
         · try dsimp only
           exact by omega
         · exact H
       · show 256 - (k + 1 : Nat) < 256 - k; omega
      ·
       repeat refine c_seq ?_
       refine c_no (by exact congrArg Value.bool (decide_eq_false hc44)) ?_
       refine c_exit ?_
       have hk2 : k = 256 := by omega
       have hkk : sumL ((hs).take k) = sumL (hs) := by rw [List.take_of_length_le (by rw [(show (hs).length = 256 from hB.lh)]; omega)]
       repeat refine c_seq ?_
       refine c_region ?_
       refine l_op (o_val (r_mv) ?_)
       refine l_op (o_callR Try.func20 rfl rfl rfl (used_m _ _ _ _ z41 (mst_of H (i := 2) (j := 0) (k := 1) rfl rfl rfl (by decide) (by decide) (by decide) hzo43.fh hzo43.fa hzo43.oh hzo43.oa) hzo43 ([97] : List UInt8)) ?_)
       rintro _ w ⟨rfl, z45, hzx46, hzo47, Hc⟩
       replace H := (met_at H (i := 2) (j := 0) (k := 1) rfl rfl rfl (by decide) (by decide) (by decide) Hc)
       clear Hc
       replace H : Hp _ w _ ([.obj nb3 (mobj kT z45.Mh z45.c1), .obj nb4 (mobj kS z45.Ma z45.c2), _, _, _, _]) := H
       replace hzx46 : z45.X = z41.X := hzx46
       have hzx46l : z45.X.G.length = z41.X.G.length := by rw [hzx46]
       refine l_op (o_val (r_mv) ?_)
       refine l_op (o_val (r_bin (a := (z41.X.acc ([97] : List UInt8)).used) (b := sumL ((hs).take k)) rfl rfl (fun _ => b_neqB false (decide_eq_false (by omega)))) ?_)
       refine l_op (o_val (r_mv) ?_)
       refine l_yes rfl rfl rfl (o_val (r_mv) ?_)
       refine l_yes rfl rfl rfl (o_val (r_mv) ?_)
       refine l_yes rfl rfl rfl (o_val (r_bin (a := sumL ((hs).take k)) (b := (if most < e11.n then e11.n else most)) rfl rfl (fun _ => b_gtrB false (decide_eq_false (by omega)))) ?_)
       refine l_op (o_val (r_pick rfl) ?_)
       first | refine l_end ?_ | refine l_nil ?_
       have hBc : MBs z45.X ((if most < e11.n then e11.n else most)) (hs) (bs) := by
         rw [hzx46]
         exact hBb
       repeat refine c_seq ?_
       refine c_no rfl ?_
       refine c_skip ?_
       repeat refine c_seq ?_
       refine c_region ?_
       refine l_op (o_val (r_mv) ?_)
       refine l_op (o_val (r_bin (a := (i : Int)) (b := 1) rfl rfl (fun _ => b_add (by omega) (by omega))) ?_)
       refine l_op (o_val (r_as) ?_)
       first | refine l_end ?_ | refine l_nil ?_
       refine round_end (i + 1, z45, (if most < e11.n then e11.n else most), hs, bs) ?_ ?_ ?_
       · exact ⟨rfl, rfl, show VI (if most < e11.n then e11.n else most) = VI ((if most < e11.n then e11.n else most) : Int) from congrArg VI (by omega), rfl, rfl, show VI ((i : Int) + 1) = VI ((i + 1 : Nat) : Int) from congrArg VI (by omega), trivial⟩
       · refine ⟨?_, ?_⟩
         · try dsimp only
           exact ⟨by omega, hzo47, hBc, by omega⟩
         · exact H.sub (.cons_cons _ (.cons_cons _ (.cons_cons _ (.cons_cons _ (.cons_cons _ (List.nil_sublist _))))))
       · show g.len - (i + 1 : Nat) < g.len - i; omega
   ·
    repeat refine c_seq ?_
    refine c_no (by exact congrArg Value.bool (decide_eq_false hc7)) ?_
    refine c_exit ?_
    repeat refine c_seq ?_
    refine c_region ?_
    refine l_op (o_val (r_as) ?_)
    first | refine l_end ?_ | refine l_nil ?_
    refine c_ret ?_
    try dsimp only [Exit.then, Exit.inBlock]
    refine e_ret1 (v := .bool true) Try.results3 rfl ?_
    refine ⟨_, rfl, ?_⟩
    exact ⟨rfl, H.sub (List.nil_sublist _)⟩
  ·
   repeat refine c_seq ?_
   refine c_yes (by exact congrArg Value.bool (congrArg not hc1)) ?_
   repeat refine c_seq ?_
   refine c_region ?_
   refine l_op (o_val (r_as) ?_)
   first | refine l_end ?_ | refine l_nil ?_
   refine c_ret ?_
   try dsimp only [Exit.then, Exit.inBlock]
   refine e_ret1 (v := .bool true) Try.results3 rfl ?_
   refine ⟨_, rfl, ?_⟩
   exact ⟨rfl, H.sub (List.nil_sublist _)⟩
end Go.Proofs.Ytncmcgcilijfkaa
