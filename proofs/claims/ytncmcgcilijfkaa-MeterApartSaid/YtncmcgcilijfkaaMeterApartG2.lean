/- Lemmas for the statement MeterApart, part 2: rules of operations, walks through functions, plain laws. -/
import Derived.Test.YtncmcgcilijfkaaMeterApartG1
namespace Go.Proofs.Ytncmcgcilijfkaa
open Go
set_option maxRecDepth 100000
/-- an operation. -/
structure OpM where
  kind : Int
  who : List UInt8
  k : UInt8
  n : Int
def opE (o : OpM) : List Value := [VI o.kind, .string ⟨o.who.toArray⟩, V8 o.k, VI o.n]
abbrev idB (u : UInt8) : Id32 := ⟨u :: List.replicate 31 (0 : UInt8), rfl⟩
theorem idB_inj {u v : UInt8} (h : idB u = idB v) : u = v := by
  have := congrArg Subtype.val h
  exact (List.cons.inj this).1
def lightM (l : List OpM) (m : Nat) : Bool := decide (l.length ≤ m ∧ ∀ e ∈ l, e.who.length ≤ 100)
theorem lightM_iff (l : List OpM) (m : Nat) : lightM l m = true ↔ l.length ≤ m ∧ ∀ e ∈ l, e.who.length ≤ 100 := by simp [lightM]
def sumL : List Int → Int
  | [] => 0
  | x :: l => x + sumL l
theorem sumL_set (l : List Int) (k : Nat) (x : Int) (h : k < l.length) : sumL (l.set k x) = sumL l - l.getD k 0 + x := by
  induction l generalizing k with
  | nil => simp at h
  | cons y l ih =>
    cases k with
    | zero => simp [sumL]; omega
    | succ k =>
      have := ih k (by simpa using h)
      rw [List.set_cons_succ, sumL, sumL, this, List.getD_cons_succ]; omega
theorem getD_set {α : Type} (l : List α) (i j : Nat) (x z : α) (h : i < l.length) : (l.set i x).getD j z = if i = j then x else l.getD j z := by
  rw [List.getD_eq_getElem?_getD, List.getElem?_set]
  by_cases e : i = j
  · rw [if_pos e, if_pos h, if_pos e]; rfl
  · rw [if_neg e, if_neg e, List.getD_eq_getElem?_getD]
theorem look_put (G : List (MKey × Int)) (p : MKey × Int) (k : MKey) : look (p :: G) k = if k = p.1 then some p.2 else look G k := rfl
theorem look_drop {X : MM} (h : X.Inv) (k j : MKey) : look (dropG k X.G) j = if j = k then none else look X.G j := by
  rw [← fdel_look k h.nd]; rfl
theorem addX_T {X : MM} {s : List UInt8} {k : Id32} {n : Int} (h : addB X s k n = true) : addX X s k n = ⟨((s, k), n) :: X.G, fput X.A s ⟨(X.acc s).quota, (X.acc s).used + n, (X.acc s).things + 1⟩⟩ := by rw [addX, if_pos h]
theorem addX_F {X : MM} {s : List UInt8} {k : Id32} {n : Int} (h : addB X s k n = false) : addX X s k n = X := by rw [addX, if_neg (by rw [h]; decide)]
theorem dropX_T {X : MM} {s : List UInt8} {k : Id32} (h : (look X.G (s, k)).isSome = true) : dropX X s k = ⟨dropG (s, k) X.G, fput X.A s ⟨(X.acc s).quota, (X.acc s).used - (look X.G (s, k)).getD 0, (X.acc s).things - 1⟩⟩ := by rw [dropX, if_pos h]
theorem dropX_F {X : MM} {s : List UInt8} {k : Id32} (h : (look X.G (s, k)).isSome = false) : dropX X s k = X := by rw [dropX, if_neg (by rw [h]; decide)]
structure MBs (X : MM) (most : Int) (hs : List Int) (bs : List Bool) : Prop where
  lh : hs.length = 256
  lb : bs.length = 256
  mo : (X.acc [97]).quota ≤ most ∧ 0 ≤ most ∧ most ≤ 9223372036854775807
  us : (X.acc [97]).used ≤ most
  sm : sumL hs = (X.acc [97]).used
  hv : ∀ u : UInt8, hs.getD u.toNat 0 = (look X.G ([97], idB u)).getD 0
  bv : ∀ u : UInt8, bs.getD u.toNat false = (look X.G ([97], idB u)).isSome
theorem getD_rep {α : Type} (n j : Nat) (x : α) : (List.replicate n x).getD j x = x := by
  rw [List.getD_eq_getElem?_getD, List.getElem?_replicate]; split <;> rfl
theorem MBs.mt : MBs MM.mt 0 (List.replicate 256 (0 : Int)) (List.replicate 256 false) :=
  ⟨by rw [List.length_replicate], by rw [List.length_replicate], by decide, by decide, by decide +kernel, fun u => getD_rep .., fun u => getD_rep ..⟩
theorem MBs.nn {X : MM} {most : Int} {hs : List Int} {bs : List Bool} (h : MBs X most hs bs) (hX : X.Inv) : ∀ x ∈ hs, 0 ≤ x := by
  intro x hx
  obtain ⟨j, hj, e⟩ := List.getElem_of_mem hx
  have hj' := hj
  rw [h.lh] at hj'
  have h1 := h.hv (UInt8.ofNat j)
  have e1 : (UInt8.ofNat j).toNat = j := by rw [UInt8.toNat_ofNat']; omega
  rw [e1, List.getD_eq_getElem?_getD, List.getElem?_eq_getElem hj, Option.getD_some, e] at h1
  rw [h1]
  exact (hX.v ([97], idB (UInt8.ofNat j))).1
theorem toNat_ne {u v : UInt8} (h : u ≠ v) : u.toNat ≠ v.toNat := fun e => h (UInt8.toNat_inj.1 e)
theorem idB_eq (s : List UInt8) (u v : UInt8) : ((s, idB u) : MKey) = (s, idB v) ↔ u = v := ⟨fun h => idB_inj (congrArg Prod.snd h), fun h => by rw [h]⟩
theorem MBs.drop {X : MM} {most : Int} {hs : List Int} {bs : List Bool} (h : MBs X most hs bs) (hX : X.Inv) (u : UInt8) : MBs (dropX X [97] (idB u)) most (hs.set u.toNat 0) (bs.set u.toNat false) := by
  have hu := u.toNat_lt
  have e0 := h.hv u
  have hlh := h.lh
  have hlb := h.lb
  have hmo := h.mo
  have hus := h.us
  have hv := hX.v ([97], idB u)
  cases hb : (look X.G ([97], idB u)).isSome with
  | true =>
    rw [dropX_T hb]
    have ha := acc_put (dropG ([97], idB u) X.G) X.A [97] [97] ⟨(X.acc [97]).quota, (X.acc [97]).used - (look X.G ([97], idB u)).getD 0, (X.acc [97]).things - 1⟩
    rw [if_pos rfl] at ha
    refine ⟨by rw [List.length_set, hlh], by rw [List.length_set, hlb], by rw [ha]; exact hmo, by rw [ha]; dsimp only; omega, ?_, fun v => ?_, fun v => ?_⟩
    · rw [sumL_set _ _ _ (by omega), e0, h.sm, ha]; dsimp only; omega
    · rw [getD_set _ _ _ _ _ (by omega), look_drop hX]
      by_cases e : u = v
      · rw [if_pos (congrArg UInt8.toNat e), if_pos ((idB_eq _ _ _).2 e.symm)]; rfl
      · rw [if_neg (toNat_ne e), if_neg (fun e2 => e ((idB_eq _ _ _).1 e2).symm)]; exact h.hv v
    · rw [getD_set _ _ _ _ _ (by omega), look_drop hX]
      by_cases e : u = v
      · rw [if_pos (congrArg UInt8.toNat e), if_pos ((idB_eq _ _ _).2 e.symm)]; rfl
      · rw [if_neg (toNat_ne e), if_neg (fun e2 => e ((idB_eq _ _ _).1 e2).symm)]; exact h.bv v
  | false =>
    have hn : look X.G ([97], idB u) = none := by cases hh : look X.G ([97], idB u) with
      | none => rfl
      | some _ => rw [hh] at hb; cases hb
    rw [dropX_F hb]
    rw [hn] at e0
    refine ⟨by rw [List.length_set, hlh], by rw [List.length_set, hlb], hmo, hus, ?_, fun v => ?_, fun v => ?_⟩
    · rw [sumL_set _ _ _ (by omega), e0, h.sm]; simp only [Option.getD_none]; omega
    · rw [getD_set _ _ _ _ _ (by omega)]
      by_cases e : u = v
      · rw [if_pos (congrArg UInt8.toNat e), ← e, hn]; rfl
      · rw [if_neg (toNat_ne e)]; exact h.hv v
    · rw [getD_set _ _ _ _ _ (by omega)]
      by_cases e : u = v
      · rw [if_pos (congrArg UInt8.toNat e), ← e, hn]; rfl
      · rw [if_neg (toNat_ne e)]; exact h.bv v
theorem MBs.quota {X : MM} {most : Int} {hs : List Int} {bs : List Bool} (h : MBs X most hs bs) (n : Int) (hn : n ≤ 9223372036854775807) : MBs (quotaX X [97] n) (if most < n then n else most) hs bs := by
  have hmo := h.mo
  have hus := h.us
  have ha := acc_put X.G X.A [97] [97] ⟨if n < 0 then 0 else n, (X.acc [97]).used, (X.acc [97]).things⟩
  rw [if_pos rfl] at ha
  have ha' : (quotaX X [97] n).acc [97] = ⟨if n < 0 then 0 else n, (X.acc [97]).used, (X.acc [97]).things⟩ := ha
  refine ⟨h.lh, h.lb, ?_, ?_, ?_, h.hv, h.bv⟩
  · rw [ha']; dsimp only; refine ⟨?_, ?_, ?_⟩ <;> (repeat' split) <;> omega
  · rw [ha']; dsimp only; split <;> omega
  · rw [ha']; exact h.sm
structure Apt (X Y : MM) : Prop where
  l : ∀ k, look X.G ([97], k) = look Y.G ([97], k)
  a : X.acc [97] = Y.acc [97]
theorem Apt.mt : Apt MM.mt MM.mt := ⟨fun _ => rfl, rfl⟩
theorem key_ne {s : List UInt8} (hs : s ≠ [97]) (k j : Id32) : (([97], k) : MKey) ≠ (s, j) := fun e => hs (congrArg Prod.fst e).symm
theorem Apt.addR {X Y : MM} (h : Apt X Y) {s : List UInt8} (hs : s ≠ [97]) (k : Id32) (n : Int) : Apt X (addX Y s k n) := by
  cases hb : addB Y s k n with
  | false => rw [addX_F hb]; exact h
  | true =>
    rw [addX_T hb]
    refine ⟨fun j => ?_, ?_⟩
    · rw [look_put, if_neg (key_ne hs j k)]; exact h.l j
    · rw [acc_put, if_neg (fun e => hs e.symm)]; exact h.a
theorem Apt.dropR {X Y : MM} (h : Apt X Y) (hY : Y.Inv) {s : List UInt8} (hs : s ≠ [97]) (k : Id32) : Apt X (dropX Y s k) := by
  cases hb : (look Y.G (s, k)).isSome with
  | false => rw [dropX_F hb]; exact h
  | true =>
    rw [dropX_T hb]
    refine ⟨fun j => ?_, ?_⟩
    · rw [look_drop hY, if_neg (key_ne hs j k)]; exact h.l j
    · rw [acc_put, if_neg (fun e => hs e.symm)]; exact h.a
theorem Apt.quotaR {X Y : MM} (h : Apt X Y) {s : List UInt8} (hs : s ≠ [97]) (n : Int) : Apt X (quotaX Y s n) := by
  refine ⟨h.l, ?_⟩
  rw [quotaX, acc_put, if_neg (fun e => hs e.symm)]; exact h.a
theorem Apt.addB {X Y : MM} (h : Apt X Y) (k : Id32) (n : Int) : addB X [97] k n = addB Y [97] k n := by rw [Proofs.Ytncmcgcilijfkaa.addB, Proofs.Ytncmcgcilijfkaa.addB, h.l k, h.a]
theorem Apt.addE {X Y : MM} (h : Apt X Y) (k : Id32) (n : Int) : addE X [97] k n = addE Y [97] k n := by rw [Proofs.Ytncmcgcilijfkaa.addE, Proofs.Ytncmcgcilijfkaa.addE, h.l k, h.a]
theorem Apt.dropE {X Y : MM} (h : Apt X Y) (k : Id32) : dropE X [97] k = dropE Y [97] k := by rw [Proofs.Ytncmcgcilijfkaa.dropE, Proofs.Ytncmcgcilijfkaa.dropE, h.l k]
theorem Apt.add {X Y : MM} (h : Apt X Y) (k : Id32) (n : Int) : Apt (addX X [97] k n) (addX Y [97] k n) := by
  have hB := h.addB k n
  cases hb : Proofs.Ytncmcgcilijfkaa.addB Y [97] k n with
  | false => rw [hb] at hB; rw [addX_F hb, addX_F hB]; exact h
  | true =>
    rw [hb] at hB
    rw [addX_T hb, addX_T hB]
    refine ⟨fun j => ?_, ?_⟩
    · rw [look_put, look_put, h.l j]
    · rw [acc_put, acc_put, if_pos rfl, if_pos rfl, h.a]
theorem Apt.drop {X Y : MM} (h : Apt X Y) (hX : X.Inv) (hY : Y.Inv) (k : Id32) : Apt (dropX X [97] k) (dropX Y [97] k) := by
  have hB := congrArg Option.isSome (h.l k)
  cases hb : (look Y.G ([97], k)).isSome with
  | false => rw [hb] at hB; rw [dropX_F hb, dropX_F hB]; exact h
  | true =>
    rw [hb] at hB
    rw [dropX_T hb, dropX_T hB]
    refine ⟨fun j => ?_, ?_⟩
    · rw [look_drop hX, look_drop hY, h.l j]
    · rw [acc_put, acc_put, if_pos rfl, if_pos rfl, h.a, h.l k]
theorem Apt.quota {X Y : MM} (h : Apt X Y) (n : Int) : Apt (quotaX X [97] n) (quotaX Y [97] n) := by
  refine ⟨h.l, ?_⟩
  rw [quotaX, quotaX, acc_put, acc_put, if_pos rfl, if_pos rfl, h.a]
end Go.Proofs.Ytncmcgcilijfkaa
namespace Go.Proofs.Ytncmcgcilijfkaa
open Go Go.ChangeShapes Go.WideShapes Go.ChangeAt Go.RowKit Go.Deep Go.ChangeMaps
set_option maxRecDepth 100000
section
variable {H : Type} {enc : TypeId × Value → H} {W : World} {base : Nat} {spare : Nat → Bool} {held : Bool}
theorem Gl.ok_nil {α : Type} {enc : α → List Value} {sz : Nat} (w : World) : (⟨none, 0, 0, []⟩ : Gl α).ok enc sz w := ⟨.inl rfl, rfl, Nat.le_refl _, Nat.zero_le _, fun c hc => (by cases hc)⟩
theorem open_u8v {fuel : Nat} {cs : List Value} {x : DataW H × List MemPlace} {t : TypeId} (ht : Try.prog.underlying t = some (.int .u8)) (h : DataW.trod enc Try.prog W base spare held fuel t cs = some x) : ∃ u : UInt8, cs = [V8 u] := by
  obtain ⟨n, rfl, _, hw⟩ := DataW.trod_int ht h
  exact ⟨byteOf (.int .u8 n), by rw [byteOf_V8 hw]⟩
theorem open_rowsP {P : Program} {α : Type} [Inhabited α] {p : α → Prop} {en : α → List Value} {sz : Nat} {t e : TypeId} {fuel : Nat} {cs : List Value} {x : DataW H × List MemPlace} (ht : P.underlying t = some (.slice e)) (hsz : P.cellsOf e = sz) (hz : 0 < sz)
    (hrow : ∀ (fuel : Nat) (cs : List Value) (x : DataW H × List MemPlace), DataW.trod enc P W base spare held fuel e cs = some x → ∃ c : α, cs = en c ∧ (en c).length = sz ∧ p c)
    (h : DataW.trod enc P W base spare held fuel t cs = some x) : ∃ g : Gl α, cs = [g.v] ∧ g.ok en sz W ∧ ∀ c ∈ g.l, p c := by
  rcases DataW.trod_slice ht h with ⟨rfl, _⟩ | ⟨a, len, cap, elems, rest, n, _, rfl, _, _, hl, hm, hlen, hel, _, _⟩
  · exact ⟨⟨none, 0, 0, []⟩, rfl, Gl.ok_nil _, fun _ h => by cases h⟩
  · have hs : ∀ i, i < len → ∃ c : α, (∀ j v, (en c)[j]? = some v → W.cell? (a.add (i * sz + j)) = some v) ∧ (en c).length = sz ∧ p c := by
      intro i hi
      have h1 := hel i hi
      rw [List.getElem?_eq_getElem (by omega), hsz] at h1
      obtain ⟨cs, hcs, htr⟩ := Option.bind_eq_some_iff.1 h1
      obtain ⟨c, rfl, hc⟩ := hrow _ _ _ htr
      refine ⟨c, fun j v hv => ?_, hc⟩
      have hlt : j < sz := by rw [← hc.1]; exact (List.getElem?_eq_some_iff.1 hv).1
      obtain ⟨_, _, hq⟩ := World.cells?_some hcs
      have := hq j hlt
      rw [hv, Addr.add_add] at this
      exact this
    obtain ⟨F, hF⟩ := choose_lt (α := α) (p := fun i c => (∀ j v, (en c)[j]? = some v → W.cell? (a.add (i * sz + j)) = some v) ∧ (en c).length = sz ∧ p c) hs
    have hsz' : ∀ c ∈ (List.range len).map F, (en c).length = sz := by
      intro c hc
      simp only [List.mem_map, List.mem_range] at hc
      obtain ⟨i, hi, rfl⟩ := hc
      exact (hF i hi).2.1
    have hall : ∀ c ∈ (List.range len).map F, p c := by
      intro c hc
      simp only [List.mem_map, List.mem_range] at hc
      obtain ⟨i, hi, rfl⟩ := hc
      exact (hF i hi).2.2
    refine ⟨⟨some a, len, cap, (List.range len).map F⟩, rfl, ⟨rd_of_cells fun i v hv => ?_, by simp, hl, hm, hsz'⟩, hall⟩
    have hlt : i < len * sz := by
      have := (List.getElem?_eq_some_iff.1 hv).1
      rw [flat_len hsz'] at this; simpa using this
    have hq : i / sz < len := Nat.div_lt_of_lt_mul (by rw [Nat.mul_comm]; exact hlt)
    have hk : ((List.range len).map F)[i / sz]? = some (F (i / sz)) := by simp [hq]
    have hrow' := flat_at hsz' hk
    have hv' : (en (F (i / sz)))[i % sz]? = some v := by
      rw [← hrow', List.getElem?_take_of_lt (Nat.mod_lt _ hz), List.getElem?_drop, Nat.div_add_mod']
      exact hv
    have := (hF (i / sz) hq).1 _ _ hv'
    rwa [Nat.div_add_mod'] at this
instance : Inhabited OpM := ⟨⟨0, [], 0, 0⟩⟩
theorem cellsOpM : Try.prog.cellsOf 30 = 4 := by kernel_rfl
theorem trod_opm (fuel : Nat) (cs : List Value) (x : DataW H × List MemPlace) (h : DataW.trod enc Try.prog W base spare held fuel 30 cs = some x) :
    ∃ c : OpM, cs = opE c ∧ (opE c).length = 4 ∧ c.n ≤ 9223372036854775807 := by
  obtain ⟨xs, n, _, _, hl, hx, hi⟩ := DataW.trod_struct Try.underlying30 h
  have hs : ∀ i, i < 4 → ∃ y, xs[i]? = some y := fun i hi => ⟨_, List.getElem?_eq_getElem (by rw [hx]; exact hi)⟩
  obtain ⟨y0, e0⟩ := hs 0 (by decide)
  obtain ⟨y1, e1⟩ := hs 1 (by decide)
  obtain ⟨y2, e2⟩ := hs 2 (by decide)
  obtain ⟨y3, e3⟩ := hs 3 (by decide)
  have h0 := (hi 0 _ rfl).trans e0
  have h1 := (hi 1 _ rfl).trans e1
  have h2 := (hi 2 _ rfl).trans e2
  have h3 := (hi 3 _ rfl).trans e3
  obtain ⟨a0, q0, _, w0⟩ := DataW.trod_int (t := 3) (k := .i64) (by kernel_rfl) h0
  obtain ⟨a1, q1, _, _⟩ := DataW.trod_string (t := 9) (by kernel_rfl) h1
  obtain ⟨a2, q2⟩ := open_u8v (t := 5) (by kernel_rfl) h2
  obtain ⟨a3, q3, _, w3⟩ := DataW.trod_int (t := 2) (k := .i64) (by kernel_rfl) h3
  have f1 : Try.prog.cellsOf 5 = 1 := by kernel_rfl
  have f2 : Try.prog.cellsOf 9 = 1 := by kernel_rfl
  have f3 : Try.prog.cellsOf 3 = 1 := by kernel_rfl
  have f4 : Try.prog.cellsOf 2 = 1 := by kernel_rfl
  replace q0 : (cs.drop 0).take (Try.prog.cellsOf 3) = _ := q0
  rw [f3] at q0
  replace q1 : (cs.drop 1).take (Try.prog.cellsOf 9) = _ := q1
  rw [f2] at q1
  replace q2 : (cs.drop 2).take (Try.prog.cellsOf 5) = _ := q2
  rw [f1] at q2
  replace q3 : (cs.drop 3).take (Try.prog.cellsOf 2) = _ := q3
  rw [f4] at q3
  rw [cellsOpM] at hl
  have s : ∀ k v, (cs.drop k).take 1 = [v] → cs.drop k = v :: cs.drop (k + 1) := fun k v h => by
    have := List.take_append_drop 1 (cs.drop k)
    rw [h, List.drop_drop] at this
    exact this.symm
  refine ⟨⟨a0, a1.data.toList, a2, a3⟩, ?_, rfl, (bounds_i64 w3).2⟩
  have z : cs.drop 0 = [VI a0, .string a1, V8 a2, VI a3] := by
    rw [s 0 _ q0, s (0 + 1) _ q1, s (0 + 1 + 1) _ q2, s (0 + 1 + 1 + 1) _ q3, List.drop_of_length_le (by omega)]
  rw [List.drop_zero] at z
  exact z
theorem open_opms {base0 : Nat} {v : Value} {d : DataW H} {p : List MemPlace} (hval : Value.okWide Try.prog W .any base0 22 v) (h : DataW.Trod enc Try.prog W base spare held 22 v d p) :
    ∃ g : Gl OpM, v = g.v ∧ g.ok opE 4 W ∧ ∀ c ∈ g.l, c.n ≤ 9223372036854775807 := by
  obtain ⟨a, len, cap, rfl⟩ := okWide_slice Try.underlying22 hval
  obtain ⟨fuel, hf⟩ := h
  obtain ⟨g, hg, hok⟩ := open_rowsP Try.underlying22 cellsOpM (by decide) trod_opm hf
  refine ⟨g, ?_, hok⟩
  simpa [Value.cells] using hg
end
end Go.Proofs.Ytncmcgcilijfkaa
namespace Go.Proofs.Ytncmcgcilijfkaa
open Go
set_option maxRecDepth 100000
theorem place_ret (w : World) (k n : Int) (hn : 1 ≤ n) (hm : n ≤ 4611686018427387904) : Ret Try.prog 16 [VI k, VI n] w fun v w' => ∃ m : Nat, v = VI (m : Int) ∧ (m : Int) < n ∧ w' = w := by
  refine ret_mk Try.func16 rfl Try.ntmps16 (by simp) ?_
  have hb := tmod_lt k n (by omega)
  obtain ⟨r, hr⟩ : ∃ r, k.tmod n = r := ⟨_, rfl⟩
  rw [hr] at hb
  repeat refine c_seq ?_
  refine c_region ?_
  refine l_op (o_as ?_)
  first | refine l_end ?_ | refine l_nil ?_
  repeat refine c_seq ?_
  refine c_region ?_
  refine l_op (o_mv ?_)
  refine l_op (o_bin rfl rfl (fun _ => b_lssB false (decide_eq_false (by omega))) ?_)
  first | refine l_end ?_ | refine l_nil ?_
  repeat refine c_seq ?_
  refine c_no rfl ?_
  refine c_skip ?_
  repeat refine c_seq ?_
  refine c_region ?_
  refine l_op (o_mv ?_)
  refine l_op (o_mv ?_)
  refine l_op (o_bin (v := VI r) rfl rfl (fun _ => by rw [← hr]; exact b_remT (by omega)) ?_)
  refine l_op (o_as ?_)
  first | refine l_end ?_ | refine l_nil ?_
  by_cases h0 : r < 0
  · skip
    repeat refine c_seq ?_
    refine c_region ?_
    refine l_op (o_mv ?_)
    refine l_op (o_bin rfl rfl (fun _ => b_lssB true (decide_eq_true h0)) ?_)
    first | refine l_end ?_ | refine l_nil ?_
    repeat refine c_seq ?_
    refine c_yes rfl ?_
    repeat refine c_seq ?_
    refine c_region ?_
    refine l_op (o_mv ?_)
    refine l_op (o_mv ?_)
    refine l_op (o_bin rfl rfl (fun _ => b_add (by omega) (by omega)) ?_)
    refine l_op (o_as ?_)
    first | refine l_end ?_ | refine l_nil ?_
    repeat refine c_seq ?_
    refine c_region ?_
    refine l_op (o_mv ?_)
    refine l_op (o_as ?_)
    first | refine l_end ?_ | refine l_nil ?_
    refine c_ret (e_ret1 (v := VI ((r + n).toNat : Int)) Try.results16 ?_ ⟨_, rfl, (r + n).toNat, rfl, by omega, rfl⟩)
    have e : ((r + n).toNat : Int) = r + n := by omega
    rw [e]; rfl
  · skip
    repeat refine c_seq ?_
    refine c_region ?_
    refine l_op (o_mv ?_)
    refine l_op (o_bin rfl rfl (fun _ => b_lssB false (decide_eq_false h0)) ?_)
    first | refine l_end ?_ | refine l_nil ?_
    repeat refine c_seq ?_
    refine c_no rfl ?_
    refine c_skip ?_
    repeat refine c_seq ?_
    refine c_region ?_
    refine l_op (o_mv ?_)
    refine l_op (o_as ?_)
    first | refine l_end ?_ | refine l_nil ?_
    refine c_ret (e_ret1 (v := VI (r.toNat : Int)) Try.results16 ?_ ⟨_, rfl, r.toNat, rfl, by omega, rfl⟩)
    have e : (r.toNat : Int) = r := by omega
    rw [e]; rfl
end Go.Proofs.Ytncmcgcilijfkaa
namespace Go.Proofs.Ytncmcgcilijfkaa
open Go
set_option maxRecDepth 100000
theorem lightM_ret (w0 : World) (g : Gl OpM) (hg : g.ok opE 4 w0) (m : Nat) (_hm : m ≤ 65536) :
    Ret Try.prog 14 [g.v, VI (m : Int)] w0 fun v w' => v = .bool (lightM g.l m) ∧ Hp w0 w' [] [] := by
  refine ret_mk Try.func14 rfl Try.ntmps14 (by simp) ?_
  have H := Hp.refl w0 []
  have hgl := hg.ln
  have hge := hg.le
  have hgx := hg.mx
  have hmL : maxLen = 9223372036854775807 := rfl
  repeat refine c_seq ?_
  refine c_region ?_
  refine l_op (o_val (r_as) ?_)
  first | refine l_end ?_ | refine l_nil ?_
  repeat refine c_seq ?_
  refine c_region ?_
  refine l_op (o_val (r_mv) ?_)
  refine l_op (o_val (r_lens el22 rfl) ?_)
  refine l_op (o_val (r_mv) ?_)
  refine l_op (o_val (r_bin (a := (g.len : Int)) (b := (m : Int)) rfl rfl (fun _ => b_gtr)) ?_)
  first | refine l_end ?_ | refine l_nil ?_
  by_cases hc1 : (m : Int) < (g.len : Int)
  ·
   repeat refine c_seq ?_
   refine c_yes (by exact congrArg Value.bool (decide_eq_true hc1)) ?_
   repeat refine c_seq ?_
   refine c_region ?_
   refine l_op (o_val (r_as) ?_)
   first | refine l_end ?_ | refine l_nil ?_
   refine c_ret ?_
   try dsimp only [Exit.then, Exit.inBlock]
   refine e_ret1 (v := .bool false) Try.results14 rfl ?_
   refine ⟨_, rfl, ?_⟩
   refine ⟨?_, H⟩
   have e : lightM g.l m = false := Bool.eq_false_iff.2 fun h => by
     have h2 := ((lightM_iff _ _).1 h).1
     omega
   rw [e]
  ·
   repeat refine c_seq ?_
   refine c_no (by exact congrArg Value.bool (decide_eq_false hc1)) ?_
   refine c_skip ?_
   repeat refine c_seq ?_
   refine c_region ?_
   refine l_op (o_val (r_as) ?_)
   first | refine l_end ?_ | refine l_nil ?_
   repeat refine c_seq ?_
   refine c_block ?_
   repeat refine c_seq ?_
   refine c_loop (fun (i : Nat) => [(0, g.v), (5, VI (i : Int))])
     (fun (i : Nat) w => (i ≤ g.len ∧ ∀ (j : Nat) (x : OpM), j < i → g.l[j]? = some x → x.who.length ≤ 100) ∧ Hp w0 w [] ([]))
     (fun (i : Nat) => g.len - i) 0 ⟨rfl, rfl, trivial⟩ ⟨⟨Nat.zero_le _, fun j x hj => absurd hj (by omega)⟩, H⟩ ?_
   clear H
   rintro i τ w ⟨⟨hi, hall⟩, H⟩
   repeat refine c_seq ?_
   refine c_region ?_
   refine l_op (o_val (r_mv) ?_)
   refine l_op (o_val (r_mv) ?_)
   refine l_op (o_val (r_lens el22 rfl) ?_)
   refine l_op (o_val (r_bin (a := (i : Int)) (b := (g.len : Int)) rfl rfl (fun _ => b_lss)) ?_)
   first | refine l_end ?_ | refine l_nil ?_
   by_cases hc2 : (i : Int) < (g.len : Int)
   ·
    repeat refine c_seq ?_
    refine c_yes (by exact congrArg Value.bool (decide_eq_true hc2)) ?_
    refine c_skip ?_
    repeat refine c_seq ?_
    refine c_block ?_
    repeat refine c_seq ?_
    refine c_region ?_
    refine l_op (o_val (r_mv) ?_)
    refine l_op (o_val (r_mv) ?_)
    have ah5 := ((hg.up H)).addr (by decide) (by first | omega | (dsimp only; omega))
    obtain ⟨ab3, ao4, ah5⟩ := ah5
    refine l_op (o_val (r_isN i rfl rfl el22 ah5 (by omega) (by (try simp only [Sl.cut]); omega)) ?_)
    refine l_op (o_val (r_fa rfl fo30_1) ?_)
    have he7 : ∃ c, g.l[i]? = some c := ⟨_, List.getElem?_eq_getElem (by have := ((hg.up H)).ln; (try dsimp only at this ⊢); omega)⟩
    obtain ⟨e6, he7⟩ := he7
    have hez8 := ((hg.up H)).sz e6 (List.mem_of_getElem? he7)
    refine l_op (o_val (r_ldFld (v := .string ⟨(e6.who).toArray⟩) (s := g) (k := i) (off := 1) (hg.up H) ah5 rfl ct9 he7 (by decide) rfl) ?_)
    refine l_op (o_val (r_lenstr (s := ⟨(e6.who).toArray⟩) Try.underlying9 rfl) ?_)
    refine l_op (o_val (r_bin (a := ((e6.who).length : Int)) (b := 100) rfl rfl (fun _ => b_gtr)) ?_)
    first | refine l_end ?_ | refine l_nil ?_
    by_cases hc9 : 100 < ((e6.who).length : Int)
    ·
     repeat refine c_seq ?_
     refine c_yes (by exact congrArg Value.bool (decide_eq_true hc9)) ?_
     repeat refine c_seq ?_
     refine c_region ?_
     refine l_op (o_val (r_as) ?_)
     first | refine l_end ?_ | refine l_nil ?_
     refine c_ret ?_
     try dsimp only [Exit.then, Exit.inBlock]
     refine e_ret1 (v := .bool false) Try.results14 rfl ?_
     refine ⟨_, rfl, ?_⟩
     refine ⟨?_, H⟩
     have e : lightM g.l m = false := Bool.eq_false_iff.2 fun h => by
       have h2 := ((lightM_iff _ _).1 h).2 _ (List.mem_of_getElem? he7)
       omega
     rw [e]
    ·
     repeat refine c_seq ?_
     refine c_no (by exact congrArg Value.bool (decide_eq_false hc9)) ?_
     refine c_skip ?_
     repeat refine c_seq ?_
     refine c_region ?_
     refine l_op (o_val (r_mv) ?_)
     refine l_op (o_val (r_bin (a := (i : Int)) (b := 1) rfl rfl (fun _ => b_add (by omega) (by omega))) ?_)
     refine l_op (o_val (r_as) ?_)
     first | refine l_end ?_ | refine l_nil ?_
     refine round_end (i + 1) ?_ ?_ ?_
     · exact ⟨rfl, show VI ((i : Int) + 1) = VI ((i + 1 : Nat) : Int) from congrArg VI (by omega), trivial⟩
     · refine ⟨?_, ?_⟩
       · try dsimp only
         exact ⟨by omega, fun j x hj hjx => by
           by_cases hji : j < i
           · exact hall j x hji hjx
           · have e : j = i := by omega
             rw [e, he7] at hjx
             cases hjx
             omega⟩
       · exact H
     · show g.len - (i + 1 : Nat) < g.len - i; omega
   ·
    repeat refine c_seq ?_
    refine c_no (by exact congrArg Value.bool (decide_eq_false hc2)) ?_
    refine c_exit ?_
    repeat refine c_seq ?_
    refine c_region ?_
    refine l_op (o_val (r_as) ?_)
    first | refine l_end ?_ | refine l_nil ?_
    refine c_ret ?_
    try dsimp only [Exit.then, Exit.inBlock]
    refine e_ret1 (v := .bool true) Try.results14 rfl ?_
    refine ⟨_, rfl, ?_⟩
    refine ⟨?_, H⟩
    rw [(lightM_iff _ _).2 ⟨by omega, fun x hx => by
      obtain ⟨j, hj⟩ := List.getElem?_of_mem hx
      exact hall j x (by have := (List.getElem?_eq_some_iff.1 hj).1; omega) hj⟩]
theorem begunM_ret (w0 : World) :
    Ret Try.prog 13 [] w0 fun v w' => v = .bool true ∧ Hp w0 w' [] [] := by
  refine ret_mk Try.func13 rfl Try.ntmps13 (by simp) ?_
  have H := Hp.refl w0 []
  have hG0 : MW.mt.X.G.length = 0 := rfl
  repeat refine c_seq ?_
  refine c_region ?_
  refine l_op (o_val (r_as) ?_)
  first | refine l_end ?_ | refine l_nil ?_
  repeat refine c_seq ?_
  refine c_region ?_
  refine l_op (o_callR Try.func15 rfl rfl rfl (mnew_ret _) ?_)
  rintro _ w ⟨nb1, nb2, nb3, rfl, Hc⟩
  replace H : Hp _ w _ ([.obj nb2 (mobj kT MW.mt.Mh MW.mt.c1), .obj nb3 (mobj kS MW.mt.Ma MW.mt.c2), .blk nb1 ([.map (some nb2), .map (some nb3)]) 54]) := H.call Hc
  clear Hc
  refine l_op (o_val (r_as) ?_)
  first | refine l_end ?_ | refine l_nil ?_
  repeat refine c_seq ?_
  refine c_region ?_
  refine l_op (o_val (r_mv) ?_)
  refine l_op (o_callR Try.func19 rfl rfl rfl (quota_m _ _ _ _ MW.mt (mst_of H (i := 2) (j := 0) (k := 1) rfl rfl rfl (by decide) (by decide) (by decide) MW.mt_ok.fh MW.mt_ok.fa MW.mt_ok.oh MW.mt_ok.oa) MW.mt_ok ([97] : List UInt8) 5 (by omega)) ?_)
  rintro _ w ⟨rfl, z4, hzx5, hzo6, Hc⟩
  replace H := (met_at H (i := 2) (j := 0) (k := 1) rfl rfl rfl (by decide) (by decide) (by decide) Hc)
  clear Hc
  replace H : Hp _ w _ ([.obj nb2 (mobj kT z4.Mh z4.c1), .obj nb3 (mobj kS z4.Ma z4.c2), _]) := H
  replace hzx5 : z4.X = quotaX MW.mt.X ([97] : List UInt8) 5 := hzx5
  have hzx5l : z4.X.G.length = MW.mt.X.G.length := by rw [hzx5]; rfl
  first | refine l_end ?_ | refine l_nil ?_
  repeat refine c_seq ?_
  refine c_region ?_
  refine l_op (o_val (r_mv) ?_)
  refine l_op (o_val (r_bld' (cells := ((((1 : UInt8) :: List.replicate 31 (0 : UInt8))).map V8).toArray) (pv := [(0, V8 (1 : UInt8))]) bd36 rfl rfl) ?_)
  refine l_op (o_callR Try.func17 rfl rfl rfl (add_m _ _ _ _ z4 (mst_of H (i := 2) (j := 0) (k := 1) rfl rfl rfl (by decide) (by decide) (by decide) hzo6.fh hzo6.fa hzo6.oh hzo6.oa) hzo6 (by omega) ([97] : List UInt8) (idB (1 : UInt8)).1 (idB (1 : UInt8)).2 3) ?_)
  rintro _ w ⟨rfl, z7, hzx8, hzo9, Hc⟩
  replace H := (met_at H (i := 2) (j := 0) (k := 1) rfl rfl rfl (by decide) (by decide) (by decide) Hc)
  clear Hc
  replace H : Hp _ w _ ([.obj nb2 (mobj kT z7.Mh z7.c1), .obj nb3 (mobj kS z7.Ma z7.c2), _]) := H
  replace hzx8 : z7.X = addX z4.X ([97] : List UInt8) (idB (1 : UInt8)) 3 := hzx8
  have hzx8l := add_len z4.X ([97] : List UInt8) (idB (1 : UInt8)) 3
  rw [← hzx8] at hzx8l
  refine l_op (o_val (r_mv) ?_)
  refine l_op (o_val (r_ext rfl rfl) ?_)
  have hk10 : (addB z4.X ([97] : List UInt8) (idB (1 : UInt8)) 3) = true := (by simp only [hzx5]; rfl)
  refine l_op (o_val (r_ext rfl rfl) ?_)
  refine l_op (o_val (r_as) ?_)
  refine l_op (o_val (r_as) ?_)
  first | refine l_end ?_ | refine l_nil ?_
  repeat refine c_seq ?_
  refine c_region ?_
  refine l_op (o_val (r_mv) ?_)
  refine l_op (o_val (r_bld' (cells := ((((2 : UInt8) :: List.replicate 31 (0 : UInt8))).map V8).toArray) (pv := [(0, V8 (2 : UInt8))]) bd36 rfl rfl) ?_)
  refine l_op (o_callR Try.func17 rfl rfl rfl (add_m _ _ _ _ z7 (mst_of H (i := 2) (j := 0) (k := 1) rfl rfl rfl (by decide) (by decide) (by decide) hzo9.fh hzo9.fa hzo9.oh hzo9.oa) hzo9 (by omega) ([97] : List UInt8) (idB (2 : UInt8)).1 (idB (2 : UInt8)).2 3) ?_)
  rintro _ w ⟨rfl, z11, hzx12, hzo13, Hc⟩
  replace H := (met_at H (i := 2) (j := 0) (k := 1) rfl rfl rfl (by decide) (by decide) (by decide) Hc)
  clear Hc
  replace H : Hp _ w _ ([.obj nb2 (mobj kT z11.Mh z11.c1), .obj nb3 (mobj kS z11.Ma z11.c2), _]) := H
  replace hzx12 : z11.X = addX z7.X ([97] : List UInt8) (idB (2 : UInt8)) 3 := hzx12
  have hzx12l := add_len z7.X ([97] : List UInt8) (idB (2 : UInt8)) 3
  rw [← hzx12] at hzx12l
  refine l_op (o_val (r_mv) ?_)
  refine l_op (o_val (r_ext rfl rfl) ?_)
  refine l_op (o_val (r_ext rfl rfl) ?_)
  refine l_op (o_val (r_as) ?_)
  refine l_op (o_val (r_as) ?_)
  first | refine l_end ?_ | refine l_nil ?_
  repeat refine c_seq ?_
  refine c_region ?_
  refine l_op (o_val (r_mv) ?_)
  refine l_op (o_val (r_mv) ?_)
  refine l_yes rfl rfl (by exact congrArg Value.bool hk10) (o_val (r_mv) ?_)
  refine l_yes rfl rfl (by exact congrArg Value.bool hk10) (o_val (r_bin (a := addE z4.X ([97] : List UInt8) (idB (1 : UInt8)) 3) (b := 0) rfl rfl (fun _ => b_eqlB true (decide_eq_true (by simp only [hzx5]; rfl)))) ?_)
  refine l_op (o_val (r_pick (b := true) (congrArg Value.bool hk10)) ?_)
  refine l_op (o_val (r_mv) ?_)
  refine l_yes rfl rfl rfl (o_val (r_mv) ?_)
  refine l_yes rfl rfl rfl (o_val (r_bin (a := addE z7.X ([97] : List UInt8) (idB (2 : UInt8)) 3) (b := 16) rfl rfl (fun _ => b_eqlB true (decide_eq_true (by simp only [hzx8, hzx5]; rfl)))) ?_)
  refine l_op (o_val (r_pick rfl) ?_)
  refine l_op (o_val (r_mv) ?_)
  refine l_yes rfl rfl rfl (o_val (r_mv) ?_)
  refine l_yes rfl rfl rfl (o_callR Try.func20 rfl rfl rfl (used_m _ _ _ _ z11 (mst_of H (i := 2) (j := 0) (k := 1) rfl rfl rfl (by decide) (by decide) (by decide) hzo13.fh hzo13.fa hzo13.oh hzo13.oa) hzo13 ([97] : List UInt8)) ?_)
  rintro _ w ⟨rfl, z14, hzx15, hzo16, Hc⟩
  replace H := (met_at H (i := 2) (j := 0) (k := 1) rfl rfl rfl (by decide) (by decide) (by decide) Hc)
  clear Hc
  replace H : Hp _ w _ ([.obj nb2 (mobj kT z14.Mh z14.c1), .obj nb3 (mobj kS z14.Ma z14.c2), _]) := H
  replace hzx15 : z14.X = z11.X := hzx15
  have hzx15l : z14.X.G.length = z11.X.G.length := by rw [hzx15]
  refine l_yes rfl rfl rfl (o_val (r_bin (a := (z11.X.acc ([97] : List UInt8)).used) (b := 3) rfl rfl (fun _ => b_eqlB true (decide_eq_true (by simp only [hzx12, hzx8, hzx5]; rfl)))) ?_)
  refine l_op (o_val (r_pick rfl) ?_)
  refine l_op (o_val (r_as) ?_)
  first | refine l_end ?_ | refine l_nil ?_
  refine c_ret ?_
  try dsimp only [Exit.then, Exit.inBlock]
  refine e_ret1 (v := .bool true) Try.results13 rfl ?_
  refine ⟨_, rfl, ?_⟩
  exact ⟨rfl, H.sub (List.nil_sublist _)⟩
end Go.Proofs.Ytncmcgcilijfkaa
namespace Go.Proofs.Ytncmcgcilijfkaa
open Go
set_option maxRecDepth 100000
set_option maxHeartbeats 4000000 in
theorem meterApart_ret (w0 : World) (g o : Gl OpM) (hg : g.ok opE 4 w0) (ha : ∀ e ∈ g.l, e.n ≤ 9223372036854775807) (ho : o.ok opE 4 w0) (hb : ∀ e ∈ o.l, e.n ≤ 9223372036854775807) :
    Ret Try.prog 4 [g.v, o.v] w0 fun v w' => v = .bool true ∧ Hp w0 w' [] [] := by
  refine ret_mk Try.func4 rfl Try.ntmps4 (by simp) ?_
  have H := Hp.refl w0 []
  have hgl := hg.ln
  have hge := hg.le
  have hgx := hg.mx
  have hmL : maxLen = 9223372036854775807 := rfl
  have hol := ho.ln
  have hoe := ho.le
  have hox := ho.mx
  have hG0 : MW.mt.X.G.length = 0 := rfl
  repeat refine c_seq ?_
  refine c_region ?_
  refine l_op (o_val (r_as) ?_)
  first | refine l_end ?_ | refine l_nil ?_
  repeat refine c_seq ?_
  refine c_region ?_
  refine l_op (o_callR Try.func13 rfl rfl rfl (begunM_ret _) ?_)
  rintro _ w ⟨rfl, Hc⟩
  replace H : Hp _ w _ ([]) := H.call Hc
  clear Hc
  refine l_op (o_val (r_not rfl) ?_)
  first | refine l_end ?_ | refine l_nil ?_
  repeat refine c_seq ?_
  refine c_no rfl ?_
  refine c_skip ?_
  repeat refine c_seq ?_
  refine c_region ?_
  refine l_op (o_val (r_mv) ?_)
  refine l_op (o_callR Try.func14 rfl rfl rfl (lightM_ret _ g (hg.up H) 60 (by omega)) ?_)
  rintro _ w ⟨rfl, Hc⟩
  replace H : Hp _ w _ ([]) := H.call Hc
  clear Hc
  refine l_op (o_val (r_not rfl) ?_)
  refine l_op (o_val (r_mv) ?_)
  have hc10 := Bool.eq_false_or_eq_true (lightM g.l 60)
  rcases hc10 with hc1 | hc1
  ·
   refine l_yes rfl rfl (by exact congrArg Value.bool (congrArg not hc1)) (o_val (r_mv) ?_)
   refine l_yes rfl rfl (by exact congrArg Value.bool (congrArg not hc1)) (o_callR Try.func14 rfl rfl rfl (lightM_ret _ o (ho.up H) 60 (by omega)) ?_)
   rintro _ w ⟨rfl, Hc⟩
   replace H : Hp _ w _ ([]) := H.call Hc
   clear Hc
   refine l_yes rfl rfl (by exact congrArg Value.bool (congrArg not hc1)) (o_val (r_not rfl) ?_)
   refine l_op (o_val (r_pick (b := false) (congrArg Value.bool (congrArg not hc1))) ?_)
   first | refine l_end ?_ | refine l_nil ?_
   have hc20 := Bool.eq_false_or_eq_true (lightM o.l 60)
   rcases hc20 with hc2 | hc2
   ·
    repeat refine c_seq ?_
    refine c_no (by exact congrArg Value.bool (congrArg not hc2)) ?_
    refine c_skip ?_
    have hlg := ((lightM_iff _ _).1 hc1).1
    have hlo := ((lightM_iff _ _).1 hc2).1
    have hwo := ((lightM_iff _ _).1 hc2).2
    repeat refine c_seq ?_
    refine c_region ?_
    refine l_op (o_callR Try.func15 rfl rfl rfl (mnew_ret _) ?_)
    rintro _ w ⟨nb3, nb4, nb5, rfl, Hc⟩
    replace H : Hp _ w _ ([.obj nb4 (mobj kT MW.mt.Mh MW.mt.c1), .obj nb5 (mobj kS MW.mt.Ma MW.mt.c2), .blk nb3 ([.map (some nb4), .map (some nb5)]) 54]) := H.call Hc
    clear Hc
    refine l_op (o_callR Try.func15 rfl rfl rfl (mnew_ret _) ?_)
    rintro _ w ⟨nb6, nb7, nb8, rfl, Hc⟩
    replace H : Hp _ w _ ([_, _, _, .obj nb7 (mobj kT MW.mt.Mh MW.mt.c1), .obj nb8 (mobj kS MW.mt.Ma MW.mt.c2), .blk nb6 ([.map (some nb7), .map (some nb8)]) 54]) := H.call Hc
    clear Hc
    refine l_op (o_val (r_as) ?_)
    refine l_op (o_val (r_as) ?_)
    first | refine l_end ?_ | refine l_nil ?_
    repeat refine c_seq ?_
    refine c_region ?_
    refine l_op (o_val (r_as) ?_)
    first | refine l_end ?_ | refine l_nil ?_
    repeat refine c_seq ?_
    refine c_block ?_
    repeat refine c_seq ?_
    refine c_loop3 (fun (i : Nat) (z : MW) (y : MW) => [(0, g.v), (1, o.v), (5, .pointer (some ⟨nb3, 0, none⟩)), (6, .pointer (some ⟨nb6, 0, none⟩)), (7, VI (i : Int))])
      (fun (i : Nat) (z : MW) (y : MW) w => (i ≤ 60 ∧ z.ok ∧ y.ok ∧ Apt z.X y.X ∧ z.X.G.length ≤ i ∧ y.X.G.length ≤ 2 * i) ∧ Hp w0 w [] ([.obj nb4 (mobj kT z.Mh z.c1), .obj nb5 (mobj kS z.Ma z.c2), .blk nb3 ([.map (some nb4), .map (some nb5)]) 54, .obj nb7 (mobj kT y.Mh y.c1), .obj nb8 (mobj kS y.Ma y.c2), .blk nb6 ([.map (some nb7), .map (some nb8)]) 54]))
      (fun (i : Nat) (z : MW) (y : MW) => 61 - i) 0 MW.mt MW.mt ⟨rfl, rfl, rfl, rfl, rfl, trivial⟩ ⟨⟨Nat.zero_le _, MW.mt_ok, MW.mt_ok, Apt.mt, Nat.le_refl _, Nat.le_refl _⟩, H⟩ ?_
    clear H
    rintro i z y τ w ⟨⟨hi, hz, hy, hA, hzl, hyl⟩, H⟩
    repeat refine c_seq ?_
    refine c_region ?_
    refine l_op (o_val (r_mv) ?_)
    refine l_op (o_val (r_mv) ?_)
    refine l_op (o_val (r_lens el22 rfl) ?_)
    refine l_op (o_val (r_bin (a := (i : Int)) (b := (g.len : Int)) rfl rfl (fun _ => b_lss)) ?_)
    refine l_op (o_val (r_mv) ?_)
    by_cases hc9 : (i : Int) < (g.len : Int)
    ·
     refine l_no rfl rfl (by exact congrArg Value.bool (decide_eq_true hc9)) rfl ?_
     refine l_no rfl rfl (by exact congrArg Value.bool (decide_eq_true hc9)) rfl ?_
     refine l_no rfl rfl (by exact congrArg Value.bool (decide_eq_true hc9)) rfl ?_
     refine l_no rfl rfl (by exact congrArg Value.bool (decide_eq_true hc9)) rfl ?_
     refine l_op (o_val (r_pick (b := true) (congrArg Value.bool (decide_eq_true hc9))) ?_)
     first | refine l_end ?_ | refine l_nil ?_
     repeat refine c_seq ?_
     refine c_yes rfl ?_
     refine c_skip ?_
     repeat refine c_seq ?_
     refine c_block ?_
     repeat refine c_seq ?_
     refine c_region ?_
     refine l_op (o_val (r_mv) ?_)
     refine l_op (o_val (r_mv) ?_)
     refine l_op (o_val (r_lens el22 rfl) ?_)
     refine l_op (o_val (r_bin (a := (i : Int)) (b := (o.len : Int)) rfl rfl (fun _ => b_lss)) ?_)
     first | refine l_end ?_ | refine l_nil ?_
     by_cases hc10 : (i : Int) < (o.len : Int)
     ·
      repeat refine c_seq ?_
      refine c_yes (by exact congrArg Value.bool (decide_eq_true hc10)) ?_
      repeat refine c_seq ?_
      refine c_region ?_
      refine l_op (o_val (r_mv) ?_)
      refine l_op (o_val (r_mv) ?_)
      have ah13 := ((ho.up H)).addr (by decide) (by first | omega | (dsimp only; omega))
      obtain ⟨ab11, ao12, ah13⟩ := ah13
      refine l_op (o_val (r_isN i rfl rfl el22 ah13 (by omega) (by (try simp only [Sl.cut]); omega)) ?_)
      have he15 : ∃ c, o.l[i]? = some c := ⟨_, List.getElem?_eq_getElem (by have := ((ho.up H)).ln; (try dsimp only at this ⊢); omega)⟩
      obtain ⟨e14, he15⟩ := he15
      have hez16 := ((ho.up H)).sz e14 (List.mem_of_getElem? he15)
      refine l_op (o_val (r_ldRow (s := o) (k := i) (ho.up H) ah13 rfl rt30 (by decide) he15) ?_)
      refine l_op (o_alloc H zc30 (fun b17 w H hb17 => ?_))
      replace H : Hp _ w _ ([_, _, _, _, _, _, .blk b17 ([VI 0, .string ⟨(([] : List UInt8)).toArray⟩, V8 (0 : UInt8), VI 0]) 30]) := H
      refine l_op (o_stW (C' := [VI e14.kind, .string ⟨(e14.who).toArray⟩, V8 e14.k, VI e14.n]) H (i := 6) rfl rfl rfl cs30 (by simp [Value.oneCell']) (by rfl) (by rfl) (fun w H => ?_))
      replace H : Hp _ w _ ([_, _, _, _, _, _, .blk b17 ([VI e14.kind, .string ⟨(e14.who).toArray⟩, V8 e14.k, VI e14.n]) 30]) := H
      first | refine l_end ?_ | refine l_nil ?_
      have hwb := hwo _ (List.mem_of_getElem? he15)
      have hnb := hb _ (List.mem_of_getElem? he15)
      have hne : [98] ++ e14.who ≠ [97] := by simp
      repeat refine c_seq ?_
      refine c_region ?_
      refine l_op (o_val (r_fa rfl fo30_0) ?_)
      refine l_op (o_val (r_ld (v := VI e14.kind) H (i := 6) rfl rfl ct3 rfl) ?_)
      refine l_op (o_callR Try.func16 rfl rfl rfl (place_ret _ e14.kind 3 (by omega) (by omega)) ?_)
      rintro _ w' ⟨m18, rfl, hm19, hw20⟩
      rw [hw20]; clear hw20 w'
      first | refine l_end ?_ | refine l_nil ?_
      repeat refine c_seq ?_
      refine c_block ?_
      repeat refine c_seq ?_
      refine c_region ?_
      refine l_op (o_val (r_bin (a := (m18 : Int)) (b := 0) rfl rfl (fun _ => b_eql)) ?_)
      refine l_op (o_val (r_as) ?_)
      first | refine l_end ?_ | refine l_nil ?_
      by_cases hc21 : (m18 : Int) = 0
      ·
       repeat refine c_seq ?_
       refine c_yes (by exact congrArg Value.bool (decide_eq_true hc21)) ?_
       repeat refine c_seq ?_
       refine c_region ?_
       refine l_op (o_val (r_mv) ?_)
       refine l_op (o_val (r_fa rfl fo30_1) ?_)
       refine l_op (o_val (r_ld (v := .string ⟨(e14.who).toArray⟩) H (i := 6) rfl rfl ct9 rfl) ?_)
       refine l_op (o_val (r_stradd (a := ([98] : List UInt8)) (b := e14.who) rfl rfl (by (try simp only [List.length_cons, List.length_nil]); omega)) ?_)
       refine l_op (o_val (r_fa rfl fo30_2) ?_)
       refine l_op (o_val (r_ld (v := V8 e14.k) H (i := 6) rfl rfl ct5 rfl) ?_)
       refine l_op (o_val (r_bld' (cells := (((e14.k :: List.replicate 31 (0 : UInt8))).map V8).toArray) (pv := [(0, V8 e14.k)]) bd36 rfl rfl) ?_)
       refine l_op (o_val (r_fa rfl fo30_3) ?_)
       refine l_op (o_val (r_ld (v := VI e14.n) H (i := 6) rfl rfl ct2 rfl) ?_)
       refine l_op (o_callR Try.func17 rfl rfl rfl (add_m _ _ _ _ y (mst_of H (i := 5) (j := 3) (k := 4) rfl rfl rfl (by decide) (by decide) (by decide) hy.fh hy.fa hy.oh hy.oa) hy (by omega) (([98] : List UInt8) ++ e14.who) (idB e14.k).1 (idB e14.k).2 e14.n) ?_)
       rintro _ w ⟨rfl, z22, hzx23, hzo24, Hc⟩
       replace H := (met_at H (i := 5) (j := 3) (k := 4) rfl rfl rfl (by decide) (by decide) (by decide) Hc)
       clear Hc
       replace H : Hp _ w _ ([_, _, _, .obj nb7 (mobj kT z22.Mh z22.c1), .obj nb8 (mobj kS z22.Ma z22.c2), _, _]) := H
       replace hzx23 : z22.X = addX y.X (([98] : List UInt8) ++ e14.who) (idB e14.k) e14.n := hzx23
       have hzx23l := add_len y.X (([98] : List UInt8) ++ e14.who) (idB e14.k) e14.n
       rw [← hzx23] at hzx23l
       first | refine l_end ?_ | refine l_nil ?_
       have hA2 : Apt z.X z22.X := by
         rw [hzx23]
         first | exact hA.addR hne _ _ | exact hA.dropR hy.inv hne _ | exact hA.quotaR hne _
       repeat refine c_seq ?_
       refine c_region ?_
       refine l_op (o_val (r_mv) ?_)
       refine l_op (o_val (r_mv) ?_)
       refine l_op (o_val (r_lens el22 rfl) ?_)
       refine l_op (o_val (r_bin (a := (i : Int)) (b := (g.len : Int)) rfl rfl (fun _ => b_geq)) ?_)
       first | refine l_end ?_ | refine l_nil ?_
       by_cases hc25 : (g.len : Int) ≤ (i : Int)
       ·
        repeat refine c_seq ?_
        refine c_yes (by exact congrArg Value.bool (decide_eq_true hc25)) ?_
        refine c_exit ?_
        repeat refine c_seq ?_
        refine c_region ?_
        refine l_op (o_val (r_mv) ?_)
        refine l_op (o_val (r_bin (a := (i : Int)) (b := 1) rfl rfl (fun _ => b_add (by omega) (by omega))) ?_)
        refine l_op (o_val (r_as) ?_)
        first | refine l_end ?_ | refine l_nil ?_
        refine round_end (i + 1, z, z22) ?_ ?_ ?_
        · exact ⟨rfl, rfl, rfl, rfl, show VI ((i : Int) + 1) = VI ((i + 1 : Nat) : Int) from congrArg VI (by omega), trivial⟩
        · refine ⟨?_, ?_⟩
          · try dsimp only
            exact ⟨by omega, hz, hzo24, hA2, by omega, by omega⟩
          · exact H.sub (.cons_cons _ (.cons_cons _ (.cons_cons _ (.cons_cons _ (.cons_cons _ (.cons_cons _ (List.nil_sublist _)))))))
        · show 61 - (i + 1 : Nat) < 61 - i; omega
       ·
        repeat refine c_seq ?_
        refine c_no (by exact congrArg Value.bool (decide_eq_false hc25)) ?_
        refine c_skip ?_
        repeat refine c_seq ?_
        refine c_region ?_
        refine l_op (o_val (r_mv) ?_)
        refine l_op (o_val (r_mv) ?_)
        have ah28 := ((hg.up H)).addr (by decide) (by first | omega | (dsimp only; omega))
        obtain ⟨ab26, ao27, ah28⟩ := ah28
        refine l_op (o_val (r_isN i rfl rfl el22 ah28 (by omega) (by (try simp only [Sl.cut]); omega)) ?_)
        have he30 : ∃ c, g.l[i]? = some c := ⟨_, List.getElem?_eq_getElem (by have := ((hg.up H)).ln; (try dsimp only at this ⊢); omega)⟩
        obtain ⟨e29, he30⟩ := he30
        have hez31 := ((hg.up H)).sz e29 (List.mem_of_getElem? he30)
        refine l_op (o_val (r_ldRow (s := g) (k := i) (hg.up H) ah28 rfl rt30 (by decide) he30) ?_)
        refine l_op (o_alloc H zc30 (fun b32 w H hb32 => ?_))
        replace H : Hp _ w _ ([_, _, _, _, _, _, _, .blk b32 ([VI 0, .string ⟨(([] : List UInt8)).toArray⟩, V8 (0 : UInt8), VI 0]) 30]) := H
        refine l_op (o_stW (C' := [VI e29.kind, .string ⟨(e29.who).toArray⟩, V8 e29.k, VI e29.n]) H (i := 7) rfl rfl rfl cs30 (by simp [Value.oneCell']) (by rfl) (by rfl) (fun w H => ?_))
        replace H : Hp _ w _ ([_, _, _, _, _, _, _, .blk b32 ([VI e29.kind, .string ⟨(e29.who).toArray⟩, V8 e29.k, VI e29.n]) 30]) := H
        first | refine l_end ?_ | refine l_nil ?_
        have hnb2 := ha _ (List.mem_of_getElem? he30)
        repeat refine c_seq ?_
        refine c_region ?_
        refine l_op (o_val (r_fa rfl fo30_0) ?_)
        refine l_op (o_val (r_ld (v := VI e29.kind) H (i := 7) rfl rfl ct3 rfl) ?_)
        refine l_op (o_callR Try.func16 rfl rfl rfl (place_ret _ e29.kind 3 (by omega) (by omega)) ?_)
        rintro _ w' ⟨m33, rfl, hm34, hw35⟩
        rw [hw35]; clear hw35 w'
        first | refine l_end ?_ | refine l_nil ?_
        repeat refine c_seq ?_
        refine c_block ?_
        repeat refine c_seq ?_
        refine c_region ?_
        refine l_op (o_val (r_bin (a := (m33 : Int)) (b := 0) rfl rfl (fun _ => b_eql)) ?_)
        refine l_op (o_val (r_as) ?_)
        first | refine l_end ?_ | refine l_nil ?_
        by_cases hc36 : (m33 : Int) = 0
        ·
         repeat refine c_seq ?_
         refine c_yes (by exact congrArg Value.bool (decide_eq_true hc36)) ?_
         repeat refine c_seq ?_
         refine c_region ?_
         refine l_op (o_val (r_mv) ?_)
         refine l_op (o_val (r_fa rfl fo30_2) ?_)
         refine l_op (o_val (r_ld (v := V8 e29.k) H (i := 7) rfl rfl ct5 rfl) ?_)
         refine l_op (o_val (r_bld' (cells := (((e29.k :: List.replicate 31 (0 : UInt8))).map V8).toArray) (pv := [(0, V8 e29.k)]) bd36 rfl rfl) ?_)
         refine l_op (o_val (r_fa rfl fo30_3) ?_)
         refine l_op (o_val (r_ld (v := VI e29.n) H (i := 7) rfl rfl ct2 rfl) ?_)
         refine l_op (o_callR Try.func17 rfl rfl rfl (add_m _ _ _ _ z (mst_of H (i := 2) (j := 0) (k := 1) rfl rfl rfl (by decide) (by decide) (by decide) hz.fh hz.fa hz.oh hz.oa) hz (by omega) ([97] : List UInt8) (idB e29.k).1 (idB e29.k).2 e29.n) ?_)
         rintro _ w ⟨rfl, z37, hzx38, hzo39, Hc⟩
         replace H := (met_at H (i := 2) (j := 0) (k := 1) rfl rfl rfl (by decide) (by decide) (by decide) Hc)
         clear Hc
         replace H : Hp _ w _ ([.obj nb4 (mobj kT z37.Mh z37.c1), .obj nb5 (mobj kS z37.Ma z37.c2), _, _, _, _, _, _]) := H
         replace hzx38 : z37.X = addX z.X ([97] : List UInt8) (idB e29.k) e29.n := hzx38
         have hzx38l := add_len z.X ([97] : List UInt8) (idB e29.k) e29.n
         rw [← hzx38] at hzx38l
         refine l_op (o_val (r_mv) ?_)
         refine l_op (o_val (r_ext rfl rfl) ?_)
         refine l_op (o_val (r_ext rfl rfl) ?_)
         refine l_op (o_val (r_as) ?_)
         refine l_op (o_val (r_as) ?_)
         first | refine l_end ?_ | refine l_nil ?_
         repeat refine c_seq ?_
         refine c_region ?_
         refine l_op (o_val (r_mv) ?_)
         refine l_op (o_val (r_fa rfl fo30_2) ?_)
         refine l_op (o_val (r_ld (v := V8 e29.k) H (i := 7) rfl rfl ct5 rfl) ?_)
         refine l_op (o_val (r_bld' (cells := (((e29.k :: List.replicate 31 (0 : UInt8))).map V8).toArray) (pv := [(0, V8 e29.k)]) bd36 rfl rfl) ?_)
         refine l_op (o_val (r_fa rfl fo30_3) ?_)
         refine l_op (o_val (r_ld (v := VI e29.n) H (i := 7) rfl rfl ct2 rfl) ?_)
         refine l_op (o_callR Try.func17 rfl rfl rfl (add_m _ _ _ _ z22 (mst_of H (i := 5) (j := 3) (k := 4) rfl rfl rfl (by decide) (by decide) (by decide) hzo24.fh hzo24.fa hzo24.oh hzo24.oa) hzo24 (by omega) ([97] : List UInt8) (idB e29.k).1 (idB e29.k).2 e29.n) ?_)
         rintro _ w ⟨rfl, z40, hzx41, hzo42, Hc⟩
         replace H := (met_at H (i := 5) (j := 3) (k := 4) rfl rfl rfl (by decide) (by decide) (by decide) Hc)
         clear Hc
         replace H : Hp _ w _ ([_, _, _, .obj nb7 (mobj kT z40.Mh z40.c1), .obj nb8 (mobj kS z40.Ma z40.c2), _, _, _]) := H
         replace hzx41 : z40.X = addX z22.X ([97] : List UInt8) (idB e29.k) e29.n := hzx41
         have hzx41l := add_len z22.X ([97] : List UInt8) (idB e29.k) e29.n
         rw [← hzx41] at hzx41l
         refine l_op (o_val (r_mv) ?_)
         refine l_op (o_val (r_ext rfl rfl) ?_)
         refine l_op (o_val (r_ext rfl rfl) ?_)
         refine l_op (o_val (r_as) ?_)
         refine l_op (o_val (r_as) ?_)
         first | refine l_end ?_ | refine l_nil ?_
         repeat refine c_seq ?_
         refine c_region ?_
         refine l_op (o_val (r_mv) ?_)
         refine l_op (o_val (r_mv) ?_)
         refine l_op (o_val (r_bne Try.underlying4 rfl rfl) ?_)
         have hk43 : (!((addB z.X ([97] : List UInt8) (idB e29.k) e29.n) == (addB z22.X ([97] : List UInt8) (idB e29.k) e29.n))) = false := (by rw [hA2.addB]; simp)
         refine l_op (o_val (r_mv) ?_)
         refine l_yes rfl rfl (by exact congrArg Value.bool hk43) (o_val (r_mv) ?_)
         refine l_yes rfl rfl (by exact congrArg Value.bool hk43) (o_val (r_mv) ?_)
         refine l_yes rfl rfl (by exact congrArg Value.bool hk43) (o_val (r_bin (a := addE z.X ([97] : List UInt8) (idB e29.k) e29.n) (b := addE z22.X ([97] : List UInt8) (idB e29.k) e29.n) rfl rfl (fun _ => b_neqB false (decide_eq_false (fun hne2 => hne2 (hA2.addE _ _))))) ?_)
         refine l_op (o_val (r_pick (b := false) (congrArg Value.bool hk43)) ?_)
         first | refine l_end ?_ | refine l_nil ?_
         repeat refine c_seq ?_
         refine c_no rfl ?_
         refine c_skip ?_
         have hA4 : Apt z37.X z40.X := by
           rw [hzx38, hzx41]
           first | exact hA2.add _ _ | exact hA2.drop hz.inv hzo24.inv _ | exact hA2.quota _
         repeat refine c_seq ?_
         refine c_region ?_
         refine l_op (o_val (r_mv) ?_)
         refine l_op (o_callR Try.func20 rfl rfl rfl (used_m _ _ _ _ z37 (mst_of H (i := 2) (j := 0) (k := 1) rfl rfl rfl (by decide) (by decide) (by decide) hzo39.fh hzo39.fa hzo39.oh hzo39.oa) hzo39 ([97] : List UInt8)) ?_)
         rintro _ w ⟨rfl, z44, hzx45, hzo46, Hc⟩
         replace H := (met_at H (i := 2) (j := 0) (k := 1) rfl rfl rfl (by decide) (by decide) (by decide) Hc)
         clear Hc
         replace H : Hp _ w _ ([.obj nb4 (mobj kT z44.Mh z44.c1), .obj nb5 (mobj kS z44.Ma z44.c2), _, _, _, _, _, _]) := H
         replace hzx45 : z44.X = z37.X := hzx45
         have hzx45l : z44.X.G.length = z37.X.G.length := by rw [hzx45]
         refine l_op (o_val (r_mv) ?_)
         refine l_op (o_callR Try.func20 rfl rfl rfl (used_m _ _ _ _ z40 (mst_of H (i := 5) (j := 3) (k := 4) rfl rfl rfl (by decide) (by decide) (by decide) hzo42.fh hzo42.fa hzo42.oh hzo42.oa) hzo42 ([97] : List UInt8)) ?_)
         rintro _ w ⟨rfl, z47, hzx48, hzo49, Hc⟩
         replace H := (met_at H (i := 5) (j := 3) (k := 4) rfl rfl rfl (by decide) (by decide) (by decide) Hc)
         clear Hc
         replace H : Hp _ w _ ([_, _, _, .obj nb7 (mobj kT z47.Mh z47.c1), .obj nb8 (mobj kS z47.Ma z47.c2), _, _, _]) := H
         replace hzx48 : z47.X = z40.X := hzx48
         have hzx48l : z47.X.G.length = z40.X.G.length := by rw [hzx48]
         refine l_op (o_val (r_bin (a := (z37.X.acc ([97] : List UInt8)).used) (b := (z40.X.acc ([97] : List UInt8)).used) rfl rfl (fun _ => b_neqB false (decide_eq_false (fun hne2 => hne2 (by rw [hA4.a]))))) ?_)
         first | refine l_end ?_ | refine l_nil ?_
         have hA3 : Apt z44.X z47.X := by
           rw [hzx45, hzx48]
           exact hA4
         repeat refine c_seq ?_
         refine c_no rfl ?_
         refine c_skip ?_
         repeat refine c_seq ?_
         refine c_region ?_
         refine l_op (o_val (r_mv) ?_)
         refine l_op (o_val (r_bin (a := (i : Int)) (b := 1) rfl rfl (fun _ => b_add (by omega) (by omega))) ?_)
         refine l_op (o_val (r_as) ?_)
         first | refine l_end ?_ | refine l_nil ?_
         refine round_end (i + 1, z44, z47) ?_ ?_ ?_
         · exact ⟨rfl, rfl, rfl, rfl, show VI ((i : Int) + 1) = VI ((i + 1 : Nat) : Int) from congrArg VI (by omega), trivial⟩
         · refine ⟨?_, ?_⟩
           · try dsimp only
             exact ⟨by omega, hzo46, hzo49, hA3, by omega, by omega⟩
           · exact H.sub (.cons_cons _ (.cons_cons _ (.cons_cons _ (.cons_cons _ (.cons_cons _ (.cons_cons _ (List.nil_sublist _)))))))
         · show 61 - (i + 1 : Nat) < 61 - i; omega
        ·
         repeat refine c_seq ?_
         refine c_no (by exact congrArg Value.bool (decide_eq_false hc36)) ?_
         repeat refine c_seq ?_
         refine c_region ?_
         refine l_op (o_val (r_bin (a := (m33 : Int)) (b := 1) rfl rfl (fun _ => b_eql)) ?_)
         refine l_op (o_val (r_as) ?_)
         first | refine l_end ?_ | refine l_nil ?_
         by_cases hc50 : (m33 : Int) = 1
         ·
          repeat refine c_seq ?_
          refine c_yes (by exact congrArg Value.bool (decide_eq_true hc50)) ?_
          repeat refine c_seq ?_
          refine wp_held (fun w => Hp w0 w [] [.blk nb3 ([.map (some nb4), .map (some nb5)]) 54, .blk nb6 ([.map (some nb7), .map (some nb8)]) 54, .blk b17 ([VI e14.kind, .string ⟨(e14.who).toArray⟩, V8 e14.k, VI e14.n]) 30, .blk b32 ([VI e29.kind, .string ⟨(e29.who).toArray⟩, V8 e29.k, VI e29.n]) 30]) mixed ?_
          replace H := H.drew
          have HS := H.sub (.cons _ (.cons _ (.cons_cons _ (.cons _ (.cons _ (.cons_cons _ (.cons_cons _ (.cons_cons _ (List.nil_sublist _)))))))))
          refine t_take 0 rfl (by kernel_rfl) (by kernel_rfl) (by kernel_rfl) (fun _ _ _ h => h) (fun w HS => r_mv) HS ?_
          refine t_take 1 rfl (by kernel_rfl) (by kernel_rfl) (by kernel_rfl) (fun _ _ _ h => h) (fun w HS => r_fa rfl fo30_2) HS ?_
          refine t_take 2 rfl (by kernel_rfl) (by kernel_rfl) (by kernel_rfl) (fun _ _ _ h => h) (fun w HS => r_ld (v := V8 e29.k) HS (i := 3) rfl rfl ct5 rfl) HS ?_
          refine t_take 3 rfl (by kernel_rfl) (by kernel_rfl) (by kernel_rfl) (fun _ _ _ h => h) (fun w HS => r_bld' (cells := (((e29.k :: List.replicate 31 (0 : UInt8))).map V8).toArray) (pv := [(0, V8 e29.k)]) bd36 rfl rfl) HS ?_
          refine t_take 5 rfl (by kernel_rfl) (by kernel_rfl) (by kernel_rfl) (fun _ _ _ h => h) (fun w HS => r_mv) HS ?_
          refine t_take 6 rfl (by kernel_rfl) (by kernel_rfl) (by kernel_rfl) (fun _ _ _ h => h) (fun w HS => r_fa rfl fo30_2) HS ?_
          refine t_take 7 rfl (by kernel_rfl) (by kernel_rfl) (by kernel_rfl) (fun _ _ _ h => h) (fun w HS => r_ld (v := V8 e29.k) HS (i := 3) rfl rfl ct5 rfl) HS ?_
          refine t_take 8 rfl (by kernel_rfl) (by kernel_rfl) (by kernel_rfl) (fun _ _ _ h => h) (fun w HS => r_bld' (cells := (((e29.k :: List.replicate 31 (0 : UInt8))).map V8).toArray) (pv := [(0, V8 e29.k)]) bd36 rfl rfl) HS ?_
          refine t_step 4 rfl (by kernel_rfl) (o_callR Try.func18 rfl rfl rfl (drop_m _ _ _ _ z (mst_of H (i := 2) (j := 0) (k := 1) rfl rfl rfl (by decide) (by decide) (by decide) hz.fh hz.fa hz.oh hz.oa) hz (by omega) ([97] : List UInt8) (idB e29.k).1 (idB e29.k).2) ?_)
          rintro _ w ⟨rfl, z51, hzx52, hzo53, Hc⟩
          replace H := (met_at H (i := 2) (j := 0) (k := 1) rfl rfl rfl (by decide) (by decide) (by decide) Hc)
          clear Hc
          replace H : Hp _ w _ ([.obj nb4 (mobj kT z51.Mh z51.c1), .obj nb5 (mobj kS z51.Ma z51.c2), _, _, _, _, _, _]) := H
          replace hzx52 : z51.X = dropX z.X ([97] : List UInt8) (idB e29.k) := hzx52
          have hzx52l := drop_len z.X ([97] : List UInt8) (idB e29.k)
          rw [← hzx52] at hzx52l
          refine ⟨H.sub (.cons _ (.cons _ (.cons_cons _ (.cons _ (.cons _ (.cons_cons _ (.cons_cons _ (.cons_cons _ (List.nil_sublist _))))))))), ?_⟩
          replace HS := H.sub (.cons _ (.cons _ (.cons_cons _ (.cons _ (.cons _ (.cons_cons _ (.cons_cons _ (.cons_cons _ (List.nil_sublist _)))))))))
          refine t_step 9 rfl (by kernel_rfl) (o_callR Try.func18 rfl rfl rfl (drop_m _ _ _ _ z22 (mst_of H (i := 5) (j := 3) (k := 4) rfl rfl rfl (by decide) (by decide) (by decide) hzo24.fh hzo24.fa hzo24.oh hzo24.oa) hzo24 (by omega) ([97] : List UInt8) (idB e29.k).1 (idB e29.k).2) ?_)
          rintro _ w ⟨rfl, z54, hzx55, hzo56, Hc⟩
          replace H := (met_at H (i := 5) (j := 3) (k := 4) rfl rfl rfl (by decide) (by decide) (by decide) Hc)
          clear Hc
          replace H : Hp _ w _ ([_, _, _, .obj nb7 (mobj kT z54.Mh z54.c1), .obj nb8 (mobj kS z54.Ma z54.c2), _, _, _]) := H
          replace hzx55 : z54.X = dropX z22.X ([97] : List UInt8) (idB e29.k) := hzx55
          have hzx55l := drop_len z22.X ([97] : List UInt8) (idB e29.k)
          rw [← hzx55] at hzx55l
          refine ⟨H.sub (.cons _ (.cons _ (.cons_cons _ (.cons _ (.cons _ (.cons_cons _ (.cons_cons _ (.cons_cons _ (List.nil_sublist _))))))))), ?_⟩
          replace HS := H.sub (.cons _ (.cons _ (.cons_cons _ (.cons _ (.cons _ (.cons_cons _ (.cons_cons _ (.cons_cons _ (List.nil_sublist _)))))))))
          refine t_take 10 rfl (by kernel_rfl) (by kernel_rfl) (by kernel_rfl) (fun _ _ _ h => h) (fun w HS => r_bin (a := dropE z.X ([97] : List UInt8) (idB e29.k)) (b := dropE z22.X ([97] : List UInt8) (idB e29.k)) rfl rfl (fun _ => b_neqB false (decide_eq_false (fun hne2 => hne2 (hA2.dropE _))))) HS ?_
          refine t_done (by kernel_rfl) ?_
          clear HS
          repeat refine c_seq ?_
          refine c_no rfl ?_
          refine c_skip ?_
          have hA4 : Apt z51.X z54.X := by
            rw [hzx52, hzx55]
            first | exact hA2.add _ _ | exact hA2.drop hz.inv hzo24.inv _ | exact hA2.quota _
          repeat refine c_seq ?_
          refine c_region ?_
          refine l_op (o_val (r_mv) ?_)
          refine l_op (o_callR Try.func20 rfl rfl rfl (used_m _ _ _ _ z51 (mst_of H (i := 2) (j := 0) (k := 1) rfl rfl rfl (by decide) (by decide) (by decide) hzo53.fh hzo53.fa hzo53.oh hzo53.oa) hzo53 ([97] : List UInt8)) ?_)
          rintro _ w ⟨rfl, z57, hzx58, hzo59, Hc⟩
          replace H := (met_at H (i := 2) (j := 0) (k := 1) rfl rfl rfl (by decide) (by decide) (by decide) Hc)
          clear Hc
          replace H : Hp _ w _ ([.obj nb4 (mobj kT z57.Mh z57.c1), .obj nb5 (mobj kS z57.Ma z57.c2), _, _, _, _, _, _]) := H
          replace hzx58 : z57.X = z51.X := hzx58
          have hzx58l : z57.X.G.length = z51.X.G.length := by rw [hzx58]
          refine l_op (o_val (r_mv) ?_)
          refine l_op (o_callR Try.func20 rfl rfl rfl (used_m _ _ _ _ z54 (mst_of H (i := 5) (j := 3) (k := 4) rfl rfl rfl (by decide) (by decide) (by decide) hzo56.fh hzo56.fa hzo56.oh hzo56.oa) hzo56 ([97] : List UInt8)) ?_)
          rintro _ w ⟨rfl, z60, hzx61, hzo62, Hc⟩
          replace H := (met_at H (i := 5) (j := 3) (k := 4) rfl rfl rfl (by decide) (by decide) (by decide) Hc)
          clear Hc
          replace H : Hp _ w _ ([_, _, _, .obj nb7 (mobj kT z60.Mh z60.c1), .obj nb8 (mobj kS z60.Ma z60.c2), _, _, _]) := H
          replace hzx61 : z60.X = z54.X := hzx61
          have hzx61l : z60.X.G.length = z54.X.G.length := by rw [hzx61]
          refine l_op (o_val (r_bin (a := (z51.X.acc ([97] : List UInt8)).used) (b := (z54.X.acc ([97] : List UInt8)).used) rfl rfl (fun _ => b_neqB false (decide_eq_false (fun hne2 => hne2 (by rw [hA4.a]))))) ?_)
          first | refine l_end ?_ | refine l_nil ?_
          have hA3 : Apt z57.X z60.X := by
            rw [hzx58, hzx61]
            exact hA4
          repeat refine c_seq ?_
          refine c_no rfl ?_
          refine c_skip ?_
          repeat refine c_seq ?_
          refine c_region ?_
          refine l_op (o_val (r_mv) ?_)
          refine l_op (o_val (r_bin (a := (i : Int)) (b := 1) rfl rfl (fun _ => b_add (by omega) (by omega))) ?_)
          refine l_op (o_val (r_as) ?_)
          first | refine l_end ?_ | refine l_nil ?_
          refine round_end (i + 1, z57, z60) ?_ ?_ ?_
          · exact ⟨rfl, rfl, rfl, rfl, show VI ((i : Int) + 1) = VI ((i + 1 : Nat) : Int) from congrArg VI (by omega), trivial⟩
          · refine ⟨?_, ?_⟩
            · try dsimp only
              exact ⟨by omega, hzo59, hzo62, hA3, by omega, by omega⟩
            · exact H.sub (.cons_cons _ (.cons_cons _ (.cons_cons _ (.cons_cons _ (.cons_cons _ (.cons_cons _ (List.nil_sublist _)))))))
          · show 61 - (i + 1 : Nat) < 61 - i; omega
         ·
          repeat refine c_seq ?_
          refine c_no (by exact congrArg Value.bool (decide_eq_false hc50)) ?_
          repeat refine c_seq ?_
          refine c_region ?_
          refine l_op (o_val (r_mv) ?_)
          refine l_op (o_val (r_fa rfl fo30_3) ?_)
          refine l_op (o_val (r_ld (v := VI e29.n) H (i := 7) rfl rfl ct2 rfl) ?_)
          refine l_op (o_callR Try.func19 rfl rfl rfl (quota_m _ _ _ _ z (mst_of H (i := 2) (j := 0) (k := 1) rfl rfl rfl (by decide) (by decide) (by decide) hz.fh hz.fa hz.oh hz.oa) hz ([97] : List UInt8) e29.n (by omega)) ?_)
          rintro _ w ⟨rfl, z63, hzx64, hzo65, Hc⟩
          replace H := (met_at H (i := 2) (j := 0) (k := 1) rfl rfl rfl (by decide) (by decide) (by decide) Hc)
          clear Hc
          replace H : Hp _ w _ ([.obj nb4 (mobj kT z63.Mh z63.c1), .obj nb5 (mobj kS z63.Ma z63.c2), _, _, _, _, _, _]) := H
          replace hzx64 : z63.X = quotaX z.X ([97] : List UInt8) e29.n := hzx64
          have hzx64l : z63.X.G.length = z.X.G.length := by rw [hzx64]; rfl
          first | refine l_end ?_ | refine l_nil ?_
          repeat refine c_seq ?_
          refine c_region ?_
          refine l_op (o_val (r_mv) ?_)
          refine l_op (o_val (r_fa rfl fo30_3) ?_)
          refine l_op (o_val (r_ld (v := VI e29.n) H (i := 7) rfl rfl ct2 rfl) ?_)
          refine l_op (o_callR Try.func19 rfl rfl rfl (quota_m _ _ _ _ z22 (mst_of H (i := 5) (j := 3) (k := 4) rfl rfl rfl (by decide) (by decide) (by decide) hzo24.fh hzo24.fa hzo24.oh hzo24.oa) hzo24 ([97] : List UInt8) e29.n (by omega)) ?_)
          rintro _ w ⟨rfl, z66, hzx67, hzo68, Hc⟩
          replace H := (met_at H (i := 5) (j := 3) (k := 4) rfl rfl rfl (by decide) (by decide) (by decide) Hc)
          clear Hc
          replace H : Hp _ w _ ([_, _, _, .obj nb7 (mobj kT z66.Mh z66.c1), .obj nb8 (mobj kS z66.Ma z66.c2), _, _, _]) := H
          replace hzx67 : z66.X = quotaX z22.X ([97] : List UInt8) e29.n := hzx67
          have hzx67l : z66.X.G.length = z22.X.G.length := by rw [hzx67]; rfl
          first | refine l_end ?_ | refine l_nil ?_
          have hA4 : Apt z63.X z66.X := by
            rw [hzx64, hzx67]
            first | exact hA2.add _ _ | exact hA2.drop hz.inv hzo24.inv _ | exact hA2.quota _
          repeat refine c_seq ?_
          refine c_region ?_
          refine l_op (o_val (r_mv) ?_)
          refine l_op (o_callR Try.func20 rfl rfl rfl (used_m _ _ _ _ z63 (mst_of H (i := 2) (j := 0) (k := 1) rfl rfl rfl (by decide) (by decide) (by decide) hzo65.fh hzo65.fa hzo65.oh hzo65.oa) hzo65 ([97] : List UInt8)) ?_)
          rintro _ w ⟨rfl, z69, hzx70, hzo71, Hc⟩
          replace H := (met_at H (i := 2) (j := 0) (k := 1) rfl rfl rfl (by decide) (by decide) (by decide) Hc)
          clear Hc
          replace H : Hp _ w _ ([.obj nb4 (mobj kT z69.Mh z69.c1), .obj nb5 (mobj kS z69.Ma z69.c2), _, _, _, _, _, _]) := H
          replace hzx70 : z69.X = z63.X := hzx70
          have hzx70l : z69.X.G.length = z63.X.G.length := by rw [hzx70]
          refine l_op (o_val (r_mv) ?_)
          refine l_op (o_callR Try.func20 rfl rfl rfl (used_m _ _ _ _ z66 (mst_of H (i := 5) (j := 3) (k := 4) rfl rfl rfl (by decide) (by decide) (by decide) hzo68.fh hzo68.fa hzo68.oh hzo68.oa) hzo68 ([97] : List UInt8)) ?_)
          rintro _ w ⟨rfl, z72, hzx73, hzo74, Hc⟩
          replace H := (met_at H (i := 5) (j := 3) (k := 4) rfl rfl rfl (by decide) (by decide) (by decide) Hc)
          clear Hc
          replace H : Hp _ w _ ([_, _, _, .obj nb7 (mobj kT z72.Mh z72.c1), .obj nb8 (mobj kS z72.Ma z72.c2), _, _, _]) := H
          replace hzx73 : z72.X = z66.X := hzx73
          have hzx73l : z72.X.G.length = z66.X.G.length := by rw [hzx73]
          refine l_op (o_val (r_bin (a := (z63.X.acc ([97] : List UInt8)).used) (b := (z66.X.acc ([97] : List UInt8)).used) rfl rfl (fun _ => b_neqB false (decide_eq_false (fun hne2 => hne2 (by rw [hA4.a]))))) ?_)
          first | refine l_end ?_ | refine l_nil ?_
          have hA3 : Apt z69.X z72.X := by
            rw [hzx70, hzx73]
            exact hA4
          repeat refine c_seq ?_
          refine c_no rfl ?_
          refine c_skip ?_
          repeat refine c_seq ?_
          refine c_region ?_
          refine l_op (o_val (r_mv) ?_)
          refine l_op (o_val (r_bin (a := (i : Int)) (b := 1) rfl rfl (fun _ => b_add (by omega) (by omega))) ?_)
          refine l_op (o_val (r_as) ?_)
          first | refine l_end ?_ | refine l_nil ?_
          refine round_end (i + 1, z69, z72) ?_ ?_ ?_
          · exact ⟨rfl, rfl, rfl, rfl, show VI ((i : Int) + 1) = VI ((i + 1 : Nat) : Int) from congrArg VI (by omega), trivial⟩
          · refine ⟨?_, ?_⟩
            · try dsimp only
              exact ⟨by omega, hzo71, hzo74, hA3, by omega, by omega⟩
            · exact H.sub (.cons_cons _ (.cons_cons _ (.cons_cons _ (.cons_cons _ (.cons_cons _ (.cons_cons _ (List.nil_sublist _)))))))
          · show 61 - (i + 1 : Nat) < 61 - i; omega
      ·
       repeat refine c_seq ?_
       refine c_no (by exact congrArg Value.bool (decide_eq_false hc21)) ?_
       repeat refine c_seq ?_
       refine c_region ?_
       refine l_op (o_val (r_bin (a := (m18 : Int)) (b := 1) rfl rfl (fun _ => b_eql)) ?_)
       refine l_op (o_val (r_as) ?_)
       first | refine l_end ?_ | refine l_nil ?_
       by_cases hc75 : (m18 : Int) = 1
       ·
        repeat refine c_seq ?_
        refine c_yes (by exact congrArg Value.bool (decide_eq_true hc75)) ?_
        repeat refine c_seq ?_
        refine c_region ?_
        refine l_op (o_val (r_mv) ?_)
        refine l_op (o_val (r_fa rfl fo30_1) ?_)
        refine l_op (o_val (r_ld (v := .string ⟨(e14.who).toArray⟩) H (i := 6) rfl rfl ct9 rfl) ?_)
        refine l_op (o_val (r_stradd (a := ([98] : List UInt8)) (b := e14.who) rfl rfl (by (try simp only [List.length_cons, List.length_nil]); omega)) ?_)
        refine l_op (o_val (r_fa rfl fo30_2) ?_)
        refine l_op (o_val (r_ld (v := V8 e14.k) H (i := 6) rfl rfl ct5 rfl) ?_)
        refine l_op (o_val (r_bld' (cells := (((e14.k :: List.replicate 31 (0 : UInt8))).map V8).toArray) (pv := [(0, V8 e14.k)]) bd36 rfl rfl) ?_)
        refine l_op (o_callR Try.func18 rfl rfl rfl (drop_m _ _ _ _ y (mst_of H (i := 5) (j := 3) (k := 4) rfl rfl rfl (by decide) (by decide) (by decide) hy.fh hy.fa hy.oh hy.oa) hy (by omega) (([98] : List UInt8) ++ e14.who) (idB e14.k).1 (idB e14.k).2) ?_)
        rintro _ w ⟨rfl, z76, hzx77, hzo78, Hc⟩
        replace H := (met_at H (i := 5) (j := 3) (k := 4) rfl rfl rfl (by decide) (by decide) (by decide) Hc)
        clear Hc
        replace H : Hp _ w _ ([_, _, _, .obj nb7 (mobj kT z76.Mh z76.c1), .obj nb8 (mobj kS z76.Ma z76.c2), _, _]) := H
        replace hzx77 : z76.X = dropX y.X (([98] : List UInt8) ++ e14.who) (idB e14.k) := hzx77
        have hzx77l := drop_len y.X (([98] : List UInt8) ++ e14.who) (idB e14.k)
        rw [← hzx77] at hzx77l
        first | refine l_end ?_ | refine l_nil ?_
        have hA2 : Apt z.X z76.X := by
          rw [hzx77]
          first | exact hA.addR hne _ _ | exact hA.dropR hy.inv hne _ | exact hA.quotaR hne _
        repeat refine c_seq ?_
        refine c_region ?_
        refine l_op (o_val (r_mv) ?_)
        refine l_op (o_val (r_mv) ?_)
        refine l_op (o_val (r_lens el22 rfl) ?_)
        refine l_op (o_val (r_bin (a := (i : Int)) (b := (g.len : Int)) rfl rfl (fun _ => b_geq)) ?_)
        first | refine l_end ?_ | refine l_nil ?_
        by_cases hc79 : (g.len : Int) ≤ (i : Int)
        ·
         repeat refine c_seq ?_
         refine c_yes (by exact congrArg Value.bool (decide_eq_true hc79)) ?_
         refine c_exit ?_
         repeat refine c_seq ?_
         refine c_region ?_
         refine l_op (o_val (r_mv) ?_)
         refine l_op (o_val (r_bin (a := (i : Int)) (b := 1) rfl rfl (fun _ => b_add (by omega) (by omega))) ?_)
         refine l_op (o_val (r_as) ?_)
         first | refine l_end ?_ | refine l_nil ?_
         refine round_end (i + 1, z, z76) ?_ ?_ ?_
         · exact ⟨rfl, rfl, rfl, rfl, show VI ((i : Int) + 1) = VI ((i + 1 : Nat) : Int) from congrArg VI (by omega), trivial⟩
         · refine ⟨?_, ?_⟩
           · try dsimp only
             exact ⟨by omega, hz, hzo78, hA2, by omega, by omega⟩
           · exact H.sub (.cons_cons _ (.cons_cons _ (.cons_cons _ (.cons_cons _ (.cons_cons _ (.cons_cons _ (List.nil_sublist _)))))))
         · show 61 - (i + 1 : Nat) < 61 - i; omega
        ·
         repeat refine c_seq ?_
         refine c_no (by exact congrArg Value.bool (decide_eq_false hc79)) ?_
         refine c_skip ?_
         repeat refine c_seq ?_
         refine c_region ?_
         refine l_op (o_val (r_mv) ?_)
         refine l_op (o_val (r_mv) ?_)
         have ah82 := ((hg.up H)).addr (by decide) (by first | omega | (dsimp only; omega))
         obtain ⟨ab80, ao81, ah82⟩ := ah82
         refine l_op (o_val (r_isN i rfl rfl el22 ah82 (by omega) (by (try simp only [Sl.cut]); omega)) ?_)
         have he84 : ∃ c, g.l[i]? = some c := ⟨_, List.getElem?_eq_getElem (by have := ((hg.up H)).ln; (try dsimp only at this ⊢); omega)⟩
         obtain ⟨e83, he84⟩ := he84
         have hez85 := ((hg.up H)).sz e83 (List.mem_of_getElem? he84)
         refine l_op (o_val (r_ldRow (s := g) (k := i) (hg.up H) ah82 rfl rt30 (by decide) he84) ?_)
         refine l_op (o_alloc H zc30 (fun b86 w H hb86 => ?_))
         replace H : Hp _ w _ ([_, _, _, _, _, _, _, .blk b86 ([VI 0, .string ⟨(([] : List UInt8)).toArray⟩, V8 (0 : UInt8), VI 0]) 30]) := H
         refine l_op (o_stW (C' := [VI e83.kind, .string ⟨(e83.who).toArray⟩, V8 e83.k, VI e83.n]) H (i := 7) rfl rfl rfl cs30 (by simp [Value.oneCell']) (by rfl) (by rfl) (fun w H => ?_))
         replace H : Hp _ w _ ([_, _, _, _, _, _, _, .blk b86 ([VI e83.kind, .string ⟨(e83.who).toArray⟩, V8 e83.k, VI e83.n]) 30]) := H
         first | refine l_end ?_ | refine l_nil ?_
         have hnb2 := ha _ (List.mem_of_getElem? he84)
         repeat refine c_seq ?_
         refine c_region ?_
         refine l_op (o_val (r_fa rfl fo30_0) ?_)
         refine l_op (o_val (r_ld (v := VI e83.kind) H (i := 7) rfl rfl ct3 rfl) ?_)
         refine l_op (o_callR Try.func16 rfl rfl rfl (place_ret _ e83.kind 3 (by omega) (by omega)) ?_)
         rintro _ w' ⟨m87, rfl, hm88, hw89⟩
         rw [hw89]; clear hw89 w'
         first | refine l_end ?_ | refine l_nil ?_
         repeat refine c_seq ?_
         refine c_block ?_
         repeat refine c_seq ?_
         refine c_region ?_
         refine l_op (o_val (r_bin (a := (m87 : Int)) (b := 0) rfl rfl (fun _ => b_eql)) ?_)
         refine l_op (o_val (r_as) ?_)
         first | refine l_end ?_ | refine l_nil ?_
         by_cases hc90 : (m87 : Int) = 0
         ·
          repeat refine c_seq ?_
          refine c_yes (by exact congrArg Value.bool (decide_eq_true hc90)) ?_
          repeat refine c_seq ?_
          refine c_region ?_
          refine l_op (o_val (r_mv) ?_)
          refine l_op (o_val (r_fa rfl fo30_2) ?_)
          refine l_op (o_val (r_ld (v := V8 e83.k) H (i := 7) rfl rfl ct5 rfl) ?_)
          refine l_op (o_val (r_bld' (cells := (((e83.k :: List.replicate 31 (0 : UInt8))).map V8).toArray) (pv := [(0, V8 e83.k)]) bd36 rfl rfl) ?_)
          refine l_op (o_val (r_fa rfl fo30_3) ?_)
          refine l_op (o_val (r_ld (v := VI e83.n) H (i := 7) rfl rfl ct2 rfl) ?_)
          refine l_op (o_callR Try.func17 rfl rfl rfl (add_m _ _ _ _ z (mst_of H (i := 2) (j := 0) (k := 1) rfl rfl rfl (by decide) (by decide) (by decide) hz.fh hz.fa hz.oh hz.oa) hz (by omega) ([97] : List UInt8) (idB e83.k).1 (idB e83.k).2 e83.n) ?_)
          rintro _ w ⟨rfl, z91, hzx92, hzo93, Hc⟩
          replace H := (met_at H (i := 2) (j := 0) (k := 1) rfl rfl rfl (by decide) (by decide) (by decide) Hc)
          clear Hc
          replace H : Hp _ w _ ([.obj nb4 (mobj kT z91.Mh z91.c1), .obj nb5 (mobj kS z91.Ma z91.c2), _, _, _, _, _, _]) := H
          replace hzx92 : z91.X = addX z.X ([97] : List UInt8) (idB e83.k) e83.n := hzx92
          have hzx92l := add_len z.X ([97] : List UInt8) (idB e83.k) e83.n
          rw [← hzx92] at hzx92l
          refine l_op (o_val (r_mv) ?_)
          refine l_op (o_val (r_ext rfl rfl) ?_)
          refine l_op (o_val (r_ext rfl rfl) ?_)
          refine l_op (o_val (r_as) ?_)
          refine l_op (o_val (r_as) ?_)
          first | refine l_end ?_ | refine l_nil ?_
          repeat refine c_seq ?_
          refine c_region ?_
          refine l_op (o_val (r_mv) ?_)
          refine l_op (o_val (r_fa rfl fo30_2) ?_)
          refine l_op (o_val (r_ld (v := V8 e83.k) H (i := 7) rfl rfl ct5 rfl) ?_)
          refine l_op (o_val (r_bld' (cells := (((e83.k :: List.replicate 31 (0 : UInt8))).map V8).toArray) (pv := [(0, V8 e83.k)]) bd36 rfl rfl) ?_)
          refine l_op (o_val (r_fa rfl fo30_3) ?_)
          refine l_op (o_val (r_ld (v := VI e83.n) H (i := 7) rfl rfl ct2 rfl) ?_)
          refine l_op (o_callR Try.func17 rfl rfl rfl (add_m _ _ _ _ z76 (mst_of H (i := 5) (j := 3) (k := 4) rfl rfl rfl (by decide) (by decide) (by decide) hzo78.fh hzo78.fa hzo78.oh hzo78.oa) hzo78 (by omega) ([97] : List UInt8) (idB e83.k).1 (idB e83.k).2 e83.n) ?_)
          rintro _ w ⟨rfl, z94, hzx95, hzo96, Hc⟩
          replace H := (met_at H (i := 5) (j := 3) (k := 4) rfl rfl rfl (by decide) (by decide) (by decide) Hc)
          clear Hc
          replace H : Hp _ w _ ([_, _, _, .obj nb7 (mobj kT z94.Mh z94.c1), .obj nb8 (mobj kS z94.Ma z94.c2), _, _, _]) := H
          replace hzx95 : z94.X = addX z76.X ([97] : List UInt8) (idB e83.k) e83.n := hzx95
          have hzx95l := add_len z76.X ([97] : List UInt8) (idB e83.k) e83.n
          rw [← hzx95] at hzx95l
          refine l_op (o_val (r_mv) ?_)
          refine l_op (o_val (r_ext rfl rfl) ?_)
          refine l_op (o_val (r_ext rfl rfl) ?_)
          refine l_op (o_val (r_as) ?_)
          refine l_op (o_val (r_as) ?_)
          first | refine l_end ?_ | refine l_nil ?_
          repeat refine c_seq ?_
          refine c_region ?_
          refine l_op (o_val (r_mv) ?_)
          refine l_op (o_val (r_mv) ?_)
          refine l_op (o_val (r_bne Try.underlying4 rfl rfl) ?_)
          have hk97 : (!((addB z.X ([97] : List UInt8) (idB e83.k) e83.n) == (addB z76.X ([97] : List UInt8) (idB e83.k) e83.n))) = false := (by rw [hA2.addB]; simp)
          refine l_op (o_val (r_mv) ?_)
          refine l_yes rfl rfl (by exact congrArg Value.bool hk97) (o_val (r_mv) ?_)
          refine l_yes rfl rfl (by exact congrArg Value.bool hk97) (o_val (r_mv) ?_)
          refine l_yes rfl rfl (by exact congrArg Value.bool hk97) (o_val (r_bin (a := addE z.X ([97] : List UInt8) (idB e83.k) e83.n) (b := addE z76.X ([97] : List UInt8) (idB e83.k) e83.n) rfl rfl (fun _ => b_neqB false (decide_eq_false (fun hne2 => hne2 (hA2.addE _ _))))) ?_)
          refine l_op (o_val (r_pick (b := false) (congrArg Value.bool hk97)) ?_)
          first | refine l_end ?_ | refine l_nil ?_
          repeat refine c_seq ?_
          refine c_no rfl ?_
          refine c_skip ?_
          have hA4 : Apt z91.X z94.X := by
            rw [hzx92, hzx95]
            first | exact hA2.add _ _ | exact hA2.drop hz.inv hzo78.inv _ | exact hA2.quota _
          repeat refine c_seq ?_
          refine c_region ?_
          refine l_op (o_val (r_mv) ?_)
          refine l_op (o_callR Try.func20 rfl rfl rfl (used_m _ _ _ _ z91 (mst_of H (i := 2) (j := 0) (k := 1) rfl rfl rfl (by decide) (by decide) (by decide) hzo93.fh hzo93.fa hzo93.oh hzo93.oa) hzo93 ([97] : List UInt8)) ?_)
          rintro _ w ⟨rfl, z98, hzx99, hzo100, Hc⟩
          replace H := (met_at H (i := 2) (j := 0) (k := 1) rfl rfl rfl (by decide) (by decide) (by decide) Hc)
          clear Hc
          replace H : Hp _ w _ ([.obj nb4 (mobj kT z98.Mh z98.c1), .obj nb5 (mobj kS z98.Ma z98.c2), _, _, _, _, _, _]) := H
          replace hzx99 : z98.X = z91.X := hzx99
          have hzx99l : z98.X.G.length = z91.X.G.length := by rw [hzx99]
          refine l_op (o_val (r_mv) ?_)
          refine l_op (o_callR Try.func20 rfl rfl rfl (used_m _ _ _ _ z94 (mst_of H (i := 5) (j := 3) (k := 4) rfl rfl rfl (by decide) (by decide) (by decide) hzo96.fh hzo96.fa hzo96.oh hzo96.oa) hzo96 ([97] : List UInt8)) ?_)
          rintro _ w ⟨rfl, z101, hzx102, hzo103, Hc⟩
          replace H := (met_at H (i := 5) (j := 3) (k := 4) rfl rfl rfl (by decide) (by decide) (by decide) Hc)
          clear Hc
          replace H : Hp _ w _ ([_, _, _, .obj nb7 (mobj kT z101.Mh z101.c1), .obj nb8 (mobj kS z101.Ma z101.c2), _, _, _]) := H
          replace hzx102 : z101.X = z94.X := hzx102
          have hzx102l : z101.X.G.length = z94.X.G.length := by rw [hzx102]
          refine l_op (o_val (r_bin (a := (z91.X.acc ([97] : List UInt8)).used) (b := (z94.X.acc ([97] : List UInt8)).used) rfl rfl (fun _ => b_neqB false (decide_eq_false (fun hne2 => hne2 (by rw [hA4.a]))))) ?_)
          first | refine l_end ?_ | refine l_nil ?_
          have hA3 : Apt z98.X z101.X := by
            rw [hzx99, hzx102]
            exact hA4
          repeat refine c_seq ?_
          refine c_no rfl ?_
          refine c_skip ?_
          repeat refine c_seq ?_
          refine c_region ?_
          refine l_op (o_val (r_mv) ?_)
          refine l_op (o_val (r_bin (a := (i : Int)) (b := 1) rfl rfl (fun _ => b_add (by omega) (by omega))) ?_)
          refine l_op (o_val (r_as) ?_)
          first | refine l_end ?_ | refine l_nil ?_
          refine round_end (i + 1, z98, z101) ?_ ?_ ?_
          · exact ⟨rfl, rfl, rfl, rfl, show VI ((i : Int) + 1) = VI ((i + 1 : Nat) : Int) from congrArg VI (by omega), trivial⟩
          · refine ⟨?_, ?_⟩
            · try dsimp only
              exact ⟨by omega, hzo100, hzo103, hA3, by omega, by omega⟩
            · exact H.sub (.cons_cons _ (.cons_cons _ (.cons_cons _ (.cons_cons _ (.cons_cons _ (.cons_cons _ (List.nil_sublist _)))))))
          · show 61 - (i + 1 : Nat) < 61 - i; omega
         ·
          repeat refine c_seq ?_
          refine c_no (by exact congrArg Value.bool (decide_eq_false hc90)) ?_
          repeat refine c_seq ?_
          refine c_region ?_
          refine l_op (o_val (r_bin (a := (m87 : Int)) (b := 1) rfl rfl (fun _ => b_eql)) ?_)
          refine l_op (o_val (r_as) ?_)
          first | refine l_end ?_ | refine l_nil ?_
          by_cases hc104 : (m87 : Int) = 1
          ·
           repeat refine c_seq ?_
           refine c_yes (by exact congrArg Value.bool (decide_eq_true hc104)) ?_
           repeat refine c_seq ?_
           refine wp_held (fun w => Hp w0 w [] [.blk nb3 ([.map (some nb4), .map (some nb5)]) 54, .blk nb6 ([.map (some nb7), .map (some nb8)]) 54, .blk b17 ([VI e14.kind, .string ⟨(e14.who).toArray⟩, V8 e14.k, VI e14.n]) 30, .blk b86 ([VI e83.kind, .string ⟨(e83.who).toArray⟩, V8 e83.k, VI e83.n]) 30]) mixed ?_
           replace H := H.drew
           have HS := H.sub (.cons _ (.cons _ (.cons_cons _ (.cons _ (.cons _ (.cons_cons _ (.cons_cons _ (.cons_cons _ (List.nil_sublist _)))))))))
           refine t_take 0 rfl (by kernel_rfl) (by kernel_rfl) (by kernel_rfl) (fun _ _ _ h => h) (fun w HS => r_mv) HS ?_
           refine t_take 1 rfl (by kernel_rfl) (by kernel_rfl) (by kernel_rfl) (fun _ _ _ h => h) (fun w HS => r_fa rfl fo30_2) HS ?_
           refine t_take 2 rfl (by kernel_rfl) (by kernel_rfl) (by kernel_rfl) (fun _ _ _ h => h) (fun w HS => r_ld (v := V8 e83.k) HS (i := 3) rfl rfl ct5 rfl) HS ?_
           refine t_take 3 rfl (by kernel_rfl) (by kernel_rfl) (by kernel_rfl) (fun _ _ _ h => h) (fun w HS => r_bld' (cells := (((e83.k :: List.replicate 31 (0 : UInt8))).map V8).toArray) (pv := [(0, V8 e83.k)]) bd36 rfl rfl) HS ?_
           refine t_take 5 rfl (by kernel_rfl) (by kernel_rfl) (by kernel_rfl) (fun _ _ _ h => h) (fun w HS => r_mv) HS ?_
           refine t_take 6 rfl (by kernel_rfl) (by kernel_rfl) (by kernel_rfl) (fun _ _ _ h => h) (fun w HS => r_fa rfl fo30_2) HS ?_
           refine t_take 7 rfl (by kernel_rfl) (by kernel_rfl) (by kernel_rfl) (fun _ _ _ h => h) (fun w HS => r_ld (v := V8 e83.k) HS (i := 3) rfl rfl ct5 rfl) HS ?_
           refine t_take 8 rfl (by kernel_rfl) (by kernel_rfl) (by kernel_rfl) (fun _ _ _ h => h) (fun w HS => r_bld' (cells := (((e83.k :: List.replicate 31 (0 : UInt8))).map V8).toArray) (pv := [(0, V8 e83.k)]) bd36 rfl rfl) HS ?_
           refine t_step 4 rfl (by kernel_rfl) (o_callR Try.func18 rfl rfl rfl (drop_m _ _ _ _ z (mst_of H (i := 2) (j := 0) (k := 1) rfl rfl rfl (by decide) (by decide) (by decide) hz.fh hz.fa hz.oh hz.oa) hz (by omega) ([97] : List UInt8) (idB e83.k).1 (idB e83.k).2) ?_)
           rintro _ w ⟨rfl, z105, hzx106, hzo107, Hc⟩
           replace H := (met_at H (i := 2) (j := 0) (k := 1) rfl rfl rfl (by decide) (by decide) (by decide) Hc)
           clear Hc
           replace H : Hp _ w _ ([.obj nb4 (mobj kT z105.Mh z105.c1), .obj nb5 (mobj kS z105.Ma z105.c2), _, _, _, _, _, _]) := H
           replace hzx106 : z105.X = dropX z.X ([97] : List UInt8) (idB e83.k) := hzx106
           have hzx106l := drop_len z.X ([97] : List UInt8) (idB e83.k)
           rw [← hzx106] at hzx106l
           refine ⟨H.sub (.cons _ (.cons _ (.cons_cons _ (.cons _ (.cons _ (.cons_cons _ (.cons_cons _ (.cons_cons _ (List.nil_sublist _))))))))), ?_⟩
           replace HS := H.sub (.cons _ (.cons _ (.cons_cons _ (.cons _ (.cons _ (.cons_cons _ (.cons_cons _ (.cons_cons _ (List.nil_sublist _)))))))))
           refine t_step 9 rfl (by kernel_rfl) (o_callR Try.func18 rfl rfl rfl (drop_m _ _ _ _ z76 (mst_of H (i := 5) (j := 3) (k := 4) rfl rfl rfl (by decide) (by decide) (by decide) hzo78.fh hzo78.fa hzo78.oh hzo78.oa) hzo78 (by omega) ([97] : List UInt8) (idB e83.k).1 (idB e83.k).2) ?_)
           rintro _ w ⟨rfl, z108, hzx109, hzo110, Hc⟩
           replace H := (met_at H (i := 5) (j := 3) (k := 4) rfl rfl rfl (by decide) (by decide) (by decide) Hc)
           clear Hc
           replace H : Hp _ w _ ([_, _, _, .obj nb7 (mobj kT z108.Mh z108.c1), .obj nb8 (mobj kS z108.Ma z108.c2), _, _, _]) := H
           replace hzx109 : z108.X = dropX z76.X ([97] : List UInt8) (idB e83.k) := hzx109
           have hzx109l := drop_len z76.X ([97] : List UInt8) (idB e83.k)
           rw [← hzx109] at hzx109l
           refine ⟨H.sub (.cons _ (.cons _ (.cons_cons _ (.cons _ (.cons _ (.cons_cons _ (.cons_cons _ (.cons_cons _ (List.nil_sublist _))))))))), ?_⟩
           replace HS := H.sub (.cons _ (.cons _ (.cons_cons _ (.cons _ (.cons _ (.cons_cons _ (.cons_cons _ (.cons_cons _ (List.nil_sublist _)))))))))
           refine t_take 10 rfl (by kernel_rfl) (by kernel_rfl) (by kernel_rfl) (fun _ _ _ h => h) (fun w HS => r_bin (a := dropE z.X ([97] : List UInt8) (idB e83.k)) (b := dropE z76.X ([97] : List UInt8) (idB e83.k)) rfl rfl (fun _ => b_neqB false (decide_eq_false (fun hne2 => hne2 (hA2.dropE _))))) HS ?_
           refine t_done (by kernel_rfl) ?_
           clear HS
           repeat refine c_seq ?_
           refine c_no rfl ?_
           refine c_skip ?_
           have hA4 : Apt z105.X z108.X := by
             rw [hzx106, hzx109]
             first | exact hA2.add _ _ | exact hA2.drop hz.inv hzo78.inv _ | exact hA2.quota _
           repeat refine c_seq ?_
           refine c_region ?_
           refine l_op (o_val (r_mv) ?_)
           refine l_op (o_callR Try.func20 rfl rfl rfl (used_m _ _ _ _ z105 (mst_of H (i := 2) (j := 0) (k := 1) rfl rfl rfl (by decide) (by decide) (by decide) hzo107.fh hzo107.fa hzo107.oh hzo107.oa) hzo107 ([97] : List UInt8)) ?_)
           rintro _ w ⟨rfl, z111, hzx112, hzo113, Hc⟩
           replace H := (met_at H (i := 2) (j := 0) (k := 1) rfl rfl rfl (by decide) (by decide) (by decide) Hc)
           clear Hc
           replace H : Hp _ w _ ([.obj nb4 (mobj kT z111.Mh z111.c1), .obj nb5 (mobj kS z111.Ma z111.c2), _, _, _, _, _, _]) := H
           replace hzx112 : z111.X = z105.X := hzx112
           have hzx112l : z111.X.G.length = z105.X.G.length := by rw [hzx112]
           refine l_op (o_val (r_mv) ?_)
           refine l_op (o_callR Try.func20 rfl rfl rfl (used_m _ _ _ _ z108 (mst_of H (i := 5) (j := 3) (k := 4) rfl rfl rfl (by decide) (by decide) (by decide) hzo110.fh hzo110.fa hzo110.oh hzo110.oa) hzo110 ([97] : List UInt8)) ?_)
           rintro _ w ⟨rfl, z114, hzx115, hzo116, Hc⟩
           replace H := (met_at H (i := 5) (j := 3) (k := 4) rfl rfl rfl (by decide) (by decide) (by decide) Hc)
           clear Hc
           replace H : Hp _ w _ ([_, _, _, .obj nb7 (mobj kT z114.Mh z114.c1), .obj nb8 (mobj kS z114.Ma z114.c2), _, _, _]) := H
           replace hzx115 : z114.X = z108.X := hzx115
           have hzx115l : z114.X.G.length = z108.X.G.length := by rw [hzx115]
           refine l_op (o_val (r_bin (a := (z105.X.acc ([97] : List UInt8)).used) (b := (z108.X.acc ([97] : List UInt8)).used) rfl rfl (fun _ => b_neqB false (decide_eq_false (fun hne2 => hne2 (by rw [hA4.a]))))) ?_)
           first | refine l_end ?_ | refine l_nil ?_
           have hA3 : Apt z111.X z114.X := by
             rw [hzx112, hzx115]
             exact hA4
           repeat refine c_seq ?_
           refine c_no rfl ?_
           refine c_skip ?_
           repeat refine c_seq ?_
           refine c_region ?_
           refine l_op (o_val (r_mv) ?_)
           refine l_op (o_val (r_bin (a := (i : Int)) (b := 1) rfl rfl (fun _ => b_add (by omega) (by omega))) ?_)
           refine l_op (o_val (r_as) ?_)
           first | refine l_end ?_ | refine l_nil ?_
           refine round_end (i + 1, z111, z114) ?_ ?_ ?_
           · exact ⟨rfl, rfl, rfl, rfl, show VI ((i : Int) + 1) = VI ((i + 1 : Nat) : Int) from congrArg VI (by omega), trivial⟩
           · refine ⟨?_, ?_⟩
             · try dsimp only
               exact ⟨by omega, hzo113, hzo116, hA3, by omega, by omega⟩
             · exact H.sub (.cons_cons _ (.cons_cons _ (.cons_cons _ (.cons_cons _ (.cons_cons _ (.cons_cons _ (List.nil_sublist _)))))))
           · show 61 - (i + 1 : Nat) < 61 - i; omega
          ·
           repeat refine c_seq ?_
           refine c_no (by exact congrArg Value.bool (decide_eq_false hc104)) ?_
           repeat refine c_seq ?_
           refine c_region ?_
           refine l_op (o_val (r_mv) ?_)
           refine l_op (o_val (r_fa rfl fo30_3) ?_)
           refine l_op (o_val (r_ld (v := VI e83.n) H (i := 7) rfl rfl ct2 rfl) ?_)
           refine l_op (o_callR Try.func19 rfl rfl rfl (quota_m _ _ _ _ z (mst_of H (i := 2) (j := 0) (k := 1) rfl rfl rfl (by decide) (by decide) (by decide) hz.fh hz.fa hz.oh hz.oa) hz ([97] : List UInt8) e83.n (by omega)) ?_)
           rintro _ w ⟨rfl, z117, hzx118, hzo119, Hc⟩
           replace H := (met_at H (i := 2) (j := 0) (k := 1) rfl rfl rfl (by decide) (by decide) (by decide) Hc)
           clear Hc
           replace H : Hp _ w _ ([.obj nb4 (mobj kT z117.Mh z117.c1), .obj nb5 (mobj kS z117.Ma z117.c2), _, _, _, _, _, _]) := H
           replace hzx118 : z117.X = quotaX z.X ([97] : List UInt8) e83.n := hzx118
           have hzx118l : z117.X.G.length = z.X.G.length := by rw [hzx118]; rfl
           first | refine l_end ?_ | refine l_nil ?_
           repeat refine c_seq ?_
           refine c_region ?_
           refine l_op (o_val (r_mv) ?_)
           refine l_op (o_val (r_fa rfl fo30_3) ?_)
           refine l_op (o_val (r_ld (v := VI e83.n) H (i := 7) rfl rfl ct2 rfl) ?_)
           refine l_op (o_callR Try.func19 rfl rfl rfl (quota_m _ _ _ _ z76 (mst_of H (i := 5) (j := 3) (k := 4) rfl rfl rfl (by decide) (by decide) (by decide) hzo78.fh hzo78.fa hzo78.oh hzo78.oa) hzo78 ([97] : List UInt8) e83.n (by omega)) ?_)
           rintro _ w ⟨rfl, z120, hzx121, hzo122, Hc⟩
           replace H := (met_at H (i := 5) (j := 3) (k := 4) rfl rfl rfl (by decide) (by decide) (by decide) Hc)
           clear Hc
           replace H : Hp _ w _ ([_, _, _, .obj nb7 (mobj kT z120.Mh z120.c1), .obj nb8 (mobj kS z120.Ma z120.c2), _, _, _]) := H
           replace hzx121 : z120.X = quotaX z76.X ([97] : List UInt8) e83.n := hzx121
           have hzx121l : z120.X.G.length = z76.X.G.length := by rw [hzx121]; rfl
           first | refine l_end ?_ | refine l_nil ?_
           have hA4 : Apt z117.X z120.X := by
             rw [hzx118, hzx121]
             first | exact hA2.add _ _ | exact hA2.drop hz.inv hzo78.inv _ | exact hA2.quota _
           repeat refine c_seq ?_
           refine c_region ?_
           refine l_op (o_val (r_mv) ?_)
           refine l_op (o_callR Try.func20 rfl rfl rfl (used_m _ _ _ _ z117 (mst_of H (i := 2) (j := 0) (k := 1) rfl rfl rfl (by decide) (by decide) (by decide) hzo119.fh hzo119.fa hzo119.oh hzo119.oa) hzo119 ([97] : List UInt8)) ?_)
           rintro _ w ⟨rfl, z123, hzx124, hzo125, Hc⟩
           replace H := (met_at H (i := 2) (j := 0) (k := 1) rfl rfl rfl (by decide) (by decide) (by decide) Hc)
           clear Hc
           replace H : Hp _ w _ ([.obj nb4 (mobj kT z123.Mh z123.c1), .obj nb5 (mobj kS z123.Ma z123.c2), _, _, _, _, _, _]) := H
           replace hzx124 : z123.X = z117.X := hzx124
           have hzx124l : z123.X.G.length = z117.X.G.length := by rw [hzx124]
           refine l_op (o_val (r_mv) ?_)
           refine l_op (o_callR Try.func20 rfl rfl rfl (used_m _ _ _ _ z120 (mst_of H (i := 5) (j := 3) (k := 4) rfl rfl rfl (by decide) (by decide) (by decide) hzo122.fh hzo122.fa hzo122.oh hzo122.oa) hzo122 ([97] : List UInt8)) ?_)
           rintro _ w ⟨rfl, z126, hzx127, hzo128, Hc⟩
           replace H := (met_at H (i := 5) (j := 3) (k := 4) rfl rfl rfl (by decide) (by decide) (by decide) Hc)
           clear Hc
           replace H : Hp _ w _ ([_, _, _, .obj nb7 (mobj kT z126.Mh z126.c1), .obj nb8 (mobj kS z126.Ma z126.c2), _, _, _]) := H
           replace hzx127 : z126.X = z120.X := hzx127
           have hzx127l : z126.X.G.length = z120.X.G.length := by rw [hzx127]
           refine l_op (o_val (r_bin (a := (z117.X.acc ([97] : List UInt8)).used) (b := (z120.X.acc ([97] : List UInt8)).used) rfl rfl (fun _ => b_neqB false (decide_eq_false (fun hne2 => hne2 (by rw [hA4.a]))))) ?_)
           first | refine l_end ?_ | refine l_nil ?_
           have hA3 : Apt z123.X z126.X := by
             rw [hzx124, hzx127]
             exact hA4
           repeat refine c_seq ?_
           refine c_no rfl ?_
           refine c_skip ?_
           repeat refine c_seq ?_
           refine c_region ?_
           refine l_op (o_val (r_mv) ?_)
           refine l_op (o_val (r_bin (a := (i : Int)) (b := 1) rfl rfl (fun _ => b_add (by omega) (by omega))) ?_)
           refine l_op (o_val (r_as) ?_)
           first | refine l_end ?_ | refine l_nil ?_
           refine round_end (i + 1, z123, z126) ?_ ?_ ?_
           · exact ⟨rfl, rfl, rfl, rfl, show VI ((i : Int) + 1) = VI ((i + 1 : Nat) : Int) from congrArg VI (by omega), trivial⟩
           · refine ⟨?_, ?_⟩
             · try dsimp only
               exact ⟨by omega, hzo125, hzo128, hA3, by omega, by omega⟩
             · exact H.sub (.cons_cons _ (.cons_cons _ (.cons_cons _ (.cons_cons _ (.cons_cons _ (.cons_cons _ (List.nil_sublist _)))))))
           · show 61 - (i + 1 : Nat) < 61 - i; omega
       ·
        repeat refine c_seq ?_
        refine c_no (by exact congrArg Value.bool (decide_eq_false hc75)) ?_
        repeat refine c_seq ?_
        refine c_region ?_
        refine l_op (o_val (r_mv) ?_)
        refine l_op (o_val (r_fa rfl fo30_1) ?_)
        refine l_op (o_val (r_ld (v := .string ⟨(e14.who).toArray⟩) H (i := 6) rfl rfl ct9 rfl) ?_)
        refine l_op (o_val (r_stradd (a := ([98] : List UInt8)) (b := e14.who) rfl rfl (by (try simp only [List.length_cons, List.length_nil]); omega)) ?_)
        refine l_op (o_val (r_fa rfl fo30_3) ?_)
        refine l_op (o_val (r_ld (v := VI e14.n) H (i := 6) rfl rfl ct2 rfl) ?_)
        refine l_op (o_callR Try.func19 rfl rfl rfl (quota_m _ _ _ _ y (mst_of H (i := 5) (j := 3) (k := 4) rfl rfl rfl (by decide) (by decide) (by decide) hy.fh hy.fa hy.oh hy.oa) hy (([98] : List UInt8) ++ e14.who) e14.n (by omega)) ?_)
        rintro _ w ⟨rfl, z129, hzx130, hzo131, Hc⟩
        replace H := (met_at H (i := 5) (j := 3) (k := 4) rfl rfl rfl (by decide) (by decide) (by decide) Hc)
        clear Hc
        replace H : Hp _ w _ ([_, _, _, .obj nb7 (mobj kT z129.Mh z129.c1), .obj nb8 (mobj kS z129.Ma z129.c2), _, _]) := H
        replace hzx130 : z129.X = quotaX y.X (([98] : List UInt8) ++ e14.who) e14.n := hzx130
        have hzx130l : z129.X.G.length = y.X.G.length := by rw [hzx130]; rfl
        first | refine l_end ?_ | refine l_nil ?_
        have hA2 : Apt z.X z129.X := by
          rw [hzx130]
          first | exact hA.addR hne _ _ | exact hA.dropR hy.inv hne _ | exact hA.quotaR hne _
        repeat refine c_seq ?_
        refine c_region ?_
        refine l_op (o_val (r_mv) ?_)
        refine l_op (o_val (r_mv) ?_)
        refine l_op (o_val (r_lens el22 rfl) ?_)
        refine l_op (o_val (r_bin (a := (i : Int)) (b := (g.len : Int)) rfl rfl (fun _ => b_geq)) ?_)
        first | refine l_end ?_ | refine l_nil ?_
        by_cases hc132 : (g.len : Int) ≤ (i : Int)
        ·
         repeat refine c_seq ?_
         refine c_yes (by exact congrArg Value.bool (decide_eq_true hc132)) ?_
         refine c_exit ?_
         repeat refine c_seq ?_
         refine c_region ?_
         refine l_op (o_val (r_mv) ?_)
         refine l_op (o_val (r_bin (a := (i : Int)) (b := 1) rfl rfl (fun _ => b_add (by omega) (by omega))) ?_)
         refine l_op (o_val (r_as) ?_)
         first | refine l_end ?_ | refine l_nil ?_
         refine round_end (i + 1, z, z129) ?_ ?_ ?_
         · exact ⟨rfl, rfl, rfl, rfl, show VI ((i : Int) + 1) = VI ((i + 1 : Nat) : Int) from congrArg VI (by omega), trivial⟩
         · refine ⟨?_, ?_⟩
           · try dsimp only
             exact ⟨by omega, hz, hzo131, hA2, by omega, by omega⟩
           · exact H.sub (.cons_cons _ (.cons_cons _ (.cons_cons _ (.cons_cons _ (.cons_cons _ (.cons_cons _ (List.nil_sublist _)))))))
         · show 61 - (i + 1 : Nat) < 61 - i; omega
        ·
         repeat refine c_seq ?_
         refine c_no (by exact congrArg Value.bool (decide_eq_false hc132)) ?_
         refine c_skip ?_
         repeat refine c_seq ?_
         refine c_region ?_
         refine l_op (o_val (r_mv) ?_)
         refine l_op (o_val (r_mv) ?_)
         have ah135 := ((hg.up H)).addr (by decide) (by first | omega | (dsimp only; omega))
         obtain ⟨ab133, ao134, ah135⟩ := ah135
         refine l_op (o_val (r_isN i rfl rfl el22 ah135 (by omega) (by (try simp only [Sl.cut]); omega)) ?_)
         have he137 : ∃ c, g.l[i]? = some c := ⟨_, List.getElem?_eq_getElem (by have := ((hg.up H)).ln; (try dsimp only at this ⊢); omega)⟩
         obtain ⟨e136, he137⟩ := he137
         have hez138 := ((hg.up H)).sz e136 (List.mem_of_getElem? he137)
         refine l_op (o_val (r_ldRow (s := g) (k := i) (hg.up H) ah135 rfl rt30 (by decide) he137) ?_)
         refine l_op (o_alloc H zc30 (fun b139 w H hb139 => ?_))
         replace H : Hp _ w _ ([_, _, _, _, _, _, _, .blk b139 ([VI 0, .string ⟨(([] : List UInt8)).toArray⟩, V8 (0 : UInt8), VI 0]) 30]) := H
         refine l_op (o_stW (C' := [VI e136.kind, .string ⟨(e136.who).toArray⟩, V8 e136.k, VI e136.n]) H (i := 7) rfl rfl rfl cs30 (by simp [Value.oneCell']) (by rfl) (by rfl) (fun w H => ?_))
         replace H : Hp _ w _ ([_, _, _, _, _, _, _, .blk b139 ([VI e136.kind, .string ⟨(e136.who).toArray⟩, V8 e136.k, VI e136.n]) 30]) := H
         first | refine l_end ?_ | refine l_nil ?_
         have hnb2 := ha _ (List.mem_of_getElem? he137)
         repeat refine c_seq ?_
         refine c_region ?_
         refine l_op (o_val (r_fa rfl fo30_0) ?_)
         refine l_op (o_val (r_ld (v := VI e136.kind) H (i := 7) rfl rfl ct3 rfl) ?_)
         refine l_op (o_callR Try.func16 rfl rfl rfl (place_ret _ e136.kind 3 (by omega) (by omega)) ?_)
         rintro _ w' ⟨m140, rfl, hm141, hw142⟩
         rw [hw142]; clear hw142 w'
         first | refine l_end ?_ | refine l_nil ?_
         repeat refine c_seq ?_
         refine c_block ?_
         repeat refine c_seq ?_
         refine c_region ?_
         refine l_op (o_val (r_bin (a := (m140 : Int)) (b := 0) rfl rfl (fun _ => b_eql)) ?_)
         refine l_op (o_val (r_as) ?_)
         first | refine l_end ?_ | refine l_nil ?_
         by_cases hc143 : (m140 : Int) = 0
         ·
          repeat refine c_seq ?_
          refine c_yes (by exact congrArg Value.bool (decide_eq_true hc143)) ?_
          repeat refine c_seq ?_
          refine c_region ?_
          refine l_op (o_val (r_mv) ?_)
          refine l_op (o_val (r_fa rfl fo30_2) ?_)
          refine l_op (o_val (r_ld (v := V8 e136.k) H (i := 7) rfl rfl ct5 rfl) ?_)
          refine l_op (o_val (r_bld' (cells := (((e136.k :: List.replicate 31 (0 : UInt8))).map V8).toArray) (pv := [(0, V8 e136.k)]) bd36 rfl rfl) ?_)
          refine l_op (o_val (r_fa rfl fo30_3) ?_)
          refine l_op (o_val (r_ld (v := VI e136.n) H (i := 7) rfl rfl ct2 rfl) ?_)
          refine l_op (o_callR Try.func17 rfl rfl rfl (add_m _ _ _ _ z (mst_of H (i := 2) (j := 0) (k := 1) rfl rfl rfl (by decide) (by decide) (by decide) hz.fh hz.fa hz.oh hz.oa) hz (by omega) ([97] : List UInt8) (idB e136.k).1 (idB e136.k).2 e136.n) ?_)
          rintro _ w ⟨rfl, z144, hzx145, hzo146, Hc⟩
          replace H := (met_at H (i := 2) (j := 0) (k := 1) rfl rfl rfl (by decide) (by decide) (by decide) Hc)
          clear Hc
          replace H : Hp _ w _ ([.obj nb4 (mobj kT z144.Mh z144.c1), .obj nb5 (mobj kS z144.Ma z144.c2), _, _, _, _, _, _]) := H
          replace hzx145 : z144.X = addX z.X ([97] : List UInt8) (idB e136.k) e136.n := hzx145
          have hzx145l := add_len z.X ([97] : List UInt8) (idB e136.k) e136.n
          rw [← hzx145] at hzx145l
          refine l_op (o_val (r_mv) ?_)
          refine l_op (o_val (r_ext rfl rfl) ?_)
          refine l_op (o_val (r_ext rfl rfl) ?_)
          refine l_op (o_val (r_as) ?_)
          refine l_op (o_val (r_as) ?_)
          first | refine l_end ?_ | refine l_nil ?_
          repeat refine c_seq ?_
          refine c_region ?_
          refine l_op (o_val (r_mv) ?_)
          refine l_op (o_val (r_fa rfl fo30_2) ?_)
          refine l_op (o_val (r_ld (v := V8 e136.k) H (i := 7) rfl rfl ct5 rfl) ?_)
          refine l_op (o_val (r_bld' (cells := (((e136.k :: List.replicate 31 (0 : UInt8))).map V8).toArray) (pv := [(0, V8 e136.k)]) bd36 rfl rfl) ?_)
          refine l_op (o_val (r_fa rfl fo30_3) ?_)
          refine l_op (o_val (r_ld (v := VI e136.n) H (i := 7) rfl rfl ct2 rfl) ?_)
          refine l_op (o_callR Try.func17 rfl rfl rfl (add_m _ _ _ _ z129 (mst_of H (i := 5) (j := 3) (k := 4) rfl rfl rfl (by decide) (by decide) (by decide) hzo131.fh hzo131.fa hzo131.oh hzo131.oa) hzo131 (by omega) ([97] : List UInt8) (idB e136.k).1 (idB e136.k).2 e136.n) ?_)
          rintro _ w ⟨rfl, z147, hzx148, hzo149, Hc⟩
          replace H := (met_at H (i := 5) (j := 3) (k := 4) rfl rfl rfl (by decide) (by decide) (by decide) Hc)
          clear Hc
          replace H : Hp _ w _ ([_, _, _, .obj nb7 (mobj kT z147.Mh z147.c1), .obj nb8 (mobj kS z147.Ma z147.c2), _, _, _]) := H
          replace hzx148 : z147.X = addX z129.X ([97] : List UInt8) (idB e136.k) e136.n := hzx148
          have hzx148l := add_len z129.X ([97] : List UInt8) (idB e136.k) e136.n
          rw [← hzx148] at hzx148l
          refine l_op (o_val (r_mv) ?_)
          refine l_op (o_val (r_ext rfl rfl) ?_)
          refine l_op (o_val (r_ext rfl rfl) ?_)
          refine l_op (o_val (r_as) ?_)
          refine l_op (o_val (r_as) ?_)
          first | refine l_end ?_ | refine l_nil ?_
          repeat refine c_seq ?_
          refine c_region ?_
          refine l_op (o_val (r_mv) ?_)
          refine l_op (o_val (r_mv) ?_)
          refine l_op (o_val (r_bne Try.underlying4 rfl rfl) ?_)
          have hk150 : (!((addB z.X ([97] : List UInt8) (idB e136.k) e136.n) == (addB z129.X ([97] : List UInt8) (idB e136.k) e136.n))) = false := (by rw [hA2.addB]; simp)
          refine l_op (o_val (r_mv) ?_)
          refine l_yes rfl rfl (by exact congrArg Value.bool hk150) (o_val (r_mv) ?_)
          refine l_yes rfl rfl (by exact congrArg Value.bool hk150) (o_val (r_mv) ?_)
          refine l_yes rfl rfl (by exact congrArg Value.bool hk150) (o_val (r_bin (a := addE z.X ([97] : List UInt8) (idB e136.k) e136.n) (b := addE z129.X ([97] : List UInt8) (idB e136.k) e136.n) rfl rfl (fun _ => b_neqB false (decide_eq_false (fun hne2 => hne2 (hA2.addE _ _))))) ?_)
          refine l_op (o_val (r_pick (b := false) (congrArg Value.bool hk150)) ?_)
          first | refine l_end ?_ | refine l_nil ?_
          repeat refine c_seq ?_
          refine c_no rfl ?_
          refine c_skip ?_
          have hA4 : Apt z144.X z147.X := by
            rw [hzx145, hzx148]
            first | exact hA2.add _ _ | exact hA2.drop hz.inv hzo131.inv _ | exact hA2.quota _
          repeat refine c_seq ?_
          refine c_region ?_
          refine l_op (o_val (r_mv) ?_)
          refine l_op (o_callR Try.func20 rfl rfl rfl (used_m _ _ _ _ z144 (mst_of H (i := 2) (j := 0) (k := 1) rfl rfl rfl (by decide) (by decide) (by decide) hzo146.fh hzo146.fa hzo146.oh hzo146.oa) hzo146 ([97] : List UInt8)) ?_)
          rintro _ w ⟨rfl, z151, hzx152, hzo153, Hc⟩
          replace H := (met_at H (i := 2) (j := 0) (k := 1) rfl rfl rfl (by decide) (by decide) (by decide) Hc)
          clear Hc
          replace H : Hp _ w _ ([.obj nb4 (mobj kT z151.Mh z151.c1), .obj nb5 (mobj kS z151.Ma z151.c2), _, _, _, _, _, _]) := H
          replace hzx152 : z151.X = z144.X := hzx152
          have hzx152l : z151.X.G.length = z144.X.G.length := by rw [hzx152]
          refine l_op (o_val (r_mv) ?_)
          refine l_op (o_callR Try.func20 rfl rfl rfl (used_m _ _ _ _ z147 (mst_of H (i := 5) (j := 3) (k := 4) rfl rfl rfl (by decide) (by decide) (by decide) hzo149.fh hzo149.fa hzo149.oh hzo149.oa) hzo149 ([97] : List UInt8)) ?_)
          rintro _ w ⟨rfl, z154, hzx155, hzo156, Hc⟩
          replace H := (met_at H (i := 5) (j := 3) (k := 4) rfl rfl rfl (by decide) (by decide) (by decide) Hc)
          clear Hc
          replace H : Hp _ w _ ([_, _, _, .obj nb7 (mobj kT z154.Mh z154.c1), .obj nb8 (mobj kS z154.Ma z154.c2), _, _, _]) := H
          replace hzx155 : z154.X = z147.X := hzx155
          have hzx155l : z154.X.G.length = z147.X.G.length := by rw [hzx155]
          refine l_op (o_val (r_bin (a := (z144.X.acc ([97] : List UInt8)).used) (b := (z147.X.acc ([97] : List UInt8)).used) rfl rfl (fun _ => b_neqB false (decide_eq_false (fun hne2 => hne2 (by rw [hA4.a]))))) ?_)
          first | refine l_end ?_ | refine l_nil ?_
          have hA3 : Apt z151.X z154.X := by
            rw [hzx152, hzx155]
            exact hA4
          repeat refine c_seq ?_
          refine c_no rfl ?_
          refine c_skip ?_
          repeat refine c_seq ?_
          refine c_region ?_
          refine l_op (o_val (r_mv) ?_)
          refine l_op (o_val (r_bin (a := (i : Int)) (b := 1) rfl rfl (fun _ => b_add (by omega) (by omega))) ?_)
          refine l_op (o_val (r_as) ?_)
          first | refine l_end ?_ | refine l_nil ?_
          refine round_end (i + 1, z151, z154) ?_ ?_ ?_
          · exact ⟨rfl, rfl, rfl, rfl, show VI ((i : Int) + 1) = VI ((i + 1 : Nat) : Int) from congrArg VI (by omega), trivial⟩
          · refine ⟨?_, ?_⟩
            · try dsimp only
              exact ⟨by omega, hzo153, hzo156, hA3, by omega, by omega⟩
            · exact H.sub (.cons_cons _ (.cons_cons _ (.cons_cons _ (.cons_cons _ (.cons_cons _ (.cons_cons _ (List.nil_sublist _)))))))
          · show 61 - (i + 1 : Nat) < 61 - i; omega
         ·
          repeat refine c_seq ?_
          refine c_no (by exact congrArg Value.bool (decide_eq_false hc143)) ?_
          repeat refine c_seq ?_
          refine c_region ?_
          refine l_op (o_val (r_bin (a := (m140 : Int)) (b := 1) rfl rfl (fun _ => b_eql)) ?_)
          refine l_op (o_val (r_as) ?_)
          first | refine l_end ?_ | refine l_nil ?_
          by_cases hc157 : (m140 : Int) = 1
          ·
           repeat refine c_seq ?_
           refine c_yes (by exact congrArg Value.bool (decide_eq_true hc157)) ?_
           repeat refine c_seq ?_
           refine wp_held (fun w => Hp w0 w [] [.blk nb3 ([.map (some nb4), .map (some nb5)]) 54, .blk nb6 ([.map (some nb7), .map (some nb8)]) 54, .blk b17 ([VI e14.kind, .string ⟨(e14.who).toArray⟩, V8 e14.k, VI e14.n]) 30, .blk b139 ([VI e136.kind, .string ⟨(e136.who).toArray⟩, V8 e136.k, VI e136.n]) 30]) mixed ?_
           replace H := H.drew
           have HS := H.sub (.cons _ (.cons _ (.cons_cons _ (.cons _ (.cons _ (.cons_cons _ (.cons_cons _ (.cons_cons _ (List.nil_sublist _)))))))))
           refine t_take 0 rfl (by kernel_rfl) (by kernel_rfl) (by kernel_rfl) (fun _ _ _ h => h) (fun w HS => r_mv) HS ?_
           refine t_take 1 rfl (by kernel_rfl) (by kernel_rfl) (by kernel_rfl) (fun _ _ _ h => h) (fun w HS => r_fa rfl fo30_2) HS ?_
           refine t_take 2 rfl (by kernel_rfl) (by kernel_rfl) (by kernel_rfl) (fun _ _ _ h => h) (fun w HS => r_ld (v := V8 e136.k) HS (i := 3) rfl rfl ct5 rfl) HS ?_
           refine t_take 3 rfl (by kernel_rfl) (by kernel_rfl) (by kernel_rfl) (fun _ _ _ h => h) (fun w HS => r_bld' (cells := (((e136.k :: List.replicate 31 (0 : UInt8))).map V8).toArray) (pv := [(0, V8 e136.k)]) bd36 rfl rfl) HS ?_
           refine t_take 5 rfl (by kernel_rfl) (by kernel_rfl) (by kernel_rfl) (fun _ _ _ h => h) (fun w HS => r_mv) HS ?_
           refine t_take 6 rfl (by kernel_rfl) (by kernel_rfl) (by kernel_rfl) (fun _ _ _ h => h) (fun w HS => r_fa rfl fo30_2) HS ?_
           refine t_take 7 rfl (by kernel_rfl) (by kernel_rfl) (by kernel_rfl) (fun _ _ _ h => h) (fun w HS => r_ld (v := V8 e136.k) HS (i := 3) rfl rfl ct5 rfl) HS ?_
           refine t_take 8 rfl (by kernel_rfl) (by kernel_rfl) (by kernel_rfl) (fun _ _ _ h => h) (fun w HS => r_bld' (cells := (((e136.k :: List.replicate 31 (0 : UInt8))).map V8).toArray) (pv := [(0, V8 e136.k)]) bd36 rfl rfl) HS ?_
           refine t_step 4 rfl (by kernel_rfl) (o_callR Try.func18 rfl rfl rfl (drop_m _ _ _ _ z (mst_of H (i := 2) (j := 0) (k := 1) rfl rfl rfl (by decide) (by decide) (by decide) hz.fh hz.fa hz.oh hz.oa) hz (by omega) ([97] : List UInt8) (idB e136.k).1 (idB e136.k).2) ?_)
           rintro _ w ⟨rfl, z158, hzx159, hzo160, Hc⟩
           replace H := (met_at H (i := 2) (j := 0) (k := 1) rfl rfl rfl (by decide) (by decide) (by decide) Hc)
           clear Hc
           replace H : Hp _ w _ ([.obj nb4 (mobj kT z158.Mh z158.c1), .obj nb5 (mobj kS z158.Ma z158.c2), _, _, _, _, _, _]) := H
           replace hzx159 : z158.X = dropX z.X ([97] : List UInt8) (idB e136.k) := hzx159
           have hzx159l := drop_len z.X ([97] : List UInt8) (idB e136.k)
           rw [← hzx159] at hzx159l
           refine ⟨H.sub (.cons _ (.cons _ (.cons_cons _ (.cons _ (.cons _ (.cons_cons _ (.cons_cons _ (.cons_cons _ (List.nil_sublist _))))))))), ?_⟩
           replace HS := H.sub (.cons _ (.cons _ (.cons_cons _ (.cons _ (.cons _ (.cons_cons _ (.cons_cons _ (.cons_cons _ (List.nil_sublist _)))))))))
           refine t_step 9 rfl (by kernel_rfl) (o_callR Try.func18 rfl rfl rfl (drop_m _ _ _ _ z129 (mst_of H (i := 5) (j := 3) (k := 4) rfl rfl rfl (by decide) (by decide) (by decide) hzo131.fh hzo131.fa hzo131.oh hzo131.oa) hzo131 (by omega) ([97] : List UInt8) (idB e136.k).1 (idB e136.k).2) ?_)
           rintro _ w ⟨rfl, z161, hzx162, hzo163, Hc⟩
           replace H := (met_at H (i := 5) (j := 3) (k := 4) rfl rfl rfl (by decide) (by decide) (by decide) Hc)
           clear Hc
           replace H : Hp _ w _ ([_, _, _, .obj nb7 (mobj kT z161.Mh z161.c1), .obj nb8 (mobj kS z161.Ma z161.c2), _, _, _]) := H
           replace hzx162 : z161.X = dropX z129.X ([97] : List UInt8) (idB e136.k) := hzx162
           have hzx162l := drop_len z129.X ([97] : List UInt8) (idB e136.k)
           rw [← hzx162] at hzx162l
           refine ⟨H.sub (.cons _ (.cons _ (.cons_cons _ (.cons _ (.cons _ (.cons_cons _ (.cons_cons _ (.cons_cons _ (List.nil_sublist _))))))))), ?_⟩
           replace HS := H.sub (.cons _ (.cons _ (.cons_cons _ (.cons _ (.cons _ (.cons_cons _ (.cons_cons _ (.cons_cons _ (List.nil_sublist _)))))))))
           refine t_take 10 rfl (by kernel_rfl) (by kernel_rfl) (by kernel_rfl) (fun _ _ _ h => h) (fun w HS => r_bin (a := dropE z.X ([97] : List UInt8) (idB e136.k)) (b := dropE z129.X ([97] : List UInt8) (idB e136.k)) rfl rfl (fun _ => b_neqB false (decide_eq_false (fun hne2 => hne2 (hA2.dropE _))))) HS ?_
           refine t_done (by kernel_rfl) ?_
           clear HS
           repeat refine c_seq ?_
           refine c_no rfl ?_
           refine c_skip ?_
           have hA4 : Apt z158.X z161.X := by
             rw [hzx159, hzx162]
             first | exact hA2.add _ _ | exact hA2.drop hz.inv hzo131.inv _ | exact hA2.quota _
           repeat refine c_seq ?_
           refine c_region ?_
           refine l_op (o_val (r_mv) ?_)
           refine l_op (o_callR Try.func20 rfl rfl rfl (used_m _ _ _ _ z158 (mst_of H (i := 2) (j := 0) (k := 1) rfl rfl rfl (by decide) (by decide) (by decide) hzo160.fh hzo160.fa hzo160.oh hzo160.oa) hzo160 ([97] : List UInt8)) ?_)
           rintro _ w ⟨rfl, z164, hzx165, hzo166, Hc⟩
           replace H := (met_at H (i := 2) (j := 0) (k := 1) rfl rfl rfl (by decide) (by decide) (by decide) Hc)
           clear Hc
           replace H : Hp _ w _ ([.obj nb4 (mobj kT z164.Mh z164.c1), .obj nb5 (mobj kS z164.Ma z164.c2), _, _, _, _, _, _]) := H
           replace hzx165 : z164.X = z158.X := hzx165
           have hzx165l : z164.X.G.length = z158.X.G.length := by rw [hzx165]
           refine l_op (o_val (r_mv) ?_)
           refine l_op (o_callR Try.func20 rfl rfl rfl (used_m _ _ _ _ z161 (mst_of H (i := 5) (j := 3) (k := 4) rfl rfl rfl (by decide) (by decide) (by decide) hzo163.fh hzo163.fa hzo163.oh hzo163.oa) hzo163 ([97] : List UInt8)) ?_)
           rintro _ w ⟨rfl, z167, hzx168, hzo169, Hc⟩
           replace H := (met_at H (i := 5) (j := 3) (k := 4) rfl rfl rfl (by decide) (by decide) (by decide) Hc)
           clear Hc
           replace H : Hp _ w _ ([_, _, _, .obj nb7 (mobj kT z167.Mh z167.c1), .obj nb8 (mobj kS z167.Ma z167.c2), _, _, _]) := H
           replace hzx168 : z167.X = z161.X := hzx168
           have hzx168l : z167.X.G.length = z161.X.G.length := by rw [hzx168]
           refine l_op (o_val (r_bin (a := (z158.X.acc ([97] : List UInt8)).used) (b := (z161.X.acc ([97] : List UInt8)).used) rfl rfl (fun _ => b_neqB false (decide_eq_false (fun hne2 => hne2 (by rw [hA4.a]))))) ?_)
           first | refine l_end ?_ | refine l_nil ?_
           have hA3 : Apt z164.X z167.X := by
             rw [hzx165, hzx168]
             exact hA4
           repeat refine c_seq ?_
           refine c_no rfl ?_
           refine c_skip ?_
           repeat refine c_seq ?_
           refine c_region ?_
           refine l_op (o_val (r_mv) ?_)
           refine l_op (o_val (r_bin (a := (i : Int)) (b := 1) rfl rfl (fun _ => b_add (by omega) (by omega))) ?_)
           refine l_op (o_val (r_as) ?_)
           first | refine l_end ?_ | refine l_nil ?_
           refine round_end (i + 1, z164, z167) ?_ ?_ ?_
           · exact ⟨rfl, rfl, rfl, rfl, show VI ((i : Int) + 1) = VI ((i + 1 : Nat) : Int) from congrArg VI (by omega), trivial⟩
           · refine ⟨?_, ?_⟩
             · try dsimp only
               exact ⟨by omega, hzo166, hzo169, hA3, by omega, by omega⟩
             · exact H.sub (.cons_cons _ (.cons_cons _ (.cons_cons _ (.cons_cons _ (.cons_cons _ (.cons_cons _ (List.nil_sublist _)))))))
           · show 61 - (i + 1 : Nat) < 61 - i; omega
          ·
           repeat refine c_seq ?_
           refine c_no (by exact congrArg Value.bool (decide_eq_false hc157)) ?_
           repeat refine c_seq ?_
           refine c_region ?_
           refine l_op (o_val (r_mv) ?_)
           refine l_op (o_val (r_fa rfl fo30_3) ?_)
           refine l_op (o_val (r_ld (v := VI e136.n) H (i := 7) rfl rfl ct2 rfl) ?_)
           refine l_op (o_callR Try.func19 rfl rfl rfl (quota_m _ _ _ _ z (mst_of H (i := 2) (j := 0) (k := 1) rfl rfl rfl (by decide) (by decide) (by decide) hz.fh hz.fa hz.oh hz.oa) hz ([97] : List UInt8) e136.n (by omega)) ?_)
           rintro _ w ⟨rfl, z170, hzx171, hzo172, Hc⟩
           replace H := (met_at H (i := 2) (j := 0) (k := 1) rfl rfl rfl (by decide) (by decide) (by decide) Hc)
           clear Hc
           replace H : Hp _ w _ ([.obj nb4 (mobj kT z170.Mh z170.c1), .obj nb5 (mobj kS z170.Ma z170.c2), _, _, _, _, _, _]) := H
           replace hzx171 : z170.X = quotaX z.X ([97] : List UInt8) e136.n := hzx171
           have hzx171l : z170.X.G.length = z.X.G.length := by rw [hzx171]; rfl
           first | refine l_end ?_ | refine l_nil ?_
           repeat refine c_seq ?_
           refine c_region ?_
           refine l_op (o_val (r_mv) ?_)
           refine l_op (o_val (r_fa rfl fo30_3) ?_)
           refine l_op (o_val (r_ld (v := VI e136.n) H (i := 7) rfl rfl ct2 rfl) ?_)
           refine l_op (o_callR Try.func19 rfl rfl rfl (quota_m _ _ _ _ z129 (mst_of H (i := 5) (j := 3) (k := 4) rfl rfl rfl (by decide) (by decide) (by decide) hzo131.fh hzo131.fa hzo131.oh hzo131.oa) hzo131 ([97] : List UInt8) e136.n (by omega)) ?_)
           rintro _ w ⟨rfl, z173, hzx174, hzo175, Hc⟩
           replace H := (met_at H (i := 5) (j := 3) (k := 4) rfl rfl rfl (by decide) (by decide) (by decide) Hc)
           clear Hc
           replace H : Hp _ w _ ([_, _, _, .obj nb7 (mobj kT z173.Mh z173.c1), .obj nb8 (mobj kS z173.Ma z173.c2), _, _, _]) := H
           replace hzx174 : z173.X = quotaX z129.X ([97] : List UInt8) e136.n := hzx174
           have hzx174l : z173.X.G.length = z129.X.G.length := by rw [hzx174]; rfl
           first | refine l_end ?_ | refine l_nil ?_
           have hA4 : Apt z170.X z173.X := by
             rw [hzx171, hzx174]
             first | exact hA2.add _ _ | exact hA2.drop hz.inv hzo131.inv _ | exact hA2.quota _
           repeat refine c_seq ?_
           refine c_region ?_
           refine l_op (o_val (r_mv) ?_)
           refine l_op (o_callR Try.func20 rfl rfl rfl (used_m _ _ _ _ z170 (mst_of H (i := 2) (j := 0) (k := 1) rfl rfl rfl (by decide) (by decide) (by decide) hzo172.fh hzo172.fa hzo172.oh hzo172.oa) hzo172 ([97] : List UInt8)) ?_)
           rintro _ w ⟨rfl, z176, hzx177, hzo178, Hc⟩
           replace H := (met_at H (i := 2) (j := 0) (k := 1) rfl rfl rfl (by decide) (by decide) (by decide) Hc)
           clear Hc
           replace H : Hp _ w _ ([.obj nb4 (mobj kT z176.Mh z176.c1), .obj nb5 (mobj kS z176.Ma z176.c2), _, _, _, _, _, _]) := H
           replace hzx177 : z176.X = z170.X := hzx177
           have hzx177l : z176.X.G.length = z170.X.G.length := by rw [hzx177]
           refine l_op (o_val (r_mv) ?_)
           refine l_op (o_callR Try.func20 rfl rfl rfl (used_m _ _ _ _ z173 (mst_of H (i := 5) (j := 3) (k := 4) rfl rfl rfl (by decide) (by decide) (by decide) hzo175.fh hzo175.fa hzo175.oh hzo175.oa) hzo175 ([97] : List UInt8)) ?_)
           rintro _ w ⟨rfl, z179, hzx180, hzo181, Hc⟩
           replace H := (met_at H (i := 5) (j := 3) (k := 4) rfl rfl rfl (by decide) (by decide) (by decide) Hc)
           clear Hc
           replace H : Hp _ w _ ([_, _, _, .obj nb7 (mobj kT z179.Mh z179.c1), .obj nb8 (mobj kS z179.Ma z179.c2), _, _, _]) := H
           replace hzx180 : z179.X = z173.X := hzx180
           have hzx180l : z179.X.G.length = z173.X.G.length := by rw [hzx180]
           refine l_op (o_val (r_bin (a := (z170.X.acc ([97] : List UInt8)).used) (b := (z173.X.acc ([97] : List UInt8)).used) rfl rfl (fun _ => b_neqB false (decide_eq_false (fun hne2 => hne2 (by rw [hA4.a]))))) ?_)
           first | refine l_end ?_ | refine l_nil ?_
           have hA3 : Apt z176.X z179.X := by
             rw [hzx177, hzx180]
             exact hA4
           repeat refine c_seq ?_
           refine c_no rfl ?_
           refine c_skip ?_
           repeat refine c_seq ?_
           refine c_region ?_
           refine l_op (o_val (r_mv) ?_)
           refine l_op (o_val (r_bin (a := (i : Int)) (b := 1) rfl rfl (fun _ => b_add (by omega) (by omega))) ?_)
           refine l_op (o_val (r_as) ?_)
           first | refine l_end ?_ | refine l_nil ?_
           refine round_end (i + 1, z176, z179) ?_ ?_ ?_
           · exact ⟨rfl, rfl, rfl, rfl, show VI ((i : Int) + 1) = VI ((i + 1 : Nat) : Int) from congrArg VI (by omega), trivial⟩
           · refine ⟨?_, ?_⟩
             · try dsimp only
               exact ⟨by omega, hzo178, hzo181, hA3, by omega, by omega⟩
             · exact H.sub (.cons_cons _ (.cons_cons _ (.cons_cons _ (.cons_cons _ (.cons_cons _ (.cons_cons _ (List.nil_sublist _)))))))
           · show 61 - (i + 1 : Nat) < 61 - i; omega
     ·
      repeat refine c_seq ?_
      refine c_no (by exact congrArg Value.bool (decide_eq_false hc10)) ?_
      refine c_skip ?_
      have hA2 := hA
      repeat refine c_seq ?_
      refine c_region ?_
      refine l_op (o_val (r_mv) ?_)
      refine l_op (o_val (r_mv) ?_)
      refine l_op (o_val (r_lens el22 rfl) ?_)
      refine l_op (o_val (r_bin (a := (i : Int)) (b := (g.len : Int)) rfl rfl (fun _ => b_geq)) ?_)
      first | refine l_end ?_ | refine l_nil ?_
      by_cases hc182 : (g.len : Int) ≤ (i : Int)
      ·
       repeat refine c_seq ?_
       refine c_yes (by exact congrArg Value.bool (decide_eq_true hc182)) ?_
       refine c_exit ?_
       repeat refine c_seq ?_
       refine c_region ?_
       refine l_op (o_val (r_mv) ?_)
       refine l_op (o_val (r_bin (a := (i : Int)) (b := 1) rfl rfl (fun _ => b_add (by omega) (by omega))) ?_)
       refine l_op (o_val (r_as) ?_)
       first | refine l_end ?_ | refine l_nil ?_
       refine round_end (i + 1, z, y) ?_ ?_ ?_
       · exact ⟨rfl, rfl, rfl, rfl, show VI ((i : Int) + 1) = VI ((i + 1 : Nat) : Int) from congrArg VI (by omega), trivial⟩
       · refine ⟨?_, ?_⟩
         · try dsimp only
           exact ⟨by omega, hz, hy, hA2, by omega, by omega⟩
         · exact H.sub (.cons_cons _ (.cons_cons _ (.cons_cons _ (.cons_cons _ (.cons_cons _ (.cons_cons _ (List.nil_sublist _)))))))
       · show 61 - (i + 1 : Nat) < 61 - i; omega
      ·
       repeat refine c_seq ?_
       refine c_no (by exact congrArg Value.bool (decide_eq_false hc182)) ?_
       refine c_skip ?_
       repeat refine c_seq ?_
       refine c_region ?_
       refine l_op (o_val (r_mv) ?_)
       refine l_op (o_val (r_mv) ?_)
       have ah185 := ((hg.up H)).addr (by decide) (by first | omega | (dsimp only; omega))
       obtain ⟨ab183, ao184, ah185⟩ := ah185
       refine l_op (o_val (r_isN i rfl rfl el22 ah185 (by omega) (by (try simp only [Sl.cut]); omega)) ?_)
       have he187 : ∃ c, g.l[i]? = some c := ⟨_, List.getElem?_eq_getElem (by have := ((hg.up H)).ln; (try dsimp only at this ⊢); omega)⟩
       obtain ⟨e186, he187⟩ := he187
       have hez188 := ((hg.up H)).sz e186 (List.mem_of_getElem? he187)
       refine l_op (o_val (r_ldRow (s := g) (k := i) (hg.up H) ah185 rfl rt30 (by decide) he187) ?_)
       refine l_op (o_alloc H zc30 (fun b189 w H hb189 => ?_))
       replace H : Hp _ w _ ([_, _, _, _, _, _, .blk b189 ([VI 0, .string ⟨(([] : List UInt8)).toArray⟩, V8 (0 : UInt8), VI 0]) 30]) := H
       refine l_op (o_stW (C' := [VI e186.kind, .string ⟨(e186.who).toArray⟩, V8 e186.k, VI e186.n]) H (i := 6) rfl rfl rfl cs30 (by simp [Value.oneCell']) (by rfl) (by rfl) (fun w H => ?_))
       replace H : Hp _ w _ ([_, _, _, _, _, _, .blk b189 ([VI e186.kind, .string ⟨(e186.who).toArray⟩, V8 e186.k, VI e186.n]) 30]) := H
       first | refine l_end ?_ | refine l_nil ?_
       have hnb2 := ha _ (List.mem_of_getElem? he187)
       repeat refine c_seq ?_
       refine c_region ?_
       refine l_op (o_val (r_fa rfl fo30_0) ?_)
       refine l_op (o_val (r_ld (v := VI e186.kind) H (i := 6) rfl rfl ct3 rfl) ?_)
       refine l_op (o_callR Try.func16 rfl rfl rfl (place_ret _ e186.kind 3 (by omega) (by omega)) ?_)
       rintro _ w' ⟨m190, rfl, hm191, hw192⟩
       rw [hw192]; clear hw192 w'
       first | refine l_end ?_ | refine l_nil ?_
       repeat refine c_seq ?_
       refine c_block ?_
       repeat refine c_seq ?_
       refine c_region ?_
       refine l_op (o_val (r_bin (a := (m190 : Int)) (b := 0) rfl rfl (fun _ => b_eql)) ?_)
       refine l_op (o_val (r_as) ?_)
       first | refine l_end ?_ | refine l_nil ?_
       by_cases hc193 : (m190 : Int) = 0
       ·
        repeat refine c_seq ?_
        refine c_yes (by exact congrArg Value.bool (decide_eq_true hc193)) ?_
        repeat refine c_seq ?_
        refine c_region ?_
        refine l_op (o_val (r_mv) ?_)
        refine l_op (o_val (r_fa rfl fo30_2) ?_)
        refine l_op (o_val (r_ld (v := V8 e186.k) H (i := 6) rfl rfl ct5 rfl) ?_)
        refine l_op (o_val (r_bld' (cells := (((e186.k :: List.replicate 31 (0 : UInt8))).map V8).toArray) (pv := [(0, V8 e186.k)]) bd36 rfl rfl) ?_)
        refine l_op (o_val (r_fa rfl fo30_3) ?_)
        refine l_op (o_val (r_ld (v := VI e186.n) H (i := 6) rfl rfl ct2 rfl) ?_)
        refine l_op (o_callR Try.func17 rfl rfl rfl (add_m _ _ _ _ z (mst_of H (i := 2) (j := 0) (k := 1) rfl rfl rfl (by decide) (by decide) (by decide) hz.fh hz.fa hz.oh hz.oa) hz (by omega) ([97] : List UInt8) (idB e186.k).1 (idB e186.k).2 e186.n) ?_)
        rintro _ w ⟨rfl, z194, hzx195, hzo196, Hc⟩
        replace H := (met_at H (i := 2) (j := 0) (k := 1) rfl rfl rfl (by decide) (by decide) (by decide) Hc)
        clear Hc
        replace H : Hp _ w _ ([.obj nb4 (mobj kT z194.Mh z194.c1), .obj nb5 (mobj kS z194.Ma z194.c2), _, _, _, _, _]) := H
        replace hzx195 : z194.X = addX z.X ([97] : List UInt8) (idB e186.k) e186.n := hzx195
        have hzx195l := add_len z.X ([97] : List UInt8) (idB e186.k) e186.n
        rw [← hzx195] at hzx195l
        refine l_op (o_val (r_mv) ?_)
        refine l_op (o_val (r_ext rfl rfl) ?_)
        refine l_op (o_val (r_ext rfl rfl) ?_)
        refine l_op (o_val (r_as) ?_)
        refine l_op (o_val (r_as) ?_)
        first | refine l_end ?_ | refine l_nil ?_
        repeat refine c_seq ?_
        refine c_region ?_
        refine l_op (o_val (r_mv) ?_)
        refine l_op (o_val (r_fa rfl fo30_2) ?_)
        refine l_op (o_val (r_ld (v := V8 e186.k) H (i := 6) rfl rfl ct5 rfl) ?_)
        refine l_op (o_val (r_bld' (cells := (((e186.k :: List.replicate 31 (0 : UInt8))).map V8).toArray) (pv := [(0, V8 e186.k)]) bd36 rfl rfl) ?_)
        refine l_op (o_val (r_fa rfl fo30_3) ?_)
        refine l_op (o_val (r_ld (v := VI e186.n) H (i := 6) rfl rfl ct2 rfl) ?_)
        refine l_op (o_callR Try.func17 rfl rfl rfl (add_m _ _ _ _ y (mst_of H (i := 5) (j := 3) (k := 4) rfl rfl rfl (by decide) (by decide) (by decide) hy.fh hy.fa hy.oh hy.oa) hy (by omega) ([97] : List UInt8) (idB e186.k).1 (idB e186.k).2 e186.n) ?_)
        rintro _ w ⟨rfl, z197, hzx198, hzo199, Hc⟩
        replace H := (met_at H (i := 5) (j := 3) (k := 4) rfl rfl rfl (by decide) (by decide) (by decide) Hc)
        clear Hc
        replace H : Hp _ w _ ([_, _, _, .obj nb7 (mobj kT z197.Mh z197.c1), .obj nb8 (mobj kS z197.Ma z197.c2), _, _]) := H
        replace hzx198 : z197.X = addX y.X ([97] : List UInt8) (idB e186.k) e186.n := hzx198
        have hzx198l := add_len y.X ([97] : List UInt8) (idB e186.k) e186.n
        rw [← hzx198] at hzx198l
        refine l_op (o_val (r_mv) ?_)
        refine l_op (o_val (r_ext rfl rfl) ?_)
        refine l_op (o_val (r_ext rfl rfl) ?_)
        refine l_op (o_val (r_as) ?_)
        refine l_op (o_val (r_as) ?_)
        first | refine l_end ?_ | refine l_nil ?_
        repeat refine c_seq ?_
        refine c_region ?_
        refine l_op (o_val (r_mv) ?_)
        refine l_op (o_val (r_mv) ?_)
        refine l_op (o_val (r_bne Try.underlying4 rfl rfl) ?_)
        have hk200 : (!((addB z.X ([97] : List UInt8) (idB e186.k) e186.n) == (addB y.X ([97] : List UInt8) (idB e186.k) e186.n))) = false := (by rw [hA2.addB]; simp)
        refine l_op (o_val (r_mv) ?_)
        refine l_yes rfl rfl (by exact congrArg Value.bool hk200) (o_val (r_mv) ?_)
        refine l_yes rfl rfl (by exact congrArg Value.bool hk200) (o_val (r_mv) ?_)
        refine l_yes rfl rfl (by exact congrArg Value.bool hk200) (o_val (r_bin (a := addE z.X ([97] : List UInt8) (idB e186.k) e186.n) (b := addE y.X ([97] : List UInt8) (idB e186.k) e186.n) rfl rfl (fun _ => b_neqB false (decide_eq_false (fun hne2 => hne2 (hA2.addE _ _))))) ?_)
        refine l_op (o_val (r_pick (b := false) (congrArg Value.bool hk200)) ?_)
        first | refine l_end ?_ | refine l_nil ?_
        repeat refine c_seq ?_
        refine c_no rfl ?_
        refine c_skip ?_
        have hA4 : Apt z194.X z197.X := by
          rw [hzx195, hzx198]
          first | exact hA2.add _ _ | exact hA2.drop hz.inv hy.inv _ | exact hA2.quota _
        repeat refine c_seq ?_
        refine c_region ?_
        refine l_op (o_val (r_mv) ?_)
        refine l_op (o_callR Try.func20 rfl rfl rfl (used_m _ _ _ _ z194 (mst_of H (i := 2) (j := 0) (k := 1) rfl rfl rfl (by decide) (by decide) (by decide) hzo196.fh hzo196.fa hzo196.oh hzo196.oa) hzo196 ([97] : List UInt8)) ?_)
        rintro _ w ⟨rfl, z201, hzx202, hzo203, Hc⟩
        replace H := (met_at H (i := 2) (j := 0) (k := 1) rfl rfl rfl (by decide) (by decide) (by decide) Hc)
        clear Hc
        replace H : Hp _ w _ ([.obj nb4 (mobj kT z201.Mh z201.c1), .obj nb5 (mobj kS z201.Ma z201.c2), _, _, _, _, _]) := H
        replace hzx202 : z201.X = z194.X := hzx202
        have hzx202l : z201.X.G.length = z194.X.G.length := by rw [hzx202]
        refine l_op (o_val (r_mv) ?_)
        refine l_op (o_callR Try.func20 rfl rfl rfl (used_m _ _ _ _ z197 (mst_of H (i := 5) (j := 3) (k := 4) rfl rfl rfl (by decide) (by decide) (by decide) hzo199.fh hzo199.fa hzo199.oh hzo199.oa) hzo199 ([97] : List UInt8)) ?_)
        rintro _ w ⟨rfl, z204, hzx205, hzo206, Hc⟩
        replace H := (met_at H (i := 5) (j := 3) (k := 4) rfl rfl rfl (by decide) (by decide) (by decide) Hc)
        clear Hc
        replace H : Hp _ w _ ([_, _, _, .obj nb7 (mobj kT z204.Mh z204.c1), .obj nb8 (mobj kS z204.Ma z204.c2), _, _]) := H
        replace hzx205 : z204.X = z197.X := hzx205
        have hzx205l : z204.X.G.length = z197.X.G.length := by rw [hzx205]
        refine l_op (o_val (r_bin (a := (z194.X.acc ([97] : List UInt8)).used) (b := (z197.X.acc ([97] : List UInt8)).used) rfl rfl (fun _ => b_neqB false (decide_eq_false (fun hne2 => hne2 (by rw [hA4.a]))))) ?_)
        first | refine l_end ?_ | refine l_nil ?_
        have hA3 : Apt z201.X z204.X := by
          rw [hzx202, hzx205]
          exact hA4
        repeat refine c_seq ?_
        refine c_no rfl ?_
        refine c_skip ?_
        repeat refine c_seq ?_
        refine c_region ?_
        refine l_op (o_val (r_mv) ?_)
        refine l_op (o_val (r_bin (a := (i : Int)) (b := 1) rfl rfl (fun _ => b_add (by omega) (by omega))) ?_)
        refine l_op (o_val (r_as) ?_)
        first | refine l_end ?_ | refine l_nil ?_
        refine round_end (i + 1, z201, z204) ?_ ?_ ?_
        · exact ⟨rfl, rfl, rfl, rfl, show VI ((i : Int) + 1) = VI ((i + 1 : Nat) : Int) from congrArg VI (by omega), trivial⟩
        · refine ⟨?_, ?_⟩
          · try dsimp only
            exact ⟨by omega, hzo203, hzo206, hA3, by omega, by omega⟩
          · exact H.sub (.cons_cons _ (.cons_cons _ (.cons_cons _ (.cons_cons _ (.cons_cons _ (.cons_cons _ (List.nil_sublist _)))))))
        · show 61 - (i + 1 : Nat) < 61 - i; omega
       ·
        repeat refine c_seq ?_
        refine c_no (by exact congrArg Value.bool (decide_eq_false hc193)) ?_
        repeat refine c_seq ?_
        refine c_region ?_
        refine l_op (o_val (r_bin (a := (m190 : Int)) (b := 1) rfl rfl (fun _ => b_eql)) ?_)
        refine l_op (o_val (r_as) ?_)
        first | refine l_end ?_ | refine l_nil ?_
        by_cases hc207 : (m190 : Int) = 1
        ·
         repeat refine c_seq ?_
         refine c_yes (by exact congrArg Value.bool (decide_eq_true hc207)) ?_
         repeat refine c_seq ?_
         refine wp_held (fun w => Hp w0 w [] [.blk nb3 ([.map (some nb4), .map (some nb5)]) 54, .blk nb6 ([.map (some nb7), .map (some nb8)]) 54, .blk b189 ([VI e186.kind, .string ⟨(e186.who).toArray⟩, V8 e186.k, VI e186.n]) 30]) mixed ?_
         replace H := H.drew
         have HS := H.sub (.cons _ (.cons _ (.cons_cons _ (.cons _ (.cons _ (.cons_cons _ (.cons_cons _ (List.nil_sublist _))))))))
         refine t_take 0 rfl (by kernel_rfl) (by kernel_rfl) (by kernel_rfl) (fun _ _ _ h => h) (fun w HS => r_mv) HS ?_
         refine t_take 1 rfl (by kernel_rfl) (by kernel_rfl) (by kernel_rfl) (fun _ _ _ h => h) (fun w HS => r_fa rfl fo30_2) HS ?_
         refine t_take 2 rfl (by kernel_rfl) (by kernel_rfl) (by kernel_rfl) (fun _ _ _ h => h) (fun w HS => r_ld (v := V8 e186.k) HS (i := 2) rfl rfl ct5 rfl) HS ?_
         refine t_take 3 rfl (by kernel_rfl) (by kernel_rfl) (by kernel_rfl) (fun _ _ _ h => h) (fun w HS => r_bld' (cells := (((e186.k :: List.replicate 31 (0 : UInt8))).map V8).toArray) (pv := [(0, V8 e186.k)]) bd36 rfl rfl) HS ?_
         refine t_take 5 rfl (by kernel_rfl) (by kernel_rfl) (by kernel_rfl) (fun _ _ _ h => h) (fun w HS => r_mv) HS ?_
         refine t_take 6 rfl (by kernel_rfl) (by kernel_rfl) (by kernel_rfl) (fun _ _ _ h => h) (fun w HS => r_fa rfl fo30_2) HS ?_
         refine t_take 7 rfl (by kernel_rfl) (by kernel_rfl) (by kernel_rfl) (fun _ _ _ h => h) (fun w HS => r_ld (v := V8 e186.k) HS (i := 2) rfl rfl ct5 rfl) HS ?_
         refine t_take 8 rfl (by kernel_rfl) (by kernel_rfl) (by kernel_rfl) (fun _ _ _ h => h) (fun w HS => r_bld' (cells := (((e186.k :: List.replicate 31 (0 : UInt8))).map V8).toArray) (pv := [(0, V8 e186.k)]) bd36 rfl rfl) HS ?_
         refine t_step 4 rfl (by kernel_rfl) (o_callR Try.func18 rfl rfl rfl (drop_m _ _ _ _ z (mst_of H (i := 2) (j := 0) (k := 1) rfl rfl rfl (by decide) (by decide) (by decide) hz.fh hz.fa hz.oh hz.oa) hz (by omega) ([97] : List UInt8) (idB e186.k).1 (idB e186.k).2) ?_)
         rintro _ w ⟨rfl, z208, hzx209, hzo210, Hc⟩
         replace H := (met_at H (i := 2) (j := 0) (k := 1) rfl rfl rfl (by decide) (by decide) (by decide) Hc)
         clear Hc
         replace H : Hp _ w _ ([.obj nb4 (mobj kT z208.Mh z208.c1), .obj nb5 (mobj kS z208.Ma z208.c2), _, _, _, _, _]) := H
         replace hzx209 : z208.X = dropX z.X ([97] : List UInt8) (idB e186.k) := hzx209
         have hzx209l := drop_len z.X ([97] : List UInt8) (idB e186.k)
         rw [← hzx209] at hzx209l
         refine ⟨H.sub (.cons _ (.cons _ (.cons_cons _ (.cons _ (.cons _ (.cons_cons _ (.cons_cons _ (List.nil_sublist _)))))))), ?_⟩
         replace HS := H.sub (.cons _ (.cons _ (.cons_cons _ (.cons _ (.cons _ (.cons_cons _ (.cons_cons _ (List.nil_sublist _))))))))
         refine t_step 9 rfl (by kernel_rfl) (o_callR Try.func18 rfl rfl rfl (drop_m _ _ _ _ y (mst_of H (i := 5) (j := 3) (k := 4) rfl rfl rfl (by decide) (by decide) (by decide) hy.fh hy.fa hy.oh hy.oa) hy (by omega) ([97] : List UInt8) (idB e186.k).1 (idB e186.k).2) ?_)
         rintro _ w ⟨rfl, z211, hzx212, hzo213, Hc⟩
         replace H := (met_at H (i := 5) (j := 3) (k := 4) rfl rfl rfl (by decide) (by decide) (by decide) Hc)
         clear Hc
         replace H : Hp _ w _ ([_, _, _, .obj nb7 (mobj kT z211.Mh z211.c1), .obj nb8 (mobj kS z211.Ma z211.c2), _, _]) := H
         replace hzx212 : z211.X = dropX y.X ([97] : List UInt8) (idB e186.k) := hzx212
         have hzx212l := drop_len y.X ([97] : List UInt8) (idB e186.k)
         rw [← hzx212] at hzx212l
         refine ⟨H.sub (.cons _ (.cons _ (.cons_cons _ (.cons _ (.cons _ (.cons_cons _ (.cons_cons _ (List.nil_sublist _)))))))), ?_⟩
         replace HS := H.sub (.cons _ (.cons _ (.cons_cons _ (.cons _ (.cons _ (.cons_cons _ (.cons_cons _ (List.nil_sublist _))))))))
         refine t_take 10 rfl (by kernel_rfl) (by kernel_rfl) (by kernel_rfl) (fun _ _ _ h => h) (fun w HS => r_bin (a := dropE z.X ([97] : List UInt8) (idB e186.k)) (b := dropE y.X ([97] : List UInt8) (idB e186.k)) rfl rfl (fun _ => b_neqB false (decide_eq_false (fun hne2 => hne2 (hA2.dropE _))))) HS ?_
         refine t_done (by kernel_rfl) ?_
         clear HS
         repeat refine c_seq ?_
         refine c_no rfl ?_
         refine c_skip ?_
         have hA4 : Apt z208.X z211.X := by
           rw [hzx209, hzx212]
           first | exact hA2.add _ _ | exact hA2.drop hz.inv hy.inv _ | exact hA2.quota _
         repeat refine c_seq ?_
         refine c_region ?_
         refine l_op (o_val (r_mv) ?_)
         refine l_op (o_callR Try.func20 rfl rfl rfl (used_m _ _ _ _ z208 (mst_of H (i := 2) (j := 0) (k := 1) rfl rfl rfl (by decide) (by decide) (by decide) hzo210.fh hzo210.fa hzo210.oh hzo210.oa) hzo210 ([97] : List UInt8)) ?_)
         rintro _ w ⟨rfl, z214, hzx215, hzo216, Hc⟩
         replace H := (met_at H (i := 2) (j := 0) (k := 1) rfl rfl rfl (by decide) (by decide) (by decide) Hc)
         clear Hc
         replace H : Hp _ w _ ([.obj nb4 (mobj kT z214.Mh z214.c1), .obj nb5 (mobj kS z214.Ma z214.c2), _, _, _, _, _]) := H
         replace hzx215 : z214.X = z208.X := hzx215
         have hzx215l : z214.X.G.length = z208.X.G.length := by rw [hzx215]
         refine l_op (o_val (r_mv) ?_)
         refine l_op (o_callR Try.func20 rfl rfl rfl (used_m _ _ _ _ z211 (mst_of H (i := 5) (j := 3) (k := 4) rfl rfl rfl (by decide) (by decide) (by decide) hzo213.fh hzo213.fa hzo213.oh hzo213.oa) hzo213 ([97] : List UInt8)) ?_)
         rintro _ w ⟨rfl, z217, hzx218, hzo219, Hc⟩
         replace H := (met_at H (i := 5) (j := 3) (k := 4) rfl rfl rfl (by decide) (by decide) (by decide) Hc)
         clear Hc
         replace H : Hp _ w _ ([_, _, _, .obj nb7 (mobj kT z217.Mh z217.c1), .obj nb8 (mobj kS z217.Ma z217.c2), _, _]) := H
         replace hzx218 : z217.X = z211.X := hzx218
         have hzx218l : z217.X.G.length = z211.X.G.length := by rw [hzx218]
         refine l_op (o_val (r_bin (a := (z208.X.acc ([97] : List UInt8)).used) (b := (z211.X.acc ([97] : List UInt8)).used) rfl rfl (fun _ => b_neqB false (decide_eq_false (fun hne2 => hne2 (by rw [hA4.a]))))) ?_)
         first | refine l_end ?_ | refine l_nil ?_
         have hA3 : Apt z214.X z217.X := by
           rw [hzx215, hzx218]
           exact hA4
         repeat refine c_seq ?_
         refine c_no rfl ?_
         refine c_skip ?_
         repeat refine c_seq ?_
         refine c_region ?_
         refine l_op (o_val (r_mv) ?_)
         refine l_op (o_val (r_bin (a := (i : Int)) (b := 1) rfl rfl (fun _ => b_add (by omega) (by omega))) ?_)
         refine l_op (o_val (r_as) ?_)
         first | refine l_end ?_ | refine l_nil ?_
         refine round_end (i + 1, z214, z217) ?_ ?_ ?_
         · exact ⟨rfl, rfl, rfl, rfl, show VI ((i : Int) + 1) = VI ((i + 1 : Nat) : Int) from congrArg VI (by omega), trivial⟩
         · refine ⟨?_, ?_⟩
           · try dsimp only
             exact ⟨by omega, hzo216, hzo219, hA3, by omega, by omega⟩
           · exact H.sub (.cons_cons _ (.cons_cons _ (.cons_cons _ (.cons_cons _ (.cons_cons _ (.cons_cons _ (List.nil_sublist _)))))))
         · show 61 - (i + 1 : Nat) < 61 - i; omega
        ·
         repeat refine c_seq ?_
         refine c_no (by exact congrArg Value.bool (decide_eq_false hc207)) ?_
         repeat refine c_seq ?_
         refine c_region ?_
         refine l_op (o_val (r_mv) ?_)
         refine l_op (o_val (r_fa rfl fo30_3) ?_)
         refine l_op (o_val (r_ld (v := VI e186.n) H (i := 6) rfl rfl ct2 rfl) ?_)
         refine l_op (o_callR Try.func19 rfl rfl rfl (quota_m _ _ _ _ z (mst_of H (i := 2) (j := 0) (k := 1) rfl rfl rfl (by decide) (by decide) (by decide) hz.fh hz.fa hz.oh hz.oa) hz ([97] : List UInt8) e186.n (by omega)) ?_)
         rintro _ w ⟨rfl, z220, hzx221, hzo222, Hc⟩
         replace H := (met_at H (i := 2) (j := 0) (k := 1) rfl rfl rfl (by decide) (by decide) (by decide) Hc)
         clear Hc
         replace H : Hp _ w _ ([.obj nb4 (mobj kT z220.Mh z220.c1), .obj nb5 (mobj kS z220.Ma z220.c2), _, _, _, _, _]) := H
         replace hzx221 : z220.X = quotaX z.X ([97] : List UInt8) e186.n := hzx221
         have hzx221l : z220.X.G.length = z.X.G.length := by rw [hzx221]; rfl
         first | refine l_end ?_ | refine l_nil ?_
         repeat refine c_seq ?_
         refine c_region ?_
         refine l_op (o_val (r_mv) ?_)
         refine l_op (o_val (r_fa rfl fo30_3) ?_)
         refine l_op (o_val (r_ld (v := VI e186.n) H (i := 6) rfl rfl ct2 rfl) ?_)
         refine l_op (o_callR Try.func19 rfl rfl rfl (quota_m _ _ _ _ y (mst_of H (i := 5) (j := 3) (k := 4) rfl rfl rfl (by decide) (by decide) (by decide) hy.fh hy.fa hy.oh hy.oa) hy ([97] : List UInt8) e186.n (by omega)) ?_)
         rintro _ w ⟨rfl, z223, hzx224, hzo225, Hc⟩
         replace H := (met_at H (i := 5) (j := 3) (k := 4) rfl rfl rfl (by decide) (by decide) (by decide) Hc)
         clear Hc
         replace H : Hp _ w _ ([_, _, _, .obj nb7 (mobj kT z223.Mh z223.c1), .obj nb8 (mobj kS z223.Ma z223.c2), _, _]) := H
         replace hzx224 : z223.X = quotaX y.X ([97] : List UInt8) e186.n := hzx224
         have hzx224l : z223.X.G.length = y.X.G.length := by rw [hzx224]; rfl
         first | refine l_end ?_ | refine l_nil ?_
         have hA4 : Apt z220.X z223.X := by
           rw [hzx221, hzx224]
           first | exact hA2.add _ _ | exact hA2.drop hz.inv hy.inv _ | exact hA2.quota _
         repeat refine c_seq ?_
         refine c_region ?_
         refine l_op (o_val (r_mv) ?_)
         refine l_op (o_callR Try.func20 rfl rfl rfl (used_m _ _ _ _ z220 (mst_of H (i := 2) (j := 0) (k := 1) rfl rfl rfl (by decide) (by decide) (by decide) hzo222.fh hzo222.fa hzo222.oh hzo222.oa) hzo222 ([97] : List UInt8)) ?_)
         rintro _ w ⟨rfl, z226, hzx227, hzo228, Hc⟩
         replace H := (met_at H (i := 2) (j := 0) (k := 1) rfl rfl rfl (by decide) (by decide) (by decide) Hc)
         clear Hc
         replace H : Hp _ w _ ([.obj nb4 (mobj kT z226.Mh z226.c1), .obj nb5 (mobj kS z226.Ma z226.c2), _, _, _, _, _]) := H
         replace hzx227 : z226.X = z220.X := hzx227
         have hzx227l : z226.X.G.length = z220.X.G.length := by rw [hzx227]
         refine l_op (o_val (r_mv) ?_)
         refine l_op (o_callR Try.func20 rfl rfl rfl (used_m _ _ _ _ z223 (mst_of H (i := 5) (j := 3) (k := 4) rfl rfl rfl (by decide) (by decide) (by decide) hzo225.fh hzo225.fa hzo225.oh hzo225.oa) hzo225 ([97] : List UInt8)) ?_)
         rintro _ w ⟨rfl, z229, hzx230, hzo231, Hc⟩
         replace H := (met_at H (i := 5) (j := 3) (k := 4) rfl rfl rfl (by decide) (by decide) (by decide) Hc)
         clear Hc
         replace H : Hp _ w _ ([_, _, _, .obj nb7 (mobj kT z229.Mh z229.c1), .obj nb8 (mobj kS z229.Ma z229.c2), _, _]) := H
         replace hzx230 : z229.X = z223.X := hzx230
         have hzx230l : z229.X.G.length = z223.X.G.length := by rw [hzx230]
         refine l_op (o_val (r_bin (a := (z220.X.acc ([97] : List UInt8)).used) (b := (z223.X.acc ([97] : List UInt8)).used) rfl rfl (fun _ => b_neqB false (decide_eq_false (fun hne2 => hne2 (by rw [hA4.a]))))) ?_)
         first | refine l_end ?_ | refine l_nil ?_
         have hA3 : Apt z226.X z229.X := by
           rw [hzx227, hzx230]
           exact hA4
         repeat refine c_seq ?_
         refine c_no rfl ?_
         refine c_skip ?_
         repeat refine c_seq ?_
         refine c_region ?_
         refine l_op (o_val (r_mv) ?_)
         refine l_op (o_val (r_bin (a := (i : Int)) (b := 1) rfl rfl (fun _ => b_add (by omega) (by omega))) ?_)
         refine l_op (o_val (r_as) ?_)
         first | refine l_end ?_ | refine l_nil ?_
         refine round_end (i + 1, z226, z229) ?_ ?_ ?_
         · exact ⟨rfl, rfl, rfl, rfl, show VI ((i : Int) + 1) = VI ((i + 1 : Nat) : Int) from congrArg VI (by omega), trivial⟩
         · refine ⟨?_, ?_⟩
           · try dsimp only
             exact ⟨by omega, hzo228, hzo231, hA3, by omega, by omega⟩
           · exact H.sub (.cons_cons _ (.cons_cons _ (.cons_cons _ (.cons_cons _ (.cons_cons _ (.cons_cons _ (List.nil_sublist _)))))))
         · show 61 - (i + 1 : Nat) < 61 - i; omega
    ·
     refine l_yes rfl rfl (by exact congrArg Value.bool (decide_eq_false hc9)) (o_val (r_mv) ?_)
     refine l_yes rfl rfl (by exact congrArg Value.bool (decide_eq_false hc9)) (o_val (r_mv) ?_)
     refine l_yes rfl rfl (by exact congrArg Value.bool (decide_eq_false hc9)) (o_val (r_lens el22 rfl) ?_)
     refine l_yes rfl rfl (by exact congrArg Value.bool (decide_eq_false hc9)) (o_val (r_bin (a := (i : Int)) (b := (o.len : Int)) rfl rfl (fun _ => b_lss)) ?_)
     refine l_op (o_val (r_pick (b := false) (congrArg Value.bool (decide_eq_false hc9))) ?_)
     first | refine l_end ?_ | refine l_nil ?_
     by_cases hc232 : (i : Int) < (o.len : Int)
     ·
      repeat refine c_seq ?_
      refine c_yes (by exact congrArg Value.bool (decide_eq_true hc232)) ?_
      refine c_skip ?_
      repeat refine c_seq ?_
      refine c_block ?_
      repeat refine c_seq ?_
      refine c_region ?_
      refine l_op (o_val (r_mv) ?_)
      refine l_op (o_val (r_mv) ?_)
      refine l_op (o_val (r_lens el22 rfl) ?_)
      refine l_op (o_val (r_bin (a := (i : Int)) (b := (o.len : Int)) rfl rfl (fun _ => b_lss)) ?_)
      first | refine l_end ?_ | refine l_nil ?_
      repeat refine c_seq ?_
      refine c_yes (by exact congrArg Value.bool (decide_eq_true hc232)) ?_
      repeat refine c_seq ?_
      refine c_region ?_
      refine l_op (o_val (r_mv) ?_)
      refine l_op (o_val (r_mv) ?_)
      have ah235 := ((ho.up H)).addr (by decide) (by first | omega | (dsimp only; omega))
      obtain ⟨ab233, ao234, ah235⟩ := ah235
      refine l_op (o_val (r_isN i rfl rfl el22 ah235 (by omega) (by (try simp only [Sl.cut]); omega)) ?_)
      have he237 : ∃ c, o.l[i]? = some c := ⟨_, List.getElem?_eq_getElem (by have := ((ho.up H)).ln; (try dsimp only at this ⊢); omega)⟩
      obtain ⟨e236, he237⟩ := he237
      have hez238 := ((ho.up H)).sz e236 (List.mem_of_getElem? he237)
      refine l_op (o_val (r_ldRow (s := o) (k := i) (ho.up H) ah235 rfl rt30 (by decide) he237) ?_)
      refine l_op (o_alloc H zc30 (fun b239 w H hb239 => ?_))
      replace H : Hp _ w _ ([_, _, _, _, _, _, .blk b239 ([VI 0, .string ⟨(([] : List UInt8)).toArray⟩, V8 (0 : UInt8), VI 0]) 30]) := H
      refine l_op (o_stW (C' := [VI e236.kind, .string ⟨(e236.who).toArray⟩, V8 e236.k, VI e236.n]) H (i := 6) rfl rfl rfl cs30 (by simp [Value.oneCell']) (by rfl) (by rfl) (fun w H => ?_))
      replace H : Hp _ w _ ([_, _, _, _, _, _, .blk b239 ([VI e236.kind, .string ⟨(e236.who).toArray⟩, V8 e236.k, VI e236.n]) 30]) := H
      first | refine l_end ?_ | refine l_nil ?_
      have hwb := hwo _ (List.mem_of_getElem? he237)
      have hnb := hb _ (List.mem_of_getElem? he237)
      have hne : [98] ++ e236.who ≠ [97] := by simp
      repeat refine c_seq ?_
      refine c_region ?_
      refine l_op (o_val (r_fa rfl fo30_0) ?_)
      refine l_op (o_val (r_ld (v := VI e236.kind) H (i := 6) rfl rfl ct3 rfl) ?_)
      refine l_op (o_callR Try.func16 rfl rfl rfl (place_ret _ e236.kind 3 (by omega) (by omega)) ?_)
      rintro _ w' ⟨m240, rfl, hm241, hw242⟩
      rw [hw242]; clear hw242 w'
      first | refine l_end ?_ | refine l_nil ?_
      repeat refine c_seq ?_
      refine c_block ?_
      repeat refine c_seq ?_
      refine c_region ?_
      refine l_op (o_val (r_bin (a := (m240 : Int)) (b := 0) rfl rfl (fun _ => b_eql)) ?_)
      refine l_op (o_val (r_as) ?_)
      first | refine l_end ?_ | refine l_nil ?_
      by_cases hc243 : (m240 : Int) = 0
      ·
       repeat refine c_seq ?_
       refine c_yes (by exact congrArg Value.bool (decide_eq_true hc243)) ?_
       repeat refine c_seq ?_
       refine c_region ?_
       refine l_op (o_val (r_mv) ?_)
       refine l_op (o_val (r_fa rfl fo30_1) ?_)
       refine l_op (o_val (r_ld (v := .string ⟨(e236.who).toArray⟩) H (i := 6) rfl rfl ct9 rfl) ?_)
       refine l_op (o_val (r_stradd (a := ([98] : List UInt8)) (b := e236.who) rfl rfl (by (try simp only [List.length_cons, List.length_nil]); omega)) ?_)
       refine l_op (o_val (r_fa rfl fo30_2) ?_)
       refine l_op (o_val (r_ld (v := V8 e236.k) H (i := 6) rfl rfl ct5 rfl) ?_)
       refine l_op (o_val (r_bld' (cells := (((e236.k :: List.replicate 31 (0 : UInt8))).map V8).toArray) (pv := [(0, V8 e236.k)]) bd36 rfl rfl) ?_)
       refine l_op (o_val (r_fa rfl fo30_3) ?_)
       refine l_op (o_val (r_ld (v := VI e236.n) H (i := 6) rfl rfl ct2 rfl) ?_)
       refine l_op (o_callR Try.func17 rfl rfl rfl (add_m _ _ _ _ y (mst_of H (i := 5) (j := 3) (k := 4) rfl rfl rfl (by decide) (by decide) (by decide) hy.fh hy.fa hy.oh hy.oa) hy (by omega) (([98] : List UInt8) ++ e236.who) (idB e236.k).1 (idB e236.k).2 e236.n) ?_)
       rintro _ w ⟨rfl, z244, hzx245, hzo246, Hc⟩
       replace H := (met_at H (i := 5) (j := 3) (k := 4) rfl rfl rfl (by decide) (by decide) (by decide) Hc)
       clear Hc
       replace H : Hp _ w _ ([_, _, _, .obj nb7 (mobj kT z244.Mh z244.c1), .obj nb8 (mobj kS z244.Ma z244.c2), _, _]) := H
       replace hzx245 : z244.X = addX y.X (([98] : List UInt8) ++ e236.who) (idB e236.k) e236.n := hzx245
       have hzx245l := add_len y.X (([98] : List UInt8) ++ e236.who) (idB e236.k) e236.n
       rw [← hzx245] at hzx245l
       first | refine l_end ?_ | refine l_nil ?_
       have hA2 : Apt z.X z244.X := by
         rw [hzx245]
         first | exact hA.addR hne _ _ | exact hA.dropR hy.inv hne _ | exact hA.quotaR hne _
       repeat refine c_seq ?_
       refine c_region ?_
       refine l_op (o_val (r_mv) ?_)
       refine l_op (o_val (r_mv) ?_)
       refine l_op (o_val (r_lens el22 rfl) ?_)
       refine l_op (o_val (r_bin (a := (i : Int)) (b := (g.len : Int)) rfl rfl (fun _ => b_geq)) ?_)
       first | refine l_end ?_ | refine l_nil ?_
       by_cases hc247 : (g.len : Int) ≤ (i : Int)
       ·
        repeat refine c_seq ?_
        refine c_yes (by exact congrArg Value.bool (decide_eq_true hc247)) ?_
        refine c_exit ?_
        repeat refine c_seq ?_
        refine c_region ?_
        refine l_op (o_val (r_mv) ?_)
        refine l_op (o_val (r_bin (a := (i : Int)) (b := 1) rfl rfl (fun _ => b_add (by omega) (by omega))) ?_)
        refine l_op (o_val (r_as) ?_)
        first | refine l_end ?_ | refine l_nil ?_
        refine round_end (i + 1, z, z244) ?_ ?_ ?_
        · exact ⟨rfl, rfl, rfl, rfl, show VI ((i : Int) + 1) = VI ((i + 1 : Nat) : Int) from congrArg VI (by omega), trivial⟩
        · refine ⟨?_, ?_⟩
          · try dsimp only
            exact ⟨by omega, hz, hzo246, hA2, by omega, by omega⟩
          · exact H.sub (.cons_cons _ (.cons_cons _ (.cons_cons _ (.cons_cons _ (.cons_cons _ (.cons_cons _ (List.nil_sublist _)))))))
        · show 61 - (i + 1 : Nat) < 61 - i; omega
       ·
        repeat refine c_seq ?_
        refine c_no (by exact congrArg Value.bool (decide_eq_false hc247)) ?_
        refine c_skip ?_
        repeat refine c_seq ?_
        refine c_region ?_
        refine l_op (o_val (r_mv) ?_)
        refine l_op (o_val (r_mv) ?_)
        have ah250 := ((hg.up H)).addr (by decide) (by first | omega | (dsimp only; omega))
        obtain ⟨ab248, ao249, ah250⟩ := ah250
        refine l_op (o_val (r_isN i rfl rfl el22 ah250 (by omega) (by (try simp only [Sl.cut]); omega)) ?_)
        have he252 : ∃ c, g.l[i]? = some c := ⟨_, List.getElem?_eq_getElem (by have := ((hg.up H)).ln; (try dsimp only at this ⊢); omega)⟩
        obtain ⟨e251, he252⟩ := he252
        have hez253 := ((hg.up H)).sz e251 (List.mem_of_getElem? he252)
        refine l_op (o_val (r_ldRow (s := g) (k := i) (hg.up H) ah250 rfl rt30 (by decide) he252) ?_)
        refine l_op (o_alloc H zc30 (fun b254 w H hb254 => ?_))
        replace H : Hp _ w _ ([_, _, _, _, _, _, _, .blk b254 ([VI 0, .string ⟨(([] : List UInt8)).toArray⟩, V8 (0 : UInt8), VI 0]) 30]) := H
        refine l_op (o_stW (C' := [VI e251.kind, .string ⟨(e251.who).toArray⟩, V8 e251.k, VI e251.n]) H (i := 7) rfl rfl rfl cs30 (by simp [Value.oneCell']) (by rfl) (by rfl) (fun w H => ?_))
        replace H : Hp _ w _ ([_, _, _, _, _, _, _, .blk b254 ([VI e251.kind, .string ⟨(e251.who).toArray⟩, V8 e251.k, VI e251.n]) 30]) := H
        first | refine l_end ?_ | refine l_nil ?_
        have hnb2 := ha _ (List.mem_of_getElem? he252)
        repeat refine c_seq ?_
        refine c_region ?_
        refine l_op (o_val (r_fa rfl fo30_0) ?_)
        refine l_op (o_val (r_ld (v := VI e251.kind) H (i := 7) rfl rfl ct3 rfl) ?_)
        refine l_op (o_callR Try.func16 rfl rfl rfl (place_ret _ e251.kind 3 (by omega) (by omega)) ?_)
        rintro _ w' ⟨m255, rfl, hm256, hw257⟩
        rw [hw257]; clear hw257 w'
        first | refine l_end ?_ | refine l_nil ?_
        repeat refine c_seq ?_
        refine c_block ?_
        repeat refine c_seq ?_
        refine c_region ?_
        refine l_op (o_val (r_bin (a := (m255 : Int)) (b := 0) rfl rfl (fun _ => b_eql)) ?_)
        refine l_op (o_val (r_as) ?_)
        first | refine l_end ?_ | refine l_nil ?_
        by_cases hc258 : (m255 : Int) = 0
        ·
         repeat refine c_seq ?_
         refine c_yes (by exact congrArg Value.bool (decide_eq_true hc258)) ?_
         repeat refine c_seq ?_
         refine c_region ?_
         refine l_op (o_val (r_mv) ?_)
         refine l_op (o_val (r_fa rfl fo30_2) ?_)
         refine l_op (o_val (r_ld (v := V8 e251.k) H (i := 7) rfl rfl ct5 rfl) ?_)
         refine l_op (o_val (r_bld' (cells := (((e251.k :: List.replicate 31 (0 : UInt8))).map V8).toArray) (pv := [(0, V8 e251.k)]) bd36 rfl rfl) ?_)
         refine l_op (o_val (r_fa rfl fo30_3) ?_)
         refine l_op (o_val (r_ld (v := VI e251.n) H (i := 7) rfl rfl ct2 rfl) ?_)
         refine l_op (o_callR Try.func17 rfl rfl rfl (add_m _ _ _ _ z (mst_of H (i := 2) (j := 0) (k := 1) rfl rfl rfl (by decide) (by decide) (by decide) hz.fh hz.fa hz.oh hz.oa) hz (by omega) ([97] : List UInt8) (idB e251.k).1 (idB e251.k).2 e251.n) ?_)
         rintro _ w ⟨rfl, z259, hzx260, hzo261, Hc⟩
         replace H := (met_at H (i := 2) (j := 0) (k := 1) rfl rfl rfl (by decide) (by decide) (by decide) Hc)
         clear Hc
         replace H : Hp _ w _ ([.obj nb4 (mobj kT z259.Mh z259.c1), .obj nb5 (mobj kS z259.Ma z259.c2), _, _, _, _, _, _]) := H
         replace hzx260 : z259.X = addX z.X ([97] : List UInt8) (idB e251.k) e251.n := hzx260
         have hzx260l := add_len z.X ([97] : List UInt8) (idB e251.k) e251.n
         rw [← hzx260] at hzx260l
         refine l_op (o_val (r_mv) ?_)
         refine l_op (o_val (r_ext rfl rfl) ?_)
         refine l_op (o_val (r_ext rfl rfl) ?_)
         refine l_op (o_val (r_as) ?_)
         refine l_op (o_val (r_as) ?_)
         first | refine l_end ?_ | refine l_nil ?_
         repeat refine c_seq ?_
         refine c_region ?_
         refine l_op (o_val (r_mv) ?_)
         refine l_op (o_val (r_fa rfl fo30_2) ?_)
         refine l_op (o_val (r_ld (v := V8 e251.k) H (i := 7) rfl rfl ct5 rfl) ?_)
         refine l_op (o_val (r_bld' (cells := (((e251.k :: List.replicate 31 (0 : UInt8))).map V8).toArray) (pv := [(0, V8 e251.k)]) bd36 rfl rfl) ?_)
         refine l_op (o_val (r_fa rfl fo30_3) ?_)
         refine l_op (o_val (r_ld (v := VI e251.n) H (i := 7) rfl rfl ct2 rfl) ?_)
         refine l_op (o_callR Try.func17 rfl rfl rfl (add_m _ _ _ _ z244 (mst_of H (i := 5) (j := 3) (k := 4) rfl rfl rfl (by decide) (by decide) (by decide) hzo246.fh hzo246.fa hzo246.oh hzo246.oa) hzo246 (by omega) ([97] : List UInt8) (idB e251.k).1 (idB e251.k).2 e251.n) ?_)
         rintro _ w ⟨rfl, z262, hzx263, hzo264, Hc⟩
         replace H := (met_at H (i := 5) (j := 3) (k := 4) rfl rfl rfl (by decide) (by decide) (by decide) Hc)
         clear Hc
         replace H : Hp _ w _ ([_, _, _, .obj nb7 (mobj kT z262.Mh z262.c1), .obj nb8 (mobj kS z262.Ma z262.c2), _, _, _]) := H
         replace hzx263 : z262.X = addX z244.X ([97] : List UInt8) (idB e251.k) e251.n := hzx263
         have hzx263l := add_len z244.X ([97] : List UInt8) (idB e251.k) e251.n
         rw [← hzx263] at hzx263l
         refine l_op (o_val (r_mv) ?_)
         refine l_op (o_val (r_ext rfl rfl) ?_)
         refine l_op (o_val (r_ext rfl rfl) ?_)
         refine l_op (o_val (r_as) ?_)
         refine l_op (o_val (r_as) ?_)
         first | refine l_end ?_ | refine l_nil ?_
         repeat refine c_seq ?_
         refine c_region ?_
         refine l_op (o_val (r_mv) ?_)
         refine l_op (o_val (r_mv) ?_)
         refine l_op (o_val (r_bne Try.underlying4 rfl rfl) ?_)
         have hk265 : (!((addB z.X ([97] : List UInt8) (idB e251.k) e251.n) == (addB z244.X ([97] : List UInt8) (idB e251.k) e251.n))) = false := (by rw [hA2.addB]; simp)
         refine l_op (o_val (r_mv) ?_)
         refine l_yes rfl rfl (by exact congrArg Value.bool hk265) (o_val (r_mv) ?_)
         refine l_yes rfl rfl (by exact congrArg Value.bool hk265) (o_val (r_mv) ?_)
         refine l_yes rfl rfl (by exact congrArg Value.bool hk265) (o_val (r_bin (a := addE z.X ([97] : List UInt8) (idB e251.k) e251.n) (b := addE z244.X ([97] : List UInt8) (idB e251.k) e251.n) rfl rfl (fun _ => b_neqB false (decide_eq_false (fun hne2 => hne2 (hA2.addE _ _))))) ?_)
         refine l_op (o_val (r_pick (b := false) (congrArg Value.bool hk265)) ?_)
         first | refine l_end ?_ | refine l_nil ?_
         repeat refine c_seq ?_
         refine c_no rfl ?_
         refine c_skip ?_
         have hA4 : Apt z259.X z262.X := by
           rw [hzx260, hzx263]
           first | exact hA2.add _ _ | exact hA2.drop hz.inv hzo246.inv _ | exact hA2.quota _
         repeat refine c_seq ?_
         refine c_region ?_
         refine l_op (o_val (r_mv) ?_)
         refine l_op (o_callR Try.func20 rfl rfl rfl (used_m _ _ _ _ z259 (mst_of H (i := 2) (j := 0) (k := 1) rfl rfl rfl (by decide) (by decide) (by decide) hzo261.fh hzo261.fa hzo261.oh hzo261.oa) hzo261 ([97] : List UInt8)) ?_)
         rintro _ w ⟨rfl, z266, hzx267, hzo268, Hc⟩
         replace H := (met_at H (i := 2) (j := 0) (k := 1) rfl rfl rfl (by decide) (by decide) (by decide) Hc)
         clear Hc
         replace H : Hp _ w _ ([.obj nb4 (mobj kT z266.Mh z266.c1), .obj nb5 (mobj kS z266.Ma z266.c2), _, _, _, _, _, _]) := H
         replace hzx267 : z266.X = z259.X := hzx267
         have hzx267l : z266.X.G.length = z259.X.G.length := by rw [hzx267]
         refine l_op (o_val (r_mv) ?_)
         refine l_op (o_callR Try.func20 rfl rfl rfl (used_m _ _ _ _ z262 (mst_of H (i := 5) (j := 3) (k := 4) rfl rfl rfl (by decide) (by decide) (by decide) hzo264.fh hzo264.fa hzo264.oh hzo264.oa) hzo264 ([97] : List UInt8)) ?_)
         rintro _ w ⟨rfl, z269, hzx270, hzo271, Hc⟩
         replace H := (met_at H (i := 5) (j := 3) (k := 4) rfl rfl rfl (by decide) (by decide) (by decide) Hc)
         clear Hc
         replace H : Hp _ w _ ([_, _, _, .obj nb7 (mobj kT z269.Mh z269.c1), .obj nb8 (mobj kS z269.Ma z269.c2), _, _, _]) := H
         replace hzx270 : z269.X = z262.X := hzx270
         have hzx270l : z269.X.G.length = z262.X.G.length := by rw [hzx270]
         refine l_op (o_val (r_bin (a := (z259.X.acc ([97] : List UInt8)).used) (b := (z262.X.acc ([97] : List UInt8)).used) rfl rfl (fun _ => b_neqB false (decide_eq_false (fun hne2 => hne2 (by rw [hA4.a]))))) ?_)
         first | refine l_end ?_ | refine l_nil ?_
         have hA3 : Apt z266.X z269.X := by
           rw [hzx267, hzx270]
           exact hA4
         repeat refine c_seq ?_
         refine c_no rfl ?_
         refine c_skip ?_
         repeat refine c_seq ?_
         refine c_region ?_
         refine l_op (o_val (r_mv) ?_)
         refine l_op (o_val (r_bin (a := (i : Int)) (b := 1) rfl rfl (fun _ => b_add (by omega) (by omega))) ?_)
         refine l_op (o_val (r_as) ?_)
         first | refine l_end ?_ | refine l_nil ?_
         refine round_end (i + 1, z266, z269) ?_ ?_ ?_
         · exact ⟨rfl, rfl, rfl, rfl, show VI ((i : Int) + 1) = VI ((i + 1 : Nat) : Int) from congrArg VI (by omega), trivial⟩
         · refine ⟨?_, ?_⟩
           · try dsimp only
             exact ⟨by omega, hzo268, hzo271, hA3, by omega, by omega⟩
           · exact H.sub (.cons_cons _ (.cons_cons _ (.cons_cons _ (.cons_cons _ (.cons_cons _ (.cons_cons _ (List.nil_sublist _)))))))
         · show 61 - (i + 1 : Nat) < 61 - i; omega
        ·
         repeat refine c_seq ?_
         refine c_no (by exact congrArg Value.bool (decide_eq_false hc258)) ?_
         repeat refine c_seq ?_
         refine c_region ?_
         refine l_op (o_val (r_bin (a := (m255 : Int)) (b := 1) rfl rfl (fun _ => b_eql)) ?_)
         refine l_op (o_val (r_as) ?_)
         first | refine l_end ?_ | refine l_nil ?_
         by_cases hc272 : (m255 : Int) = 1
         ·
          repeat refine c_seq ?_
          refine c_yes (by exact congrArg Value.bool (decide_eq_true hc272)) ?_
          repeat refine c_seq ?_
          refine wp_held (fun w => Hp w0 w [] [.blk nb3 ([.map (some nb4), .map (some nb5)]) 54, .blk nb6 ([.map (some nb7), .map (some nb8)]) 54, .blk b239 ([VI e236.kind, .string ⟨(e236.who).toArray⟩, V8 e236.k, VI e236.n]) 30, .blk b254 ([VI e251.kind, .string ⟨(e251.who).toArray⟩, V8 e251.k, VI e251.n]) 30]) mixed ?_
          replace H := H.drew
          have HS := H.sub (.cons _ (.cons _ (.cons_cons _ (.cons _ (.cons _ (.cons_cons _ (.cons_cons _ (.cons_cons _ (List.nil_sublist _)))))))))
          refine t_take 0 rfl (by kernel_rfl) (by kernel_rfl) (by kernel_rfl) (fun _ _ _ h => h) (fun w HS => r_mv) HS ?_
          refine t_take 1 rfl (by kernel_rfl) (by kernel_rfl) (by kernel_rfl) (fun _ _ _ h => h) (fun w HS => r_fa rfl fo30_2) HS ?_
          refine t_take 2 rfl (by kernel_rfl) (by kernel_rfl) (by kernel_rfl) (fun _ _ _ h => h) (fun w HS => r_ld (v := V8 e251.k) HS (i := 3) rfl rfl ct5 rfl) HS ?_
          refine t_take 3 rfl (by kernel_rfl) (by kernel_rfl) (by kernel_rfl) (fun _ _ _ h => h) (fun w HS => r_bld' (cells := (((e251.k :: List.replicate 31 (0 : UInt8))).map V8).toArray) (pv := [(0, V8 e251.k)]) bd36 rfl rfl) HS ?_
          refine t_take 5 rfl (by kernel_rfl) (by kernel_rfl) (by kernel_rfl) (fun _ _ _ h => h) (fun w HS => r_mv) HS ?_
          refine t_take 6 rfl (by kernel_rfl) (by kernel_rfl) (by kernel_rfl) (fun _ _ _ h => h) (fun w HS => r_fa rfl fo30_2) HS ?_
          refine t_take 7 rfl (by kernel_rfl) (by kernel_rfl) (by kernel_rfl) (fun _ _ _ h => h) (fun w HS => r_ld (v := V8 e251.k) HS (i := 3) rfl rfl ct5 rfl) HS ?_
          refine t_take 8 rfl (by kernel_rfl) (by kernel_rfl) (by kernel_rfl) (fun _ _ _ h => h) (fun w HS => r_bld' (cells := (((e251.k :: List.replicate 31 (0 : UInt8))).map V8).toArray) (pv := [(0, V8 e251.k)]) bd36 rfl rfl) HS ?_
          refine t_step 4 rfl (by kernel_rfl) (o_callR Try.func18 rfl rfl rfl (drop_m _ _ _ _ z (mst_of H (i := 2) (j := 0) (k := 1) rfl rfl rfl (by decide) (by decide) (by decide) hz.fh hz.fa hz.oh hz.oa) hz (by omega) ([97] : List UInt8) (idB e251.k).1 (idB e251.k).2) ?_)
          rintro _ w ⟨rfl, z273, hzx274, hzo275, Hc⟩
          replace H := (met_at H (i := 2) (j := 0) (k := 1) rfl rfl rfl (by decide) (by decide) (by decide) Hc)
          clear Hc
          replace H : Hp _ w _ ([.obj nb4 (mobj kT z273.Mh z273.c1), .obj nb5 (mobj kS z273.Ma z273.c2), _, _, _, _, _, _]) := H
          replace hzx274 : z273.X = dropX z.X ([97] : List UInt8) (idB e251.k) := hzx274
          have hzx274l := drop_len z.X ([97] : List UInt8) (idB e251.k)
          rw [← hzx274] at hzx274l
          refine ⟨H.sub (.cons _ (.cons _ (.cons_cons _ (.cons _ (.cons _ (.cons_cons _ (.cons_cons _ (.cons_cons _ (List.nil_sublist _))))))))), ?_⟩
          replace HS := H.sub (.cons _ (.cons _ (.cons_cons _ (.cons _ (.cons _ (.cons_cons _ (.cons_cons _ (.cons_cons _ (List.nil_sublist _)))))))))
          refine t_step 9 rfl (by kernel_rfl) (o_callR Try.func18 rfl rfl rfl (drop_m _ _ _ _ z244 (mst_of H (i := 5) (j := 3) (k := 4) rfl rfl rfl (by decide) (by decide) (by decide) hzo246.fh hzo246.fa hzo246.oh hzo246.oa) hzo246 (by omega) ([97] : List UInt8) (idB e251.k).1 (idB e251.k).2) ?_)
          rintro _ w ⟨rfl, z276, hzx277, hzo278, Hc⟩
          replace H := (met_at H (i := 5) (j := 3) (k := 4) rfl rfl rfl (by decide) (by decide) (by decide) Hc)
          clear Hc
          replace H : Hp _ w _ ([_, _, _, .obj nb7 (mobj kT z276.Mh z276.c1), .obj nb8 (mobj kS z276.Ma z276.c2), _, _, _]) := H
          replace hzx277 : z276.X = dropX z244.X ([97] : List UInt8) (idB e251.k) := hzx277
          have hzx277l := drop_len z244.X ([97] : List UInt8) (idB e251.k)
          rw [← hzx277] at hzx277l
          refine ⟨H.sub (.cons _ (.cons _ (.cons_cons _ (.cons _ (.cons _ (.cons_cons _ (.cons_cons _ (.cons_cons _ (List.nil_sublist _))))))))), ?_⟩
          replace HS := H.sub (.cons _ (.cons _ (.cons_cons _ (.cons _ (.cons _ (.cons_cons _ (.cons_cons _ (.cons_cons _ (List.nil_sublist _)))))))))
          refine t_take 10 rfl (by kernel_rfl) (by kernel_rfl) (by kernel_rfl) (fun _ _ _ h => h) (fun w HS => r_bin (a := dropE z.X ([97] : List UInt8) (idB e251.k)) (b := dropE z244.X ([97] : List UInt8) (idB e251.k)) rfl rfl (fun _ => b_neqB false (decide_eq_false (fun hne2 => hne2 (hA2.dropE _))))) HS ?_
          refine t_done (by kernel_rfl) ?_
          clear HS
          repeat refine c_seq ?_
          refine c_no rfl ?_
          refine c_skip ?_
          have hA4 : Apt z273.X z276.X := by
            rw [hzx274, hzx277]
            first | exact hA2.add _ _ | exact hA2.drop hz.inv hzo246.inv _ | exact hA2.quota _
          repeat refine c_seq ?_
          refine c_region ?_
          refine l_op (o_val (r_mv) ?_)
          refine l_op (o_callR Try.func20 rfl rfl rfl (used_m _ _ _ _ z273 (mst_of H (i := 2) (j := 0) (k := 1) rfl rfl rfl (by decide) (by decide) (by decide) hzo275.fh hzo275.fa hzo275.oh hzo275.oa) hzo275 ([97] : List UInt8)) ?_)
          rintro _ w ⟨rfl, z279, hzx280, hzo281, Hc⟩
          replace H := (met_at H (i := 2) (j := 0) (k := 1) rfl rfl rfl (by decide) (by decide) (by decide) Hc)
          clear Hc
          replace H : Hp _ w _ ([.obj nb4 (mobj kT z279.Mh z279.c1), .obj nb5 (mobj kS z279.Ma z279.c2), _, _, _, _, _, _]) := H
          replace hzx280 : z279.X = z273.X := hzx280
          have hzx280l : z279.X.G.length = z273.X.G.length := by rw [hzx280]
          refine l_op (o_val (r_mv) ?_)
          refine l_op (o_callR Try.func20 rfl rfl rfl (used_m _ _ _ _ z276 (mst_of H (i := 5) (j := 3) (k := 4) rfl rfl rfl (by decide) (by decide) (by decide) hzo278.fh hzo278.fa hzo278.oh hzo278.oa) hzo278 ([97] : List UInt8)) ?_)
          rintro _ w ⟨rfl, z282, hzx283, hzo284, Hc⟩
          replace H := (met_at H (i := 5) (j := 3) (k := 4) rfl rfl rfl (by decide) (by decide) (by decide) Hc)
          clear Hc
          replace H : Hp _ w _ ([_, _, _, .obj nb7 (mobj kT z282.Mh z282.c1), .obj nb8 (mobj kS z282.Ma z282.c2), _, _, _]) := H
          replace hzx283 : z282.X = z276.X := hzx283
          have hzx283l : z282.X.G.length = z276.X.G.length := by rw [hzx283]
          refine l_op (o_val (r_bin (a := (z273.X.acc ([97] : List UInt8)).used) (b := (z276.X.acc ([97] : List UInt8)).used) rfl rfl (fun _ => b_neqB false (decide_eq_false (fun hne2 => hne2 (by rw [hA4.a]))))) ?_)
          first | refine l_end ?_ | refine l_nil ?_
          have hA3 : Apt z279.X z282.X := by
            rw [hzx280, hzx283]
            exact hA4
          repeat refine c_seq ?_
          refine c_no rfl ?_
          refine c_skip ?_
          repeat refine c_seq ?_
          refine c_region ?_
          refine l_op (o_val (r_mv) ?_)
          refine l_op (o_val (r_bin (a := (i : Int)) (b := 1) rfl rfl (fun _ => b_add (by omega) (by omega))) ?_)
          refine l_op (o_val (r_as) ?_)
          first | refine l_end ?_ | refine l_nil ?_
          refine round_end (i + 1, z279, z282) ?_ ?_ ?_
          · exact ⟨rfl, rfl, rfl, rfl, show VI ((i : Int) + 1) = VI ((i + 1 : Nat) : Int) from congrArg VI (by omega), trivial⟩
          · refine ⟨?_, ?_⟩
            · try dsimp only
              exact ⟨by omega, hzo281, hzo284, hA3, by omega, by omega⟩
            · exact H.sub (.cons_cons _ (.cons_cons _ (.cons_cons _ (.cons_cons _ (.cons_cons _ (.cons_cons _ (List.nil_sublist _)))))))
          · show 61 - (i + 1 : Nat) < 61 - i; omega
         ·
          repeat refine c_seq ?_
          refine c_no (by exact congrArg Value.bool (decide_eq_false hc272)) ?_
          repeat refine c_seq ?_
          refine c_region ?_
          refine l_op (o_val (r_mv) ?_)
          refine l_op (o_val (r_fa rfl fo30_3) ?_)
          refine l_op (o_val (r_ld (v := VI e251.n) H (i := 7) rfl rfl ct2 rfl) ?_)
          refine l_op (o_callR Try.func19 rfl rfl rfl (quota_m _ _ _ _ z (mst_of H (i := 2) (j := 0) (k := 1) rfl rfl rfl (by decide) (by decide) (by decide) hz.fh hz.fa hz.oh hz.oa) hz ([97] : List UInt8) e251.n (by omega)) ?_)
          rintro _ w ⟨rfl, z285, hzx286, hzo287, Hc⟩
          replace H := (met_at H (i := 2) (j := 0) (k := 1) rfl rfl rfl (by decide) (by decide) (by decide) Hc)
          clear Hc
          replace H : Hp _ w _ ([.obj nb4 (mobj kT z285.Mh z285.c1), .obj nb5 (mobj kS z285.Ma z285.c2), _, _, _, _, _, _]) := H
          replace hzx286 : z285.X = quotaX z.X ([97] : List UInt8) e251.n := hzx286
          have hzx286l : z285.X.G.length = z.X.G.length := by rw [hzx286]; rfl
          first | refine l_end ?_ | refine l_nil ?_
          repeat refine c_seq ?_
          refine c_region ?_
          refine l_op (o_val (r_mv) ?_)
          refine l_op (o_val (r_fa rfl fo30_3) ?_)
          refine l_op (o_val (r_ld (v := VI e251.n) H (i := 7) rfl rfl ct2 rfl) ?_)
          refine l_op (o_callR Try.func19 rfl rfl rfl (quota_m _ _ _ _ z244 (mst_of H (i := 5) (j := 3) (k := 4) rfl rfl rfl (by decide) (by decide) (by decide) hzo246.fh hzo246.fa hzo246.oh hzo246.oa) hzo246 ([97] : List UInt8) e251.n (by omega)) ?_)
          rintro _ w ⟨rfl, z288, hzx289, hzo290, Hc⟩
          replace H := (met_at H (i := 5) (j := 3) (k := 4) rfl rfl rfl (by decide) (by decide) (by decide) Hc)
          clear Hc
          replace H : Hp _ w _ ([_, _, _, .obj nb7 (mobj kT z288.Mh z288.c1), .obj nb8 (mobj kS z288.Ma z288.c2), _, _, _]) := H
          replace hzx289 : z288.X = quotaX z244.X ([97] : List UInt8) e251.n := hzx289
          have hzx289l : z288.X.G.length = z244.X.G.length := by rw [hzx289]; rfl
          first | refine l_end ?_ | refine l_nil ?_
          have hA4 : Apt z285.X z288.X := by
            rw [hzx286, hzx289]
            first | exact hA2.add _ _ | exact hA2.drop hz.inv hzo246.inv _ | exact hA2.quota _
          repeat refine c_seq ?_
          refine c_region ?_
          refine l_op (o_val (r_mv) ?_)
          refine l_op (o_callR Try.func20 rfl rfl rfl (used_m _ _ _ _ z285 (mst_of H (i := 2) (j := 0) (k := 1) rfl rfl rfl (by decide) (by decide) (by decide) hzo287.fh hzo287.fa hzo287.oh hzo287.oa) hzo287 ([97] : List UInt8)) ?_)
          rintro _ w ⟨rfl, z291, hzx292, hzo293, Hc⟩
          replace H := (met_at H (i := 2) (j := 0) (k := 1) rfl rfl rfl (by decide) (by decide) (by decide) Hc)
          clear Hc
          replace H : Hp _ w _ ([.obj nb4 (mobj kT z291.Mh z291.c1), .obj nb5 (mobj kS z291.Ma z291.c2), _, _, _, _, _, _]) := H
          replace hzx292 : z291.X = z285.X := hzx292
          have hzx292l : z291.X.G.length = z285.X.G.length := by rw [hzx292]
          refine l_op (o_val (r_mv) ?_)
          refine l_op (o_callR Try.func20 rfl rfl rfl (used_m _ _ _ _ z288 (mst_of H (i := 5) (j := 3) (k := 4) rfl rfl rfl (by decide) (by decide) (by decide) hzo290.fh hzo290.fa hzo290.oh hzo290.oa) hzo290 ([97] : List UInt8)) ?_)
          rintro _ w ⟨rfl, z294, hzx295, hzo296, Hc⟩
          replace H := (met_at H (i := 5) (j := 3) (k := 4) rfl rfl rfl (by decide) (by decide) (by decide) Hc)
          clear Hc
          replace H : Hp _ w _ ([_, _, _, .obj nb7 (mobj kT z294.Mh z294.c1), .obj nb8 (mobj kS z294.Ma z294.c2), _, _, _]) := H
          replace hzx295 : z294.X = z288.X := hzx295
          have hzx295l : z294.X.G.length = z288.X.G.length := by rw [hzx295]
          refine l_op (o_val (r_bin (a := (z285.X.acc ([97] : List UInt8)).used) (b := (z288.X.acc ([97] : List UInt8)).used) rfl rfl (fun _ => b_neqB false (decide_eq_false (fun hne2 => hne2 (by rw [hA4.a]))))) ?_)
          first | refine l_end ?_ | refine l_nil ?_
          have hA3 : Apt z291.X z294.X := by
            rw [hzx292, hzx295]
            exact hA4
          repeat refine c_seq ?_
          refine c_no rfl ?_
          refine c_skip ?_
          repeat refine c_seq ?_
          refine c_region ?_
          refine l_op (o_val (r_mv) ?_)
          refine l_op (o_val (r_bin (a := (i : Int)) (b := 1) rfl rfl (fun _ => b_add (by omega) (by omega))) ?_)
          refine l_op (o_val (r_as) ?_)
          first | refine l_end ?_ | refine l_nil ?_
          refine round_end (i + 1, z291, z294) ?_ ?_ ?_
          · exact ⟨rfl, rfl, rfl, rfl, show VI ((i : Int) + 1) = VI ((i + 1 : Nat) : Int) from congrArg VI (by omega), trivial⟩
          · refine ⟨?_, ?_⟩
            · try dsimp only
              exact ⟨by omega, hzo293, hzo296, hA3, by omega, by omega⟩
            · exact H.sub (.cons_cons _ (.cons_cons _ (.cons_cons _ (.cons_cons _ (.cons_cons _ (.cons_cons _ (List.nil_sublist _)))))))
          · show 61 - (i + 1 : Nat) < 61 - i; omega
      ·
       repeat refine c_seq ?_
       refine c_no (by exact congrArg Value.bool (decide_eq_false hc243)) ?_
       repeat refine c_seq ?_
       refine c_region ?_
       refine l_op (o_val (r_bin (a := (m240 : Int)) (b := 1) rfl rfl (fun _ => b_eql)) ?_)
       refine l_op (o_val (r_as) ?_)
       first | refine l_end ?_ | refine l_nil ?_
       by_cases hc297 : (m240 : Int) = 1
       ·
        repeat refine c_seq ?_
        refine c_yes (by exact congrArg Value.bool (decide_eq_true hc297)) ?_
        repeat refine c_seq ?_
        refine c_region ?_
        refine l_op (o_val (r_mv) ?_)
        refine l_op (o_val (r_fa rfl fo30_1) ?_)
        refine l_op (o_val (r_ld (v := .string ⟨(e236.who).toArray⟩) H (i := 6) rfl rfl ct9 rfl) ?_)
        refine l_op (o_val (r_stradd (a := ([98] : List UInt8)) (b := e236.who) rfl rfl (by (try simp only [List.length_cons, List.length_nil]); omega)) ?_)
        refine l_op (o_val (r_fa rfl fo30_2) ?_)
        refine l_op (o_val (r_ld (v := V8 e236.k) H (i := 6) rfl rfl ct5 rfl) ?_)
        refine l_op (o_val (r_bld' (cells := (((e236.k :: List.replicate 31 (0 : UInt8))).map V8).toArray) (pv := [(0, V8 e236.k)]) bd36 rfl rfl) ?_)
        refine l_op (o_callR Try.func18 rfl rfl rfl (drop_m _ _ _ _ y (mst_of H (i := 5) (j := 3) (k := 4) rfl rfl rfl (by decide) (by decide) (by decide) hy.fh hy.fa hy.oh hy.oa) hy (by omega) (([98] : List UInt8) ++ e236.who) (idB e236.k).1 (idB e236.k).2) ?_)
        rintro _ w ⟨rfl, z298, hzx299, hzo300, Hc⟩
        replace H := (met_at H (i := 5) (j := 3) (k := 4) rfl rfl rfl (by decide) (by decide) (by decide) Hc)
        clear Hc
        replace H : Hp _ w _ ([_, _, _, .obj nb7 (mobj kT z298.Mh z298.c1), .obj nb8 (mobj kS z298.Ma z298.c2), _, _]) := H
        replace hzx299 : z298.X = dropX y.X (([98] : List UInt8) ++ e236.who) (idB e236.k) := hzx299
        have hzx299l := drop_len y.X (([98] : List UInt8) ++ e236.who) (idB e236.k)
        rw [← hzx299] at hzx299l
        first | refine l_end ?_ | refine l_nil ?_
        have hA2 : Apt z.X z298.X := by
          rw [hzx299]
          first | exact hA.addR hne _ _ | exact hA.dropR hy.inv hne _ | exact hA.quotaR hne _
        repeat refine c_seq ?_
        refine c_region ?_
        refine l_op (o_val (r_mv) ?_)
        refine l_op (o_val (r_mv) ?_)
        refine l_op (o_val (r_lens el22 rfl) ?_)
        refine l_op (o_val (r_bin (a := (i : Int)) (b := (g.len : Int)) rfl rfl (fun _ => b_geq)) ?_)
        first | refine l_end ?_ | refine l_nil ?_
        by_cases hc301 : (g.len : Int) ≤ (i : Int)
        ·
         repeat refine c_seq ?_
         refine c_yes (by exact congrArg Value.bool (decide_eq_true hc301)) ?_
         refine c_exit ?_
         repeat refine c_seq ?_
         refine c_region ?_
         refine l_op (o_val (r_mv) ?_)
         refine l_op (o_val (r_bin (a := (i : Int)) (b := 1) rfl rfl (fun _ => b_add (by omega) (by omega))) ?_)
         refine l_op (o_val (r_as) ?_)
         first | refine l_end ?_ | refine l_nil ?_
         refine round_end (i + 1, z, z298) ?_ ?_ ?_
         · exact ⟨rfl, rfl, rfl, rfl, show VI ((i : Int) + 1) = VI ((i + 1 : Nat) : Int) from congrArg VI (by omega), trivial⟩
         · refine ⟨?_, ?_⟩
           · try dsimp only
             exact ⟨by omega, hz, hzo300, hA2, by omega, by omega⟩
           · exact H.sub (.cons_cons _ (.cons_cons _ (.cons_cons _ (.cons_cons _ (.cons_cons _ (.cons_cons _ (List.nil_sublist _)))))))
         · show 61 - (i + 1 : Nat) < 61 - i; omega
        ·
         repeat refine c_seq ?_
         refine c_no (by exact congrArg Value.bool (decide_eq_false hc301)) ?_
         refine c_skip ?_
         repeat refine c_seq ?_
         refine c_region ?_
         refine l_op (o_val (r_mv) ?_)
         refine l_op (o_val (r_mv) ?_)
         have ah304 := ((hg.up H)).addr (by decide) (by first | omega | (dsimp only; omega))
         obtain ⟨ab302, ao303, ah304⟩ := ah304
         refine l_op (o_val (r_isN i rfl rfl el22 ah304 (by omega) (by (try simp only [Sl.cut]); omega)) ?_)
         have he306 : ∃ c, g.l[i]? = some c := ⟨_, List.getElem?_eq_getElem (by have := ((hg.up H)).ln; (try dsimp only at this ⊢); omega)⟩
         obtain ⟨e305, he306⟩ := he306
         have hez307 := ((hg.up H)).sz e305 (List.mem_of_getElem? he306)
         refine l_op (o_val (r_ldRow (s := g) (k := i) (hg.up H) ah304 rfl rt30 (by decide) he306) ?_)
         refine l_op (o_alloc H zc30 (fun b308 w H hb308 => ?_))
         replace H : Hp _ w _ ([_, _, _, _, _, _, _, .blk b308 ([VI 0, .string ⟨(([] : List UInt8)).toArray⟩, V8 (0 : UInt8), VI 0]) 30]) := H
         refine l_op (o_stW (C' := [VI e305.kind, .string ⟨(e305.who).toArray⟩, V8 e305.k, VI e305.n]) H (i := 7) rfl rfl rfl cs30 (by simp [Value.oneCell']) (by rfl) (by rfl) (fun w H => ?_))
         replace H : Hp _ w _ ([_, _, _, _, _, _, _, .blk b308 ([VI e305.kind, .string ⟨(e305.who).toArray⟩, V8 e305.k, VI e305.n]) 30]) := H
         first | refine l_end ?_ | refine l_nil ?_
         have hnb2 := ha _ (List.mem_of_getElem? he306)
         repeat refine c_seq ?_
         refine c_region ?_
         refine l_op (o_val (r_fa rfl fo30_0) ?_)
         refine l_op (o_val (r_ld (v := VI e305.kind) H (i := 7) rfl rfl ct3 rfl) ?_)
         refine l_op (o_callR Try.func16 rfl rfl rfl (place_ret _ e305.kind 3 (by omega) (by omega)) ?_)
         rintro _ w' ⟨m309, rfl, hm310, hw311⟩
         rw [hw311]; clear hw311 w'
         first | refine l_end ?_ | refine l_nil ?_
         repeat refine c_seq ?_
         refine c_block ?_
         repeat refine c_seq ?_
         refine c_region ?_
         refine l_op (o_val (r_bin (a := (m309 : Int)) (b := 0) rfl rfl (fun _ => b_eql)) ?_)
         refine l_op (o_val (r_as) ?_)
         first | refine l_end ?_ | refine l_nil ?_
         by_cases hc312 : (m309 : Int) = 0
         ·
          repeat refine c_seq ?_
          refine c_yes (by exact congrArg Value.bool (decide_eq_true hc312)) ?_
          repeat refine c_seq ?_
          refine c_region ?_
          refine l_op (o_val (r_mv) ?_)
          refine l_op (o_val (r_fa rfl fo30_2) ?_)
          refine l_op (o_val (r_ld (v := V8 e305.k) H (i := 7) rfl rfl ct5 rfl) ?_)
          refine l_op (o_val (r_bld' (cells := (((e305.k :: List.replicate 31 (0 : UInt8))).map V8).toArray) (pv := [(0, V8 e305.k)]) bd36 rfl rfl) ?_)
          refine l_op (o_val (r_fa rfl fo30_3) ?_)
          refine l_op (o_val (r_ld (v := VI e305.n) H (i := 7) rfl rfl ct2 rfl) ?_)
          refine l_op (o_callR Try.func17 rfl rfl rfl (add_m _ _ _ _ z (mst_of H (i := 2) (j := 0) (k := 1) rfl rfl rfl (by decide) (by decide) (by decide) hz.fh hz.fa hz.oh hz.oa) hz (by omega) ([97] : List UInt8) (idB e305.k).1 (idB e305.k).2 e305.n) ?_)
          rintro _ w ⟨rfl, z313, hzx314, hzo315, Hc⟩
          replace H := (met_at H (i := 2) (j := 0) (k := 1) rfl rfl rfl (by decide) (by decide) (by decide) Hc)
          clear Hc
          replace H : Hp _ w _ ([.obj nb4 (mobj kT z313.Mh z313.c1), .obj nb5 (mobj kS z313.Ma z313.c2), _, _, _, _, _, _]) := H
          replace hzx314 : z313.X = addX z.X ([97] : List UInt8) (idB e305.k) e305.n := hzx314
          have hzx314l := add_len z.X ([97] : List UInt8) (idB e305.k) e305.n
          rw [← hzx314] at hzx314l
          refine l_op (o_val (r_mv) ?_)
          refine l_op (o_val (r_ext rfl rfl) ?_)
          refine l_op (o_val (r_ext rfl rfl) ?_)
          refine l_op (o_val (r_as) ?_)
          refine l_op (o_val (r_as) ?_)
          first | refine l_end ?_ | refine l_nil ?_
          repeat refine c_seq ?_
          refine c_region ?_
          refine l_op (o_val (r_mv) ?_)
          refine l_op (o_val (r_fa rfl fo30_2) ?_)
          refine l_op (o_val (r_ld (v := V8 e305.k) H (i := 7) rfl rfl ct5 rfl) ?_)
          refine l_op (o_val (r_bld' (cells := (((e305.k :: List.replicate 31 (0 : UInt8))).map V8).toArray) (pv := [(0, V8 e305.k)]) bd36 rfl rfl) ?_)
          refine l_op (o_val (r_fa rfl fo30_3) ?_)
          refine l_op (o_val (r_ld (v := VI e305.n) H (i := 7) rfl rfl ct2 rfl) ?_)
          refine l_op (o_callR Try.func17 rfl rfl rfl (add_m _ _ _ _ z298 (mst_of H (i := 5) (j := 3) (k := 4) rfl rfl rfl (by decide) (by decide) (by decide) hzo300.fh hzo300.fa hzo300.oh hzo300.oa) hzo300 (by omega) ([97] : List UInt8) (idB e305.k).1 (idB e305.k).2 e305.n) ?_)
          rintro _ w ⟨rfl, z316, hzx317, hzo318, Hc⟩
          replace H := (met_at H (i := 5) (j := 3) (k := 4) rfl rfl rfl (by decide) (by decide) (by decide) Hc)
          clear Hc
          replace H : Hp _ w _ ([_, _, _, .obj nb7 (mobj kT z316.Mh z316.c1), .obj nb8 (mobj kS z316.Ma z316.c2), _, _, _]) := H
          replace hzx317 : z316.X = addX z298.X ([97] : List UInt8) (idB e305.k) e305.n := hzx317
          have hzx317l := add_len z298.X ([97] : List UInt8) (idB e305.k) e305.n
          rw [← hzx317] at hzx317l
          refine l_op (o_val (r_mv) ?_)
          refine l_op (o_val (r_ext rfl rfl) ?_)
          refine l_op (o_val (r_ext rfl rfl) ?_)
          refine l_op (o_val (r_as) ?_)
          refine l_op (o_val (r_as) ?_)
          first | refine l_end ?_ | refine l_nil ?_
          repeat refine c_seq ?_
          refine c_region ?_
          refine l_op (o_val (r_mv) ?_)
          refine l_op (o_val (r_mv) ?_)
          refine l_op (o_val (r_bne Try.underlying4 rfl rfl) ?_)
          have hk319 : (!((addB z.X ([97] : List UInt8) (idB e305.k) e305.n) == (addB z298.X ([97] : List UInt8) (idB e305.k) e305.n))) = false := (by rw [hA2.addB]; simp)
          refine l_op (o_val (r_mv) ?_)
          refine l_yes rfl rfl (by exact congrArg Value.bool hk319) (o_val (r_mv) ?_)
          refine l_yes rfl rfl (by exact congrArg Value.bool hk319) (o_val (r_mv) ?_)
          refine l_yes rfl rfl (by exact congrArg Value.bool hk319) (o_val (r_bin (a := addE z.X ([97] : List UInt8) (idB e305.k) e305.n) (b := addE z298.X ([97] : List UInt8) (idB e305.k) e305.n) rfl rfl (fun _ => b_neqB false (decide_eq_false (fun hne2 => hne2 (hA2.addE _ _))))) ?_)
          refine l_op (o_val (r_pick (b := false) (congrArg Value.bool hk319)) ?_)
          first | refine l_end ?_ | refine l_nil ?_
          repeat refine c_seq ?_
          refine c_no rfl ?_
          refine c_skip ?_
          have hA4 : Apt z313.X z316.X := by
            rw [hzx314, hzx317]
            first | exact hA2.add _ _ | exact hA2.drop hz.inv hzo300.inv _ | exact hA2.quota _
          repeat refine c_seq ?_
          refine c_region ?_
          refine l_op (o_val (r_mv) ?_)
          refine l_op (o_callR Try.func20 rfl rfl rfl (used_m _ _ _ _ z313 (mst_of H (i := 2) (j := 0) (k := 1) rfl rfl rfl (by decide) (by decide) (by decide) hzo315.fh hzo315.fa hzo315.oh hzo315.oa) hzo315 ([97] : List UInt8)) ?_)
          rintro _ w ⟨rfl, z320, hzx321, hzo322, Hc⟩
          replace H := (met_at H (i := 2) (j := 0) (k := 1) rfl rfl rfl (by decide) (by decide) (by decide) Hc)
          clear Hc
          replace H : Hp _ w _ ([.obj nb4 (mobj kT z320.Mh z320.c1), .obj nb5 (mobj kS z320.Ma z320.c2), _, _, _, _, _, _]) := H
          replace hzx321 : z320.X = z313.X := hzx321
          have hzx321l : z320.X.G.length = z313.X.G.length := by rw [hzx321]
          refine l_op (o_val (r_mv) ?_)
          refine l_op (o_callR Try.func20 rfl rfl rfl (used_m _ _ _ _ z316 (mst_of H (i := 5) (j := 3) (k := 4) rfl rfl rfl (by decide) (by decide) (by decide) hzo318.fh hzo318.fa hzo318.oh hzo318.oa) hzo318 ([97] : List UInt8)) ?_)
          rintro _ w ⟨rfl, z323, hzx324, hzo325, Hc⟩
          replace H := (met_at H (i := 5) (j := 3) (k := 4) rfl rfl rfl (by decide) (by decide) (by decide) Hc)
          clear Hc
          replace H : Hp _ w _ ([_, _, _, .obj nb7 (mobj kT z323.Mh z323.c1), .obj nb8 (mobj kS z323.Ma z323.c2), _, _, _]) := H
          replace hzx324 : z323.X = z316.X := hzx324
          have hzx324l : z323.X.G.length = z316.X.G.length := by rw [hzx324]
          refine l_op (o_val (r_bin (a := (z313.X.acc ([97] : List UInt8)).used) (b := (z316.X.acc ([97] : List UInt8)).used) rfl rfl (fun _ => b_neqB false (decide_eq_false (fun hne2 => hne2 (by rw [hA4.a]))))) ?_)
          first | refine l_end ?_ | refine l_nil ?_
          have hA3 : Apt z320.X z323.X := by
            rw [hzx321, hzx324]
            exact hA4
          repeat refine c_seq ?_
          refine c_no rfl ?_
          refine c_skip ?_
          repeat refine c_seq ?_
          refine c_region ?_
          refine l_op (o_val (r_mv) ?_)
          refine l_op (o_val (r_bin (a := (i : Int)) (b := 1) rfl rfl (fun _ => b_add (by omega) (by omega))) ?_)
          refine l_op (o_val (r_as) ?_)
          first | refine l_end ?_ | refine l_nil ?_
          refine round_end (i + 1, z320, z323) ?_ ?_ ?_
          · exact ⟨rfl, rfl, rfl, rfl, show VI ((i : Int) + 1) = VI ((i + 1 : Nat) : Int) from congrArg VI (by omega), trivial⟩
          · refine ⟨?_, ?_⟩
            · try dsimp only
              exact ⟨by omega, hzo322, hzo325, hA3, by omega, by omega⟩
            · exact H.sub (.cons_cons _ (.cons_cons _ (.cons_cons _ (.cons_cons _ (.cons_cons _ (.cons_cons _ (List.nil_sublist _)))))))
          · show 61 - (i + 1 : Nat) < 61 - i; omega
         ·
          repeat refine c_seq ?_
          refine c_no (by exact congrArg Value.bool (decide_eq_false hc312)) ?_
          repeat refine c_seq ?_
          refine c_region ?_
          refine l_op (o_val (r_bin (a := (m309 : Int)) (b := 1) rfl rfl (fun _ => b_eql)) ?_)
          refine l_op (o_val (r_as) ?_)
          first | refine l_end ?_ | refine l_nil ?_
          by_cases hc326 : (m309 : Int) = 1
          ·
           repeat refine c_seq ?_
           refine c_yes (by exact congrArg Value.bool (decide_eq_true hc326)) ?_
           repeat refine c_seq ?_
           refine wp_held (fun w => Hp w0 w [] [.blk nb3 ([.map (some nb4), .map (some nb5)]) 54, .blk nb6 ([.map (some nb7), .map (some nb8)]) 54, .blk b239 ([VI e236.kind, .string ⟨(e236.who).toArray⟩, V8 e236.k, VI e236.n]) 30, .blk b308 ([VI e305.kind, .string ⟨(e305.who).toArray⟩, V8 e305.k, VI e305.n]) 30]) mixed ?_
           replace H := H.drew
           have HS := H.sub (.cons _ (.cons _ (.cons_cons _ (.cons _ (.cons _ (.cons_cons _ (.cons_cons _ (.cons_cons _ (List.nil_sublist _)))))))))
           refine t_take 0 rfl (by kernel_rfl) (by kernel_rfl) (by kernel_rfl) (fun _ _ _ h => h) (fun w HS => r_mv) HS ?_
           refine t_take 1 rfl (by kernel_rfl) (by kernel_rfl) (by kernel_rfl) (fun _ _ _ h => h) (fun w HS => r_fa rfl fo30_2) HS ?_
           refine t_take 2 rfl (by kernel_rfl) (by kernel_rfl) (by kernel_rfl) (fun _ _ _ h => h) (fun w HS => r_ld (v := V8 e305.k) HS (i := 3) rfl rfl ct5 rfl) HS ?_
           refine t_take 3 rfl (by kernel_rfl) (by kernel_rfl) (by kernel_rfl) (fun _ _ _ h => h) (fun w HS => r_bld' (cells := (((e305.k :: List.replicate 31 (0 : UInt8))).map V8).toArray) (pv := [(0, V8 e305.k)]) bd36 rfl rfl) HS ?_
           refine t_take 5 rfl (by kernel_rfl) (by kernel_rfl) (by kernel_rfl) (fun _ _ _ h => h) (fun w HS => r_mv) HS ?_
           refine t_take 6 rfl (by kernel_rfl) (by kernel_rfl) (by kernel_rfl) (fun _ _ _ h => h) (fun w HS => r_fa rfl fo30_2) HS ?_
           refine t_take 7 rfl (by kernel_rfl) (by kernel_rfl) (by kernel_rfl) (fun _ _ _ h => h) (fun w HS => r_ld (v := V8 e305.k) HS (i := 3) rfl rfl ct5 rfl) HS ?_
           refine t_take 8 rfl (by kernel_rfl) (by kernel_rfl) (by kernel_rfl) (fun _ _ _ h => h) (fun w HS => r_bld' (cells := (((e305.k :: List.replicate 31 (0 : UInt8))).map V8).toArray) (pv := [(0, V8 e305.k)]) bd36 rfl rfl) HS ?_
           refine t_step 4 rfl (by kernel_rfl) (o_callR Try.func18 rfl rfl rfl (drop_m _ _ _ _ z (mst_of H (i := 2) (j := 0) (k := 1) rfl rfl rfl (by decide) (by decide) (by decide) hz.fh hz.fa hz.oh hz.oa) hz (by omega) ([97] : List UInt8) (idB e305.k).1 (idB e305.k).2) ?_)
           rintro _ w ⟨rfl, z327, hzx328, hzo329, Hc⟩
           replace H := (met_at H (i := 2) (j := 0) (k := 1) rfl rfl rfl (by decide) (by decide) (by decide) Hc)
           clear Hc
           replace H : Hp _ w _ ([.obj nb4 (mobj kT z327.Mh z327.c1), .obj nb5 (mobj kS z327.Ma z327.c2), _, _, _, _, _, _]) := H
           replace hzx328 : z327.X = dropX z.X ([97] : List UInt8) (idB e305.k) := hzx328
           have hzx328l := drop_len z.X ([97] : List UInt8) (idB e305.k)
           rw [← hzx328] at hzx328l
           refine ⟨H.sub (.cons _ (.cons _ (.cons_cons _ (.cons _ (.cons _ (.cons_cons _ (.cons_cons _ (.cons_cons _ (List.nil_sublist _))))))))), ?_⟩
           replace HS := H.sub (.cons _ (.cons _ (.cons_cons _ (.cons _ (.cons _ (.cons_cons _ (.cons_cons _ (.cons_cons _ (List.nil_sublist _)))))))))
           refine t_step 9 rfl (by kernel_rfl) (o_callR Try.func18 rfl rfl rfl (drop_m _ _ _ _ z298 (mst_of H (i := 5) (j := 3) (k := 4) rfl rfl rfl (by decide) (by decide) (by decide) hzo300.fh hzo300.fa hzo300.oh hzo300.oa) hzo300 (by omega) ([97] : List UInt8) (idB e305.k).1 (idB e305.k).2) ?_)
           rintro _ w ⟨rfl, z330, hzx331, hzo332, Hc⟩
           replace H := (met_at H (i := 5) (j := 3) (k := 4) rfl rfl rfl (by decide) (by decide) (by decide) Hc)
           clear Hc
           replace H : Hp _ w _ ([_, _, _, .obj nb7 (mobj kT z330.Mh z330.c1), .obj nb8 (mobj kS z330.Ma z330.c2), _, _, _]) := H
           replace hzx331 : z330.X = dropX z298.X ([97] : List UInt8) (idB e305.k) := hzx331
           have hzx331l := drop_len z298.X ([97] : List UInt8) (idB e305.k)
           rw [← hzx331] at hzx331l
           refine ⟨H.sub (.cons _ (.cons _ (.cons_cons _ (.cons _ (.cons _ (.cons_cons _ (.cons_cons _ (.cons_cons _ (List.nil_sublist _))))))))), ?_⟩
           replace HS := H.sub (.cons _ (.cons _ (.cons_cons _ (.cons _ (.cons _ (.cons_cons _ (.cons_cons _ (.cons_cons _ (List.nil_sublist _)))))))))
           refine t_take 10 rfl (by kernel_rfl) (by kernel_rfl) (by kernel_rfl) (fun _ _ _ h => h) (fun w HS => r_bin (a := dropE z.X ([97] : List UInt8) (idB e305.k)) (b := dropE z298.X ([97] : List UInt8) (idB e305.k)) rfl rfl (fun _ => b_neqB false (decide_eq_false (fun hne2 => hne2 (hA2.dropE _))))) HS ?_
           refine t_done (by kernel_rfl) ?_
           clear HS
           repeat refine c_seq ?_
           refine c_no rfl ?_
           refine c_skip ?_
           have hA4 : Apt z327.X z330.X := by
             rw [hzx328, hzx331]
             first | exact hA2.add _ _ | exact hA2.drop hz.inv hzo300.inv _ | exact hA2.quota _
           repeat refine c_seq ?_
           refine c_region ?_
           refine l_op (o_val (r_mv) ?_)
           refine l_op (o_callR Try.func20 rfl rfl rfl (used_m _ _ _ _ z327 (mst_of H (i := 2) (j := 0) (k := 1) rfl rfl rfl (by decide) (by decide) (by decide) hzo329.fh hzo329.fa hzo329.oh hzo329.oa) hzo329 ([97] : List UInt8)) ?_)
           rintro _ w ⟨rfl, z333, hzx334, hzo335, Hc⟩
           replace H := (met_at H (i := 2) (j := 0) (k := 1) rfl rfl rfl (by decide) (by decide) (by decide) Hc)
           clear Hc
           replace H : Hp _ w _ ([.obj nb4 (mobj kT z333.Mh z333.c1), .obj nb5 (mobj kS z333.Ma z333.c2), _, _, _, _, _, _]) := H
           replace hzx334 : z333.X = z327.X := hzx334
           have hzx334l : z333.X.G.length = z327.X.G.length := by rw [hzx334]
           refine l_op (o_val (r_mv) ?_)
           refine l_op (o_callR Try.func20 rfl rfl rfl (used_m _ _ _ _ z330 (mst_of H (i := 5) (j := 3) (k := 4) rfl rfl rfl (by decide) (by decide) (by decide) hzo332.fh hzo332.fa hzo332.oh hzo332.oa) hzo332 ([97] : List UInt8)) ?_)
           rintro _ w ⟨rfl, z336, hzx337, hzo338, Hc⟩
           replace H := (met_at H (i := 5) (j := 3) (k := 4) rfl rfl rfl (by decide) (by decide) (by decide) Hc)
           clear Hc
           replace H : Hp _ w _ ([_, _, _, .obj nb7 (mobj kT z336.Mh z336.c1), .obj nb8 (mobj kS z336.Ma z336.c2), _, _, _]) := H
           replace hzx337 : z336.X = z330.X := hzx337
           have hzx337l : z336.X.G.length = z330.X.G.length := by rw [hzx337]
           refine l_op (o_val (r_bin (a := (z327.X.acc ([97] : List UInt8)).used) (b := (z330.X.acc ([97] : List UInt8)).used) rfl rfl (fun _ => b_neqB false (decide_eq_false (fun hne2 => hne2 (by rw [hA4.a]))))) ?_)
           first | refine l_end ?_ | refine l_nil ?_
           have hA3 : Apt z333.X z336.X := by
             rw [hzx334, hzx337]
             exact hA4
           repeat refine c_seq ?_
           refine c_no rfl ?_
           refine c_skip ?_
           repeat refine c_seq ?_
           refine c_region ?_
           refine l_op (o_val (r_mv) ?_)
           refine l_op (o_val (r_bin (a := (i : Int)) (b := 1) rfl rfl (fun _ => b_add (by omega) (by omega))) ?_)
           refine l_op (o_val (r_as) ?_)
           first | refine l_end ?_ | refine l_nil ?_
           refine round_end (i + 1, z333, z336) ?_ ?_ ?_
           · exact ⟨rfl, rfl, rfl, rfl, show VI ((i : Int) + 1) = VI ((i + 1 : Nat) : Int) from congrArg VI (by omega), trivial⟩
           · refine ⟨?_, ?_⟩
             · try dsimp only
               exact ⟨by omega, hzo335, hzo338, hA3, by omega, by omega⟩
             · exact H.sub (.cons_cons _ (.cons_cons _ (.cons_cons _ (.cons_cons _ (.cons_cons _ (.cons_cons _ (List.nil_sublist _)))))))
           · show 61 - (i + 1 : Nat) < 61 - i; omega
          ·
           repeat refine c_seq ?_
           refine c_no (by exact congrArg Value.bool (decide_eq_false hc326)) ?_
           repeat refine c_seq ?_
           refine c_region ?_
           refine l_op (o_val (r_mv) ?_)
           refine l_op (o_val (r_fa rfl fo30_3) ?_)
           refine l_op (o_val (r_ld (v := VI e305.n) H (i := 7) rfl rfl ct2 rfl) ?_)
           refine l_op (o_callR Try.func19 rfl rfl rfl (quota_m _ _ _ _ z (mst_of H (i := 2) (j := 0) (k := 1) rfl rfl rfl (by decide) (by decide) (by decide) hz.fh hz.fa hz.oh hz.oa) hz ([97] : List UInt8) e305.n (by omega)) ?_)
           rintro _ w ⟨rfl, z339, hzx340, hzo341, Hc⟩
           replace H := (met_at H (i := 2) (j := 0) (k := 1) rfl rfl rfl (by decide) (by decide) (by decide) Hc)
           clear Hc
           replace H : Hp _ w _ ([.obj nb4 (mobj kT z339.Mh z339.c1), .obj nb5 (mobj kS z339.Ma z339.c2), _, _, _, _, _, _]) := H
           replace hzx340 : z339.X = quotaX z.X ([97] : List UInt8) e305.n := hzx340
           have hzx340l : z339.X.G.length = z.X.G.length := by rw [hzx340]; rfl
           first | refine l_end ?_ | refine l_nil ?_
           repeat refine c_seq ?_
           refine c_region ?_
           refine l_op (o_val (r_mv) ?_)
           refine l_op (o_val (r_fa rfl fo30_3) ?_)
           refine l_op (o_val (r_ld (v := VI e305.n) H (i := 7) rfl rfl ct2 rfl) ?_)
           refine l_op (o_callR Try.func19 rfl rfl rfl (quota_m _ _ _ _ z298 (mst_of H (i := 5) (j := 3) (k := 4) rfl rfl rfl (by decide) (by decide) (by decide) hzo300.fh hzo300.fa hzo300.oh hzo300.oa) hzo300 ([97] : List UInt8) e305.n (by omega)) ?_)
           rintro _ w ⟨rfl, z342, hzx343, hzo344, Hc⟩
           replace H := (met_at H (i := 5) (j := 3) (k := 4) rfl rfl rfl (by decide) (by decide) (by decide) Hc)
           clear Hc
           replace H : Hp _ w _ ([_, _, _, .obj nb7 (mobj kT z342.Mh z342.c1), .obj nb8 (mobj kS z342.Ma z342.c2), _, _, _]) := H
           replace hzx343 : z342.X = quotaX z298.X ([97] : List UInt8) e305.n := hzx343
           have hzx343l : z342.X.G.length = z298.X.G.length := by rw [hzx343]; rfl
           first | refine l_end ?_ | refine l_nil ?_
           have hA4 : Apt z339.X z342.X := by
             rw [hzx340, hzx343]
             first | exact hA2.add _ _ | exact hA2.drop hz.inv hzo300.inv _ | exact hA2.quota _
           repeat refine c_seq ?_
           refine c_region ?_
           refine l_op (o_val (r_mv) ?_)
           refine l_op (o_callR Try.func20 rfl rfl rfl (used_m _ _ _ _ z339 (mst_of H (i := 2) (j := 0) (k := 1) rfl rfl rfl (by decide) (by decide) (by decide) hzo341.fh hzo341.fa hzo341.oh hzo341.oa) hzo341 ([97] : List UInt8)) ?_)
           rintro _ w ⟨rfl, z345, hzx346, hzo347, Hc⟩
           replace H := (met_at H (i := 2) (j := 0) (k := 1) rfl rfl rfl (by decide) (by decide) (by decide) Hc)
           clear Hc
           replace H : Hp _ w _ ([.obj nb4 (mobj kT z345.Mh z345.c1), .obj nb5 (mobj kS z345.Ma z345.c2), _, _, _, _, _, _]) := H
           replace hzx346 : z345.X = z339.X := hzx346
           have hzx346l : z345.X.G.length = z339.X.G.length := by rw [hzx346]
           refine l_op (o_val (r_mv) ?_)
           refine l_op (o_callR Try.func20 rfl rfl rfl (used_m _ _ _ _ z342 (mst_of H (i := 5) (j := 3) (k := 4) rfl rfl rfl (by decide) (by decide) (by decide) hzo344.fh hzo344.fa hzo344.oh hzo344.oa) hzo344 ([97] : List UInt8)) ?_)
           rintro _ w ⟨rfl, z348, hzx349, hzo350, Hc⟩
           replace H := (met_at H (i := 5) (j := 3) (k := 4) rfl rfl rfl (by decide) (by decide) (by decide) Hc)
           clear Hc
           replace H : Hp _ w _ ([_, _, _, .obj nb7 (mobj kT z348.Mh z348.c1), .obj nb8 (mobj kS z348.Ma z348.c2), _, _, _]) := H
           replace hzx349 : z348.X = z342.X := hzx349
           have hzx349l : z348.X.G.length = z342.X.G.length := by rw [hzx349]
           refine l_op (o_val (r_bin (a := (z339.X.acc ([97] : List UInt8)).used) (b := (z342.X.acc ([97] : List UInt8)).used) rfl rfl (fun _ => b_neqB false (decide_eq_false (fun hne2 => hne2 (by rw [hA4.a]))))) ?_)
           first | refine l_end ?_ | refine l_nil ?_
           have hA3 : Apt z345.X z348.X := by
             rw [hzx346, hzx349]
             exact hA4
           repeat refine c_seq ?_
           refine c_no rfl ?_
           refine c_skip ?_
           repeat refine c_seq ?_
           refine c_region ?_
           refine l_op (o_val (r_mv) ?_)
           refine l_op (o_val (r_bin (a := (i : Int)) (b := 1) rfl rfl (fun _ => b_add (by omega) (by omega))) ?_)
           refine l_op (o_val (r_as) ?_)
           first | refine l_end ?_ | refine l_nil ?_
           refine round_end (i + 1, z345, z348) ?_ ?_ ?_
           · exact ⟨rfl, rfl, rfl, rfl, show VI ((i : Int) + 1) = VI ((i + 1 : Nat) : Int) from congrArg VI (by omega), trivial⟩
           · refine ⟨?_, ?_⟩
             · try dsimp only
               exact ⟨by omega, hzo347, hzo350, hA3, by omega, by omega⟩
             · exact H.sub (.cons_cons _ (.cons_cons _ (.cons_cons _ (.cons_cons _ (.cons_cons _ (.cons_cons _ (List.nil_sublist _)))))))
           · show 61 - (i + 1 : Nat) < 61 - i; omega
       ·
        repeat refine c_seq ?_
        refine c_no (by exact congrArg Value.bool (decide_eq_false hc297)) ?_
        repeat refine c_seq ?_
        refine c_region ?_
        refine l_op (o_val (r_mv) ?_)
        refine l_op (o_val (r_fa rfl fo30_1) ?_)
        refine l_op (o_val (r_ld (v := .string ⟨(e236.who).toArray⟩) H (i := 6) rfl rfl ct9 rfl) ?_)
        refine l_op (o_val (r_stradd (a := ([98] : List UInt8)) (b := e236.who) rfl rfl (by (try simp only [List.length_cons, List.length_nil]); omega)) ?_)
        refine l_op (o_val (r_fa rfl fo30_3) ?_)
        refine l_op (o_val (r_ld (v := VI e236.n) H (i := 6) rfl rfl ct2 rfl) ?_)
        refine l_op (o_callR Try.func19 rfl rfl rfl (quota_m _ _ _ _ y (mst_of H (i := 5) (j := 3) (k := 4) rfl rfl rfl (by decide) (by decide) (by decide) hy.fh hy.fa hy.oh hy.oa) hy (([98] : List UInt8) ++ e236.who) e236.n (by omega)) ?_)
        rintro _ w ⟨rfl, z351, hzx352, hzo353, Hc⟩
        replace H := (met_at H (i := 5) (j := 3) (k := 4) rfl rfl rfl (by decide) (by decide) (by decide) Hc)
        clear Hc
        replace H : Hp _ w _ ([_, _, _, .obj nb7 (mobj kT z351.Mh z351.c1), .obj nb8 (mobj kS z351.Ma z351.c2), _, _]) := H
        replace hzx352 : z351.X = quotaX y.X (([98] : List UInt8) ++ e236.who) e236.n := hzx352
        have hzx352l : z351.X.G.length = y.X.G.length := by rw [hzx352]; rfl
        first | refine l_end ?_ | refine l_nil ?_
        have hA2 : Apt z.X z351.X := by
          rw [hzx352]
          first | exact hA.addR hne _ _ | exact hA.dropR hy.inv hne _ | exact hA.quotaR hne _
        repeat refine c_seq ?_
        refine c_region ?_
        refine l_op (o_val (r_mv) ?_)
        refine l_op (o_val (r_mv) ?_)
        refine l_op (o_val (r_lens el22 rfl) ?_)
        refine l_op (o_val (r_bin (a := (i : Int)) (b := (g.len : Int)) rfl rfl (fun _ => b_geq)) ?_)
        first | refine l_end ?_ | refine l_nil ?_
        by_cases hc354 : (g.len : Int) ≤ (i : Int)
        ·
         repeat refine c_seq ?_
         refine c_yes (by exact congrArg Value.bool (decide_eq_true hc354)) ?_
         refine c_exit ?_
         repeat refine c_seq ?_
         refine c_region ?_
         refine l_op (o_val (r_mv) ?_)
         refine l_op (o_val (r_bin (a := (i : Int)) (b := 1) rfl rfl (fun _ => b_add (by omega) (by omega))) ?_)
         refine l_op (o_val (r_as) ?_)
         first | refine l_end ?_ | refine l_nil ?_
         refine round_end (i + 1, z, z351) ?_ ?_ ?_
         · exact ⟨rfl, rfl, rfl, rfl, show VI ((i : Int) + 1) = VI ((i + 1 : Nat) : Int) from congrArg VI (by omega), trivial⟩
         · refine ⟨?_, ?_⟩
           · try dsimp only
             exact ⟨by omega, hz, hzo353, hA2, by omega, by omega⟩
           · exact H.sub (.cons_cons _ (.cons_cons _ (.cons_cons _ (.cons_cons _ (.cons_cons _ (.cons_cons _ (List.nil_sublist _)))))))
         · show 61 - (i + 1 : Nat) < 61 - i; omega
        ·
         repeat refine c_seq ?_
         refine c_no (by exact congrArg Value.bool (decide_eq_false hc354)) ?_
         refine c_skip ?_
         repeat refine c_seq ?_
         refine c_region ?_
         refine l_op (o_val (r_mv) ?_)
         refine l_op (o_val (r_mv) ?_)
         have ah357 := ((hg.up H)).addr (by decide) (by first | omega | (dsimp only; omega))
         obtain ⟨ab355, ao356, ah357⟩ := ah357
         refine l_op (o_val (r_isN i rfl rfl el22 ah357 (by omega) (by (try simp only [Sl.cut]); omega)) ?_)
         have he359 : ∃ c, g.l[i]? = some c := ⟨_, List.getElem?_eq_getElem (by have := ((hg.up H)).ln; (try dsimp only at this ⊢); omega)⟩
         obtain ⟨e358, he359⟩ := he359
         have hez360 := ((hg.up H)).sz e358 (List.mem_of_getElem? he359)
         refine l_op (o_val (r_ldRow (s := g) (k := i) (hg.up H) ah357 rfl rt30 (by decide) he359) ?_)
         refine l_op (o_alloc H zc30 (fun b361 w H hb361 => ?_))
         replace H : Hp _ w _ ([_, _, _, _, _, _, _, .blk b361 ([VI 0, .string ⟨(([] : List UInt8)).toArray⟩, V8 (0 : UInt8), VI 0]) 30]) := H
         refine l_op (o_stW (C' := [VI e358.kind, .string ⟨(e358.who).toArray⟩, V8 e358.k, VI e358.n]) H (i := 7) rfl rfl rfl cs30 (by simp [Value.oneCell']) (by rfl) (by rfl) (fun w H => ?_))
         replace H : Hp _ w _ ([_, _, _, _, _, _, _, .blk b361 ([VI e358.kind, .string ⟨(e358.who).toArray⟩, V8 e358.k, VI e358.n]) 30]) := H
         first | refine l_end ?_ | refine l_nil ?_
         have hnb2 := ha _ (List.mem_of_getElem? he359)
         repeat refine c_seq ?_
         refine c_region ?_
         refine l_op (o_val (r_fa rfl fo30_0) ?_)
         refine l_op (o_val (r_ld (v := VI e358.kind) H (i := 7) rfl rfl ct3 rfl) ?_)
         refine l_op (o_callR Try.func16 rfl rfl rfl (place_ret _ e358.kind 3 (by omega) (by omega)) ?_)
         rintro _ w' ⟨m362, rfl, hm363, hw364⟩
         rw [hw364]; clear hw364 w'
         first | refine l_end ?_ | refine l_nil ?_
         repeat refine c_seq ?_
         refine c_block ?_
         repeat refine c_seq ?_
         refine c_region ?_
         refine l_op (o_val (r_bin (a := (m362 : Int)) (b := 0) rfl rfl (fun _ => b_eql)) ?_)
         refine l_op (o_val (r_as) ?_)
         first | refine l_end ?_ | refine l_nil ?_
         by_cases hc365 : (m362 : Int) = 0
         ·
          repeat refine c_seq ?_
          refine c_yes (by exact congrArg Value.bool (decide_eq_true hc365)) ?_
          repeat refine c_seq ?_
          refine c_region ?_
          refine l_op (o_val (r_mv) ?_)
          refine l_op (o_val (r_fa rfl fo30_2) ?_)
          refine l_op (o_val (r_ld (v := V8 e358.k) H (i := 7) rfl rfl ct5 rfl) ?_)
          refine l_op (o_val (r_bld' (cells := (((e358.k :: List.replicate 31 (0 : UInt8))).map V8).toArray) (pv := [(0, V8 e358.k)]) bd36 rfl rfl) ?_)
          refine l_op (o_val (r_fa rfl fo30_3) ?_)
          refine l_op (o_val (r_ld (v := VI e358.n) H (i := 7) rfl rfl ct2 rfl) ?_)
          refine l_op (o_callR Try.func17 rfl rfl rfl (add_m _ _ _ _ z (mst_of H (i := 2) (j := 0) (k := 1) rfl rfl rfl (by decide) (by decide) (by decide) hz.fh hz.fa hz.oh hz.oa) hz (by omega) ([97] : List UInt8) (idB e358.k).1 (idB e358.k).2 e358.n) ?_)
          rintro _ w ⟨rfl, z366, hzx367, hzo368, Hc⟩
          replace H := (met_at H (i := 2) (j := 0) (k := 1) rfl rfl rfl (by decide) (by decide) (by decide) Hc)
          clear Hc
          replace H : Hp _ w _ ([.obj nb4 (mobj kT z366.Mh z366.c1), .obj nb5 (mobj kS z366.Ma z366.c2), _, _, _, _, _, _]) := H
          replace hzx367 : z366.X = addX z.X ([97] : List UInt8) (idB e358.k) e358.n := hzx367
          have hzx367l := add_len z.X ([97] : List UInt8) (idB e358.k) e358.n
          rw [← hzx367] at hzx367l
          refine l_op (o_val (r_mv) ?_)
          refine l_op (o_val (r_ext rfl rfl) ?_)
          refine l_op (o_val (r_ext rfl rfl) ?_)
          refine l_op (o_val (r_as) ?_)
          refine l_op (o_val (r_as) ?_)
          first | refine l_end ?_ | refine l_nil ?_
          repeat refine c_seq ?_
          refine c_region ?_
          refine l_op (o_val (r_mv) ?_)
          refine l_op (o_val (r_fa rfl fo30_2) ?_)
          refine l_op (o_val (r_ld (v := V8 e358.k) H (i := 7) rfl rfl ct5 rfl) ?_)
          refine l_op (o_val (r_bld' (cells := (((e358.k :: List.replicate 31 (0 : UInt8))).map V8).toArray) (pv := [(0, V8 e358.k)]) bd36 rfl rfl) ?_)
          refine l_op (o_val (r_fa rfl fo30_3) ?_)
          refine l_op (o_val (r_ld (v := VI e358.n) H (i := 7) rfl rfl ct2 rfl) ?_)
          refine l_op (o_callR Try.func17 rfl rfl rfl (add_m _ _ _ _ z351 (mst_of H (i := 5) (j := 3) (k := 4) rfl rfl rfl (by decide) (by decide) (by decide) hzo353.fh hzo353.fa hzo353.oh hzo353.oa) hzo353 (by omega) ([97] : List UInt8) (idB e358.k).1 (idB e358.k).2 e358.n) ?_)
          rintro _ w ⟨rfl, z369, hzx370, hzo371, Hc⟩
          replace H := (met_at H (i := 5) (j := 3) (k := 4) rfl rfl rfl (by decide) (by decide) (by decide) Hc)
          clear Hc
          replace H : Hp _ w _ ([_, _, _, .obj nb7 (mobj kT z369.Mh z369.c1), .obj nb8 (mobj kS z369.Ma z369.c2), _, _, _]) := H
          replace hzx370 : z369.X = addX z351.X ([97] : List UInt8) (idB e358.k) e358.n := hzx370
          have hzx370l := add_len z351.X ([97] : List UInt8) (idB e358.k) e358.n
          rw [← hzx370] at hzx370l
          refine l_op (o_val (r_mv) ?_)
          refine l_op (o_val (r_ext rfl rfl) ?_)
          refine l_op (o_val (r_ext rfl rfl) ?_)
          refine l_op (o_val (r_as) ?_)
          refine l_op (o_val (r_as) ?_)
          first | refine l_end ?_ | refine l_nil ?_
          repeat refine c_seq ?_
          refine c_region ?_
          refine l_op (o_val (r_mv) ?_)
          refine l_op (o_val (r_mv) ?_)
          refine l_op (o_val (r_bne Try.underlying4 rfl rfl) ?_)
          have hk372 : (!((addB z.X ([97] : List UInt8) (idB e358.k) e358.n) == (addB z351.X ([97] : List UInt8) (idB e358.k) e358.n))) = false := (by rw [hA2.addB]; simp)
          refine l_op (o_val (r_mv) ?_)
          refine l_yes rfl rfl (by exact congrArg Value.bool hk372) (o_val (r_mv) ?_)
          refine l_yes rfl rfl (by exact congrArg Value.bool hk372) (o_val (r_mv) ?_)
          refine l_yes rfl rfl (by exact congrArg Value.bool hk372) (o_val (r_bin (a := addE z.X ([97] : List UInt8) (idB e358.k) e358.n) (b := addE z351.X ([97] : List UInt8) (idB e358.k) e358.n) rfl rfl (fun _ => b_neqB false (decide_eq_false (fun hne2 => hne2 (hA2.addE _ _))))) ?_)
          refine l_op (o_val (r_pick (b := false) (congrArg Value.bool hk372)) ?_)
          first | refine l_end ?_ | refine l_nil ?_
          repeat refine c_seq ?_
          refine c_no rfl ?_
          refine c_skip ?_
          have hA4 : Apt z366.X z369.X := by
            rw [hzx367, hzx370]
            first | exact hA2.add _ _ | exact hA2.drop hz.inv hzo353.inv _ | exact hA2.quota _
          repeat refine c_seq ?_
          refine c_region ?_
          refine l_op (o_val (r_mv) ?_)
          refine l_op (o_callR Try.func20 rfl rfl rfl (used_m _ _ _ _ z366 (mst_of H (i := 2) (j := 0) (k := 1) rfl rfl rfl (by decide) (by decide) (by decide) hzo368.fh hzo368.fa hzo368.oh hzo368.oa) hzo368 ([97] : List UInt8)) ?_)
          rintro _ w ⟨rfl, z373, hzx374, hzo375, Hc⟩
          replace H := (met_at H (i := 2) (j := 0) (k := 1) rfl rfl rfl (by decide) (by decide) (by decide) Hc)
          clear Hc
          replace H : Hp _ w _ ([.obj nb4 (mobj kT z373.Mh z373.c1), .obj nb5 (mobj kS z373.Ma z373.c2), _, _, _, _, _, _]) := H
          replace hzx374 : z373.X = z366.X := hzx374
          have hzx374l : z373.X.G.length = z366.X.G.length := by rw [hzx374]
          refine l_op (o_val (r_mv) ?_)
          refine l_op (o_callR Try.func20 rfl rfl rfl (used_m _ _ _ _ z369 (mst_of H (i := 5) (j := 3) (k := 4) rfl rfl rfl (by decide) (by decide) (by decide) hzo371.fh hzo371.fa hzo371.oh hzo371.oa) hzo371 ([97] : List UInt8)) ?_)
          rintro _ w ⟨rfl, z376, hzx377, hzo378, Hc⟩
          replace H := (met_at H (i := 5) (j := 3) (k := 4) rfl rfl rfl (by decide) (by decide) (by decide) Hc)
          clear Hc
          replace H : Hp _ w _ ([_, _, _, .obj nb7 (mobj kT z376.Mh z376.c1), .obj nb8 (mobj kS z376.Ma z376.c2), _, _, _]) := H
          replace hzx377 : z376.X = z369.X := hzx377
          have hzx377l : z376.X.G.length = z369.X.G.length := by rw [hzx377]
          refine l_op (o_val (r_bin (a := (z366.X.acc ([97] : List UInt8)).used) (b := (z369.X.acc ([97] : List UInt8)).used) rfl rfl (fun _ => b_neqB false (decide_eq_false (fun hne2 => hne2 (by rw [hA4.a]))))) ?_)
          first | refine l_end ?_ | refine l_nil ?_
          have hA3 : Apt z373.X z376.X := by
            rw [hzx374, hzx377]
            exact hA4
          repeat refine c_seq ?_
          refine c_no rfl ?_
          refine c_skip ?_
          repeat refine c_seq ?_
          refine c_region ?_
          refine l_op (o_val (r_mv) ?_)
          refine l_op (o_val (r_bin (a := (i : Int)) (b := 1) rfl rfl (fun _ => b_add (by omega) (by omega))) ?_)
          refine l_op (o_val (r_as) ?_)
          first | refine l_end ?_ | refine l_nil ?_
          refine round_end (i + 1, z373, z376) ?_ ?_ ?_
          · exact ⟨rfl, rfl, rfl, rfl, show VI ((i : Int) + 1) = VI ((i + 1 : Nat) : Int) from congrArg VI (by omega), trivial⟩
          · refine ⟨?_, ?_⟩
            · try dsimp only
              exact ⟨by omega, hzo375, hzo378, hA3, by omega, by omega⟩
            · exact H.sub (.cons_cons _ (.cons_cons _ (.cons_cons _ (.cons_cons _ (.cons_cons _ (.cons_cons _ (List.nil_sublist _)))))))
          · show 61 - (i + 1 : Nat) < 61 - i; omega
         ·
          repeat refine c_seq ?_
          refine c_no (by exact congrArg Value.bool (decide_eq_false hc365)) ?_
          repeat refine c_seq ?_
          refine c_region ?_
          refine l_op (o_val (r_bin (a := (m362 : Int)) (b := 1) rfl rfl (fun _ => b_eql)) ?_)
          refine l_op (o_val (r_as) ?_)
          first | refine l_end ?_ | refine l_nil ?_
          by_cases hc379 : (m362 : Int) = 1
          ·
           repeat refine c_seq ?_
           refine c_yes (by exact congrArg Value.bool (decide_eq_true hc379)) ?_
           repeat refine c_seq ?_
           refine wp_held (fun w => Hp w0 w [] [.blk nb3 ([.map (some nb4), .map (some nb5)]) 54, .blk nb6 ([.map (some nb7), .map (some nb8)]) 54, .blk b239 ([VI e236.kind, .string ⟨(e236.who).toArray⟩, V8 e236.k, VI e236.n]) 30, .blk b361 ([VI e358.kind, .string ⟨(e358.who).toArray⟩, V8 e358.k, VI e358.n]) 30]) mixed ?_
           replace H := H.drew
           have HS := H.sub (.cons _ (.cons _ (.cons_cons _ (.cons _ (.cons _ (.cons_cons _ (.cons_cons _ (.cons_cons _ (List.nil_sublist _)))))))))
           refine t_take 0 rfl (by kernel_rfl) (by kernel_rfl) (by kernel_rfl) (fun _ _ _ h => h) (fun w HS => r_mv) HS ?_
           refine t_take 1 rfl (by kernel_rfl) (by kernel_rfl) (by kernel_rfl) (fun _ _ _ h => h) (fun w HS => r_fa rfl fo30_2) HS ?_
           refine t_take 2 rfl (by kernel_rfl) (by kernel_rfl) (by kernel_rfl) (fun _ _ _ h => h) (fun w HS => r_ld (v := V8 e358.k) HS (i := 3) rfl rfl ct5 rfl) HS ?_
           refine t_take 3 rfl (by kernel_rfl) (by kernel_rfl) (by kernel_rfl) (fun _ _ _ h => h) (fun w HS => r_bld' (cells := (((e358.k :: List.replicate 31 (0 : UInt8))).map V8).toArray) (pv := [(0, V8 e358.k)]) bd36 rfl rfl) HS ?_
           refine t_take 5 rfl (by kernel_rfl) (by kernel_rfl) (by kernel_rfl) (fun _ _ _ h => h) (fun w HS => r_mv) HS ?_
           refine t_take 6 rfl (by kernel_rfl) (by kernel_rfl) (by kernel_rfl) (fun _ _ _ h => h) (fun w HS => r_fa rfl fo30_2) HS ?_
           refine t_take 7 rfl (by kernel_rfl) (by kernel_rfl) (by kernel_rfl) (fun _ _ _ h => h) (fun w HS => r_ld (v := V8 e358.k) HS (i := 3) rfl rfl ct5 rfl) HS ?_
           refine t_take 8 rfl (by kernel_rfl) (by kernel_rfl) (by kernel_rfl) (fun _ _ _ h => h) (fun w HS => r_bld' (cells := (((e358.k :: List.replicate 31 (0 : UInt8))).map V8).toArray) (pv := [(0, V8 e358.k)]) bd36 rfl rfl) HS ?_
           refine t_step 4 rfl (by kernel_rfl) (o_callR Try.func18 rfl rfl rfl (drop_m _ _ _ _ z (mst_of H (i := 2) (j := 0) (k := 1) rfl rfl rfl (by decide) (by decide) (by decide) hz.fh hz.fa hz.oh hz.oa) hz (by omega) ([97] : List UInt8) (idB e358.k).1 (idB e358.k).2) ?_)
           rintro _ w ⟨rfl, z380, hzx381, hzo382, Hc⟩
           replace H := (met_at H (i := 2) (j := 0) (k := 1) rfl rfl rfl (by decide) (by decide) (by decide) Hc)
           clear Hc
           replace H : Hp _ w _ ([.obj nb4 (mobj kT z380.Mh z380.c1), .obj nb5 (mobj kS z380.Ma z380.c2), _, _, _, _, _, _]) := H
           replace hzx381 : z380.X = dropX z.X ([97] : List UInt8) (idB e358.k) := hzx381
           have hzx381l := drop_len z.X ([97] : List UInt8) (idB e358.k)
           rw [← hzx381] at hzx381l
           refine ⟨H.sub (.cons _ (.cons _ (.cons_cons _ (.cons _ (.cons _ (.cons_cons _ (.cons_cons _ (.cons_cons _ (List.nil_sublist _))))))))), ?_⟩
           replace HS := H.sub (.cons _ (.cons _ (.cons_cons _ (.cons _ (.cons _ (.cons_cons _ (.cons_cons _ (.cons_cons _ (List.nil_sublist _)))))))))
           refine t_step 9 rfl (by kernel_rfl) (o_callR Try.func18 rfl rfl rfl (drop_m _ _ _ _ z351 (mst_of H (i := 5) (j := 3) (k := 4) rfl rfl rfl (by decide) (by decide) (by decide) hzo353.fh hzo353.fa hzo353.oh hzo353.oa) hzo353 (by omega) ([97] : List UInt8) (idB e358.k).1 (idB e358.k).2) ?_)
           rintro _ w ⟨rfl, z383, hzx384, hzo385, Hc⟩
           replace H := (met_at H (i := 5) (j := 3) (k := 4) rfl rfl rfl (by decide) (by decide) (by decide) Hc)
           clear Hc
           replace H : Hp _ w _ ([_, _, _, .obj nb7 (mobj kT z383.Mh z383.c1), .obj nb8 (mobj kS z383.Ma z383.c2), _, _, _]) := H
           replace hzx384 : z383.X = dropX z351.X ([97] : List UInt8) (idB e358.k) := hzx384
           have hzx384l := drop_len z351.X ([97] : List UInt8) (idB e358.k)
           rw [← hzx384] at hzx384l
           refine ⟨H.sub (.cons _ (.cons _ (.cons_cons _ (.cons _ (.cons _ (.cons_cons _ (.cons_cons _ (.cons_cons _ (List.nil_sublist _))))))))), ?_⟩
           replace HS := H.sub (.cons _ (.cons _ (.cons_cons _ (.cons _ (.cons _ (.cons_cons _ (.cons_cons _ (.cons_cons _ (List.nil_sublist _)))))))))
           refine t_take 10 rfl (by kernel_rfl) (by kernel_rfl) (by kernel_rfl) (fun _ _ _ h => h) (fun w HS => r_bin (a := dropE z.X ([97] : List UInt8) (idB e358.k)) (b := dropE z351.X ([97] : List UInt8) (idB e358.k)) rfl rfl (fun _ => b_neqB false (decide_eq_false (fun hne2 => hne2 (hA2.dropE _))))) HS ?_
           refine t_done (by kernel_rfl) ?_
           clear HS
           repeat refine c_seq ?_
           refine c_no rfl ?_
           refine c_skip ?_
           have hA4 : Apt z380.X z383.X := by
             rw [hzx381, hzx384]
             first | exact hA2.add _ _ | exact hA2.drop hz.inv hzo353.inv _ | exact hA2.quota _
           repeat refine c_seq ?_
           refine c_region ?_
           refine l_op (o_val (r_mv) ?_)
           refine l_op (o_callR Try.func20 rfl rfl rfl (used_m _ _ _ _ z380 (mst_of H (i := 2) (j := 0) (k := 1) rfl rfl rfl (by decide) (by decide) (by decide) hzo382.fh hzo382.fa hzo382.oh hzo382.oa) hzo382 ([97] : List UInt8)) ?_)
           rintro _ w ⟨rfl, z386, hzx387, hzo388, Hc⟩
           replace H := (met_at H (i := 2) (j := 0) (k := 1) rfl rfl rfl (by decide) (by decide) (by decide) Hc)
           clear Hc
           replace H : Hp _ w _ ([.obj nb4 (mobj kT z386.Mh z386.c1), .obj nb5 (mobj kS z386.Ma z386.c2), _, _, _, _, _, _]) := H
           replace hzx387 : z386.X = z380.X := hzx387
           have hzx387l : z386.X.G.length = z380.X.G.length := by rw [hzx387]
           refine l_op (o_val (r_mv) ?_)
           refine l_op (o_callR Try.func20 rfl rfl rfl (used_m _ _ _ _ z383 (mst_of H (i := 5) (j := 3) (k := 4) rfl rfl rfl (by decide) (by decide) (by decide) hzo385.fh hzo385.fa hzo385.oh hzo385.oa) hzo385 ([97] : List UInt8)) ?_)
           rintro _ w ⟨rfl, z389, hzx390, hzo391, Hc⟩
           replace H := (met_at H (i := 5) (j := 3) (k := 4) rfl rfl rfl (by decide) (by decide) (by decide) Hc)
           clear Hc
           replace H : Hp _ w _ ([_, _, _, .obj nb7 (mobj kT z389.Mh z389.c1), .obj nb8 (mobj kS z389.Ma z389.c2), _, _, _]) := H
           replace hzx390 : z389.X = z383.X := hzx390
           have hzx390l : z389.X.G.length = z383.X.G.length := by rw [hzx390]
           refine l_op (o_val (r_bin (a := (z380.X.acc ([97] : List UInt8)).used) (b := (z383.X.acc ([97] : List UInt8)).used) rfl rfl (fun _ => b_neqB false (decide_eq_false (fun hne2 => hne2 (by rw [hA4.a]))))) ?_)
           first | refine l_end ?_ | refine l_nil ?_
           have hA3 : Apt z386.X z389.X := by
             rw [hzx387, hzx390]
             exact hA4
           repeat refine c_seq ?_
           refine c_no rfl ?_
           refine c_skip ?_
           repeat refine c_seq ?_
           refine c_region ?_
           refine l_op (o_val (r_mv) ?_)
           refine l_op (o_val (r_bin (a := (i : Int)) (b := 1) rfl rfl (fun _ => b_add (by omega) (by omega))) ?_)
           refine l_op (o_val (r_as) ?_)
           first | refine l_end ?_ | refine l_nil ?_
           refine round_end (i + 1, z386, z389) ?_ ?_ ?_
           · exact ⟨rfl, rfl, rfl, rfl, show VI ((i : Int) + 1) = VI ((i + 1 : Nat) : Int) from congrArg VI (by omega), trivial⟩
           · refine ⟨?_, ?_⟩
             · try dsimp only
               exact ⟨by omega, hzo388, hzo391, hA3, by omega, by omega⟩
             · exact H.sub (.cons_cons _ (.cons_cons _ (.cons_cons _ (.cons_cons _ (.cons_cons _ (.cons_cons _ (List.nil_sublist _)))))))
           · show 61 - (i + 1 : Nat) < 61 - i; omega
          ·
           repeat refine c_seq ?_
           refine c_no (by exact congrArg Value.bool (decide_eq_false hc379)) ?_
           repeat refine c_seq ?_
           refine c_region ?_
           refine l_op (o_val (r_mv) ?_)
           refine l_op (o_val (r_fa rfl fo30_3) ?_)
           refine l_op (o_val (r_ld (v := VI e358.n) H (i := 7) rfl rfl ct2 rfl) ?_)
           refine l_op (o_callR Try.func19 rfl rfl rfl (quota_m _ _ _ _ z (mst_of H (i := 2) (j := 0) (k := 1) rfl rfl rfl (by decide) (by decide) (by decide) hz.fh hz.fa hz.oh hz.oa) hz ([97] : List UInt8) e358.n (by omega)) ?_)
           rintro _ w ⟨rfl, z392, hzx393, hzo394, Hc⟩
           replace H := (met_at H (i := 2) (j := 0) (k := 1) rfl rfl rfl (by decide) (by decide) (by decide) Hc)
           clear Hc
           replace H : Hp _ w _ ([.obj nb4 (mobj kT z392.Mh z392.c1), .obj nb5 (mobj kS z392.Ma z392.c2), _, _, _, _, _, _]) := H
           replace hzx393 : z392.X = quotaX z.X ([97] : List UInt8) e358.n := hzx393
           have hzx393l : z392.X.G.length = z.X.G.length := by rw [hzx393]; rfl
           first | refine l_end ?_ | refine l_nil ?_
           repeat refine c_seq ?_
           refine c_region ?_
           refine l_op (o_val (r_mv) ?_)
           refine l_op (o_val (r_fa rfl fo30_3) ?_)
           refine l_op (o_val (r_ld (v := VI e358.n) H (i := 7) rfl rfl ct2 rfl) ?_)
           refine l_op (o_callR Try.func19 rfl rfl rfl (quota_m _ _ _ _ z351 (mst_of H (i := 5) (j := 3) (k := 4) rfl rfl rfl (by decide) (by decide) (by decide) hzo353.fh hzo353.fa hzo353.oh hzo353.oa) hzo353 ([97] : List UInt8) e358.n (by omega)) ?_)
           rintro _ w ⟨rfl, z395, hzx396, hzo397, Hc⟩
           replace H := (met_at H (i := 5) (j := 3) (k := 4) rfl rfl rfl (by decide) (by decide) (by decide) Hc)
           clear Hc
           replace H : Hp _ w _ ([_, _, _, .obj nb7 (mobj kT z395.Mh z395.c1), .obj nb8 (mobj kS z395.Ma z395.c2), _, _, _]) := H
           replace hzx396 : z395.X = quotaX z351.X ([97] : List UInt8) e358.n := hzx396
           have hzx396l : z395.X.G.length = z351.X.G.length := by rw [hzx396]; rfl
           first | refine l_end ?_ | refine l_nil ?_
           have hA4 : Apt z392.X z395.X := by
             rw [hzx393, hzx396]
             first | exact hA2.add _ _ | exact hA2.drop hz.inv hzo353.inv _ | exact hA2.quota _
           repeat refine c_seq ?_
           refine c_region ?_
           refine l_op (o_val (r_mv) ?_)
           refine l_op (o_callR Try.func20 rfl rfl rfl (used_m _ _ _ _ z392 (mst_of H (i := 2) (j := 0) (k := 1) rfl rfl rfl (by decide) (by decide) (by decide) hzo394.fh hzo394.fa hzo394.oh hzo394.oa) hzo394 ([97] : List UInt8)) ?_)
           rintro _ w ⟨rfl, z398, hzx399, hzo400, Hc⟩
           replace H := (met_at H (i := 2) (j := 0) (k := 1) rfl rfl rfl (by decide) (by decide) (by decide) Hc)
           clear Hc
           replace H : Hp _ w _ ([.obj nb4 (mobj kT z398.Mh z398.c1), .obj nb5 (mobj kS z398.Ma z398.c2), _, _, _, _, _, _]) := H
           replace hzx399 : z398.X = z392.X := hzx399
           have hzx399l : z398.X.G.length = z392.X.G.length := by rw [hzx399]
           refine l_op (o_val (r_mv) ?_)
           refine l_op (o_callR Try.func20 rfl rfl rfl (used_m _ _ _ _ z395 (mst_of H (i := 5) (j := 3) (k := 4) rfl rfl rfl (by decide) (by decide) (by decide) hzo397.fh hzo397.fa hzo397.oh hzo397.oa) hzo397 ([97] : List UInt8)) ?_)
           rintro _ w ⟨rfl, z401, hzx402, hzo403, Hc⟩
           replace H := (met_at H (i := 5) (j := 3) (k := 4) rfl rfl rfl (by decide) (by decide) (by decide) Hc)
           clear Hc
           replace H : Hp _ w _ ([_, _, _, .obj nb7 (mobj kT z401.Mh z401.c1), .obj nb8 (mobj kS z401.Ma z401.c2), _, _, _]) := H
           replace hzx402 : z401.X = z395.X := hzx402
           have hzx402l : z401.X.G.length = z395.X.G.length := by rw [hzx402]
           refine l_op (o_val (r_bin (a := (z392.X.acc ([97] : List UInt8)).used) (b := (z395.X.acc ([97] : List UInt8)).used) rfl rfl (fun _ => b_neqB false (decide_eq_false (fun hne2 => hne2 (by rw [hA4.a]))))) ?_)
           first | refine l_end ?_ | refine l_nil ?_
           have hA3 : Apt z398.X z401.X := by
             rw [hzx399, hzx402]
             exact hA4
           repeat refine c_seq ?_
           refine c_no rfl ?_
           refine c_skip ?_
           repeat refine c_seq ?_
           refine c_region ?_
           refine l_op (o_val (r_mv) ?_)
           refine l_op (o_val (r_bin (a := (i : Int)) (b := 1) rfl rfl (fun _ => b_add (by omega) (by omega))) ?_)
           refine l_op (o_val (r_as) ?_)
           first | refine l_end ?_ | refine l_nil ?_
           refine round_end (i + 1, z398, z401) ?_ ?_ ?_
           · exact ⟨rfl, rfl, rfl, rfl, show VI ((i : Int) + 1) = VI ((i + 1 : Nat) : Int) from congrArg VI (by omega), trivial⟩
           · refine ⟨?_, ?_⟩
             · try dsimp only
               exact ⟨by omega, hzo400, hzo403, hA3, by omega, by omega⟩
             · exact H.sub (.cons_cons _ (.cons_cons _ (.cons_cons _ (.cons_cons _ (.cons_cons _ (.cons_cons _ (List.nil_sublist _)))))))
           · show 61 - (i + 1 : Nat) < 61 - i; omega
     ·
      repeat refine c_seq ?_
      refine c_no (by exact congrArg Value.bool (decide_eq_false hc232)) ?_
      refine c_exit ?_
      repeat refine c_seq ?_
      refine c_region ?_
      refine l_op (o_val (r_as) ?_)
      first | refine l_end ?_ | refine l_nil ?_
      refine c_ret ?_
      try dsimp only [Exit.then, Exit.inBlock]
      refine e_ret1 (v := .bool true) Try.results4 rfl ?_
      refine ⟨_, rfl, ?_⟩
      exact ⟨rfl, H.sub (List.nil_sublist _)⟩
   ·
    repeat refine c_seq ?_
    refine c_yes (by exact congrArg Value.bool (congrArg not hc2)) ?_
    repeat refine c_seq ?_
    refine c_region ?_
    refine l_op (o_val (r_as) ?_)
    first | refine l_end ?_ | refine l_nil ?_
    refine c_ret ?_
    try dsimp only [Exit.then, Exit.inBlock]
    refine e_ret1 (v := .bool true) Try.results4 rfl ?_
    refine ⟨_, rfl, ?_⟩
    exact ⟨rfl, H.sub (List.nil_sublist _)⟩
  ·
   refine l_no rfl rfl (by exact congrArg Value.bool (congrArg not hc1)) rfl ?_
   refine l_no rfl rfl (by exact congrArg Value.bool (congrArg not hc1)) rfl ?_
   refine l_no rfl rfl (by exact congrArg Value.bool (congrArg not hc1)) rfl ?_
   refine l_op (o_val (r_pick (b := true) (congrArg Value.bool (congrArg not hc1))) ?_)
   first | refine l_end ?_ | refine l_nil ?_
   repeat refine c_seq ?_
   refine c_yes rfl ?_
   repeat refine c_seq ?_
   refine c_region ?_
   refine l_op (o_val (r_as) ?_)
   first | refine l_end ?_ | refine l_nil ?_
   refine c_ret ?_
   try dsimp only [Exit.then, Exit.inBlock]
   refine e_ret1 (v := .bool true) Try.results4 rfl ?_
   refine ⟨_, rfl, ?_⟩
   exact ⟨rfl, H.sub (List.nil_sublist _)⟩
end Go.Proofs.Ytncmcgcilijfkaa
