import Derived.Test.YtjmbbhnpfmblpaaKMem2
/- Making, building, copying, converting; arrays compared; regions that draw; a library. -/
namespace Go.Proofs.Ytjmbbhnpfmblpaa
open Go
section
variable {P : Program} {Q : Exit → Act → World → Prop} {n : Nat} {σ : Nat → Value} {w w0 : World} {K : Act → World → Prop}
  {ty : TypeId} {pos : String} {aft : Array Edge} {g : Option (Nat × Bool)} {d : Nat} {t yt : TypeId} {x y z : Operand} {S : List Nat} {L : List Ch}

/-- 'make([]T, l, c)', elements of one cell. -/
theorem o_make {e : TypeId} {bytes l c : Nat} {k k' : IntKind} {li ci : Int} {zv : Value} (H : Hp w0 w S L) (hT : SlTy P t e 1 bytes) (hz : zeroCells P e = some [zv]) (hx : ev n σ x = .int k li) (hy : ev n σ y = .int k' ci)
    (hl : li = (l : Int)) (hc : ci = (c : Int)) (hlc : l ≤ c) (hb : bytes * c ≤ 281474976710656) (h63 : c ≤ maxLen)
    (h : ∀ b w', Hp w0 w' S (L ++ [.blk b (List.replicate c zv) e]) → w0.heap.size ≤ b → K (mk n (up σ d (.slice (some ⟨b, 0, none⟩) l c))) w') :
    Oper.wp P ⟨some d, .makeSlice t x y, ty, pos, aft, g⟩ (mk n σ) w K Q := by
  obtain ⟨i, z0, hi, hz0, hs, hby, hzs⟩ := hT.row
  subst hl hc
  have hzc : z0.cells.toList = [zv] := by simpa [zeroCells, hi, hz0] using hz
  have hzc' : z0.cells = #[zv] := by apply Array.ext'; simpa using hzc
  have h63' : (c : Int) ≤ 9223372036854775807 := Int.ofNat_le.2 h63
  have hr := run_make (P := P) (w := w) t e i z0 hT.und hi hz0 k k' (l : Int) (c : Int) (by omega) (by omega) (by rw [hby]; exact Int.ofNat_le.2 hb) h63'
  have e1 : madeCells z0.cells ((c : Int).toNat * i.size) = (List.replicate c zv).toArray := by
    rw [hzc', hs, Nat.mul_one, Int.toNat_natCast]
    apply Array.ext'
    exact toList_madeCells_one zv c
  rw [e1] at hr
  refine o_val (by simp only [execOp, hx, hy, Sem.run_bind, hr, Result.andThen_ok, Int.toNat_natCast]; rfl) (h w.heap.size _ (H.alloc _ e) H.size)
theorem run_bsl {e : TypeId} {sz bytes len : Nat} {zs : List Value} {cells : Array Value} (hT : SlTy P t e sz bytes) (hz : zeroCells P e = some zs) (hs : 0 < sz) (hlen : len * sz ≤ 16777216) (parts : Array (Nat × Value))
    (hf : Instr.fill (fun i => some (i * sz, sz)) ((Array.range (len * sz)).map (zs.toArray[· % zs.toArray.size]!)) parts.toList = some cells) :
    (Instr.buildSlice t len parts).run P w = .ok (.slice (some ⟨w.heap.size, 0, none⟩) len len) (w.alloc (.cells cells e)) := by
  obtain ⟨i, z0, hi, hz0, hsz, hby, hzs⟩ := hT.row
  have hzc : z0.cells = zs.toArray := by
    have : z0.cells.toList = zs := by simpa [zeroCells, hi, hz0] using hz
    apply Array.ext'; simpa using this
  have h1 : (sizeOf e).run P w = .ok sz w := run_sizeOf_sz (by simp [cellSz, hi, hsz]) w
  have h2 : (zeroValue e).run P w = .ok z0 w := by simp [zeroValue, typeInfo, hi, hz0]
  have hn : ¬ (len * sz > 2 ^ 24) := by omega
  have fin : ∀ zz : Array Value, Instr.fill (fun i => some (i * sz, sz)) ((Array.range (len * sz)).map (zz[· % zz.size]!)) parts.toList = some cells →
      (match Instr.fill (fun i => some (i * sz, sz)) ((Array.range (len * sz)).map (zz[· % zz.size]!)) parts.toList with
        | some cells => (do pure (.slice (some (← newRow e cells)) len len) : Sem Value)
        | _ => stuck "buildSlice: a part of the wrong size").run P w = .ok (.slice (some ⟨w.heap.size, 0, none⟩) len len) (w.alloc (.cells cells e)) := by
    intro zz hzz
    rw [hzz]
    simp [newRow]
  unfold Instr.buildSlice
  rw [Sem.run_bind, run_underlying hT.und]
  simp only [Result.andThen_ok]
  rw [Sem.run_bind, h1]
  simp only [Result.andThen_ok]
  rw [if_neg hn]
  by_cases h0 : len * sz = 0
  · have e1 : ∀ zz : Array Value, (Array.range (len * sz)).map (zz[· % zz.size]!) = #[] := fun zz => by
      rw [h0]; apply Array.ext'; simp
    rw [if_pos h0, Sem.run_bind, Sem.run_pure]
    simp only [Result.andThen_ok]
    exact fin #[] (by rw [e1, ← e1 zs.toArray]; exact hf)
  · rw [if_neg h0, Sem.run_bind, h2]
    simp only [Result.andThen_ok]
    rw [Sem.run_bind, Sem.run_pure]
    simp only [Result.andThen_ok]
    exact fin z0.cells (by rw [hzc]; exact hf)
/-- a slice literal. -/
theorem o_bsl {e : TypeId} {sz bytes len : Nat} {parts : Array (Nat × Operand)} {zs : List Value} {pv : List (Nat × Value)} {cells : Array Value} (H : Hp w0 w S L) (hT : SlTy P t e sz bytes) (hz : zeroCells P e = some zs) (hs : 0 < sz)
    (hp0 : pvs n σ parts.toList = pv) (hlen : len * sz ≤ 16777216)
    (hf : Instr.fill (fun i => some (i * sz, sz)) ((Array.range (len * sz)).map (zs.toArray[· % zs.toArray.size]!)) pv = some cells)
    (h : ∀ b w', Hp w0 w' S (L ++ [.blk b cells.toList e]) → w0.heap.size ≤ b → K (mk n (up σ d (.slice (some ⟨b, 0, none⟩) len len))) w') :
    Oper.wp P ⟨some d, .buildSlice t len parts, ty, pos, aft, g⟩ (mk n σ) w K Q := by
  have hp : (parts.map fun (i, x) => (i, ev n σ x)).toList = pv := by rw [← hp0, pvs_eq, Array.toList_map]
  refine o_val (v := .slice (some ⟨w.heap.size, 0, none⟩) len len) (w' := w.alloc (.cells cells e)) ?_ (h _ _ (by simpa using H.alloc cells.toList e) H.size)
  have hr := run_bsl (P := P) (w := w) hT hz hs hlen (parts.map fun (i, x) => (i, ev n σ x)) (by rw [hp]; exact hf)
  simp only [execOp, Sem.run_bind, hr, Result.andThen_ok]
  rfl
/-- an array or struct literal. -/
theorem o_bld {parts : Array (Nat × Operand)} {pv : List (Nat × Value)} {cells : Array Value}
    (hp0 : pvs n σ parts.toList = pv) (hf : P.built t pv = some cells)
    (h : K (mk n (up σ d (.agg cells))) w) : Oper.wp P ⟨some d, .build t parts, ty, pos, aft, g⟩ (mk n σ) w K Q := by
  refine o_val ?_ h
  have hp : (parts.map fun (i, x) => (i, ev n σ x)).toList = pv := by rw [← hp0, pvs_eq, Array.toList_map]
  have := run_build (P := P) w t (parts.map fun (i, x) => (i, ev n σ x)) cells (by rw [hp]; exact hf)
  simp only [execOp, Sem.run_bind, this]
  simp
/-- how a type is built: its zero, and where its parts lie. -/
structure Bld (P : Program) (t : TypeId) (zs : Array Value) (places : Nat → Option (Nat × Nat)) : Prop where
  eq : ∀ parts, P.built t parts = Instr.fill places zs parts
theorem Bld.arr {t : TypeId} {len sz : Nat} {zs : List Value} (h1 : arrOf P t = some (len, sz)) (h2 : zeroCells P t = some zs) : Bld P t zs.toArray fun i => some (i * sz, sz) := by
  constructor
  intro parts
  unfold arrOf at h1
  cases hu : P.underlying t with
  | none => simp [hu] at h1
  | some ds =>
    cases ds <;> simp only [hu] at h1 <;> try (cases h1)
    rename_i l e
    cases hj : P.info? e with
    | none => simp [hj] at h1
    | some j =>
      simp only [hj, Option.map_some, Option.some.injEq, Prod.mk.injEq] at h1
      obtain ⟨rfl, rfl⟩ := h1
      unfold zeroCells at h2
      cases hi : P.info? t with
      | none => simp [hi] at h2
      | some i =>
        cases hz : i.zero with
        | none => simp [hi, hz] at h2
        | some z =>
          simp [hi, hz] at h2
          have : z.cells = zs.toArray := by apply Array.ext'; simpa using h2
          simp only [Program.built, hi, hu, hz, hj, this]
def placesOf (P : Program) (t : TypeId) : Option (Array (Nat × Nat)) :=
  match P.underlying t with
  | some (.struct fs) => (fs.toList.mapM fun f => (P.info? f.type).map fun i => (f.offset, i.size)).map (·.toArray)
  | _ => none
theorem Bld.str {t : TypeId} {pl : Array (Nat × Nat)} {zs : List Value} (h1 : placesOf P t = some pl) (h2 : zeroCells P t = some zs) : Bld P t zs.toArray fun i => pl[i]? := by
  constructor
  intro parts
  unfold placesOf at h1
  cases hu : P.underlying t with
  | none => simp [hu] at h1
  | some ds =>
    cases ds <;> simp only [hu] at h1 <;> try (cases h1)
    rename_i fs
    cases hm : fs.toList.mapM (fun f => (P.info? f.type).map fun i => (f.offset, i.size)) with
    | none => simp [hm] at h1
    | some places =>
      simp only [hm, Option.map_some, Option.some.injEq] at h1
      subst h1
      unfold zeroCells at h2
      cases hi : P.info? t with
      | none => simp [hi] at h2
      | some i =>
        cases hz : i.zero with
        | none => simp [hi, hz] at h2
        | some z =>
          simp [hi, hz] at h2
          have : z.cells = zs.toArray := by apply Array.ext'; simpa using h2
          simp only [Program.built, hi, hu, hz, hm, this]
theorem o_bld' {parts : Array (Nat × Operand)} {zs : Array Value} {places : Nat → Option (Nat × Nat)} {pv : List (Nat × Value)} {cells : Array Value} (hB : Bld P t zs places)
    (hp0 : pvs n σ parts.toList = pv) (hf : Instr.fill places zs pv = some cells)
    (h : K (mk n (up σ d (.agg cells))) w) : Oper.wp P ⟨some d, .build t parts, ty, pos, aft, g⟩ (mk n σ) w K Q :=
  o_bld hp0 (by rw [hB.eq]; exact hf) h

def en : Nat → List Value → List (Nat × Value)
  | _, [] => []
  | i, v :: l => (i, v) :: en (i + 1) l
theorem fill_en_aux : ∀ (vs A : List Value) (B : List Value), (∀ v ∈ vs, v.oneCell' = true) → vs.length = B.length → Instr.fill (fun i => some (i * 1, 1)) (A ++ B).toArray (en A.length vs) = some (A ++ vs).toArray
  | [], A, B, _, hl => by
    have : B = [] := List.length_eq_zero_iff.1 (by simpa using hl.symm)
    subst this; simp [en, Instr.fill]
  | v :: vs, A, [], _, hl => by simp at hl
  | v :: vs, A, b :: B, h1, hl => by
    have hv := h1 v (by simp)
    have hc : v.cells = #[v] := by cases v <;> simp_all [Value.cells, Value.oneCell']
    have ih := fill_en_aux vs (A ++ [v]) B (fun u hu => h1 u (by simp [hu])) (by simpa using hl)
    simp only [List.length_append, List.length_singleton, List.append_assoc, List.singleton_append] at ih
    simp only [en, Instr.fill, hc, Nat.mul_one]
    rw [if_neg (by simp)]
    have e : (#[v] : Array Value).zipIdx = #[(v, 0)] := by simp [Array.zipIdx]
    rw [← ih]
    congr 1
    · funext i; rw [Nat.mul_one]
    · rw [e]
      apply Array.ext'
      simp [List.set_append]
theorem fill_en {zs : List Value} (vs : List Value) (h1 : vs.toArray.all (·.oneCell') = true) (hl : vs.length = zs.length) : Instr.fill (fun i => some (i * 1, 1)) zs.toArray (en 0 vs) = some vs.toArray := by
  have := fill_en_aux vs [] zs (by rw [List.all_toArray] at h1; simpa using h1) hl
  simpa using this
/-- 'copy' onto cells of a known block. -/
theorem o_copy {b o i : Nat} {C : List Value} {T e e' : TypeId} {sz dLen dCap sLen sCap : Nat} {a : Option Addr} {vs : List Value} {tx : TypeId} (H : Hp w0 w S L) (hi : L[i]? = some (.blk b C T)) (hu : P.underlying t = some (.slice e)) (hu' : P.underlying tx = some (.slice e')) (hs : cellSz P e = some sz) (hsz : 0 < sz)
    (hx : ev n σ x = .slice (some ⟨b, o, none⟩) dLen dCap) (hy : ev n σ y = .slice a sLen sCap) (hr : RdS w a vs) (hl : vs.length = sLen * sz) (h1 : ∀ u ∈ vs, u.oneCell' = true) (hfit : o + dLen * sz ≤ C.length)
    (h : ∀ w', Hp w0 w' S (L.set i (.blk b (C.take o ++ vs.take (min sLen dLen * sz) ++ C.drop (o + min sLen dLen * sz)) T)) → K (mk n (up σ d (VI ((min sLen dLen : Nat) : Int)))) w') :
    Oper.wp P ⟨some d, .call ⟨.builtin .copy, #[x, y], #[t, tx]⟩, ty, pos, aft, g⟩ (mk n σ) w K Q := by
  have hmin : min sLen dLen * sz ≤ vs.length := by rw [hl]; exact Nat.mul_le_mul_right _ (Nat.min_le_left _ _)
  have hmin2 : min sLen dLen * sz ≤ dLen * sz := Nat.mul_le_mul_right _ (Nat.min_le_right _ _)
  have hlen : (vs.take (min sLen dLen * sz)).length = min sLen dLen * sz := by rw [List.length_take]; omega
  have hst := run_storeCells_at (P := P) b o T (vs.take (min sLen dLen * sz)) 0 C.toArray w (H.blk hi) (by rw [hlen]; simp; omega) (fun v hv => h1 v (List.mem_of_mem_take hv))
  rw [hlen] at hst
  simp only [Nat.add_zero] at hst
  have hfc : (Builtin.firstCells sz (min sLen dLen) (.slice a sLen sCap)).run P w = .ok (vs.take (min sLen dLen * sz)).toArray w := by
    have hsrc : Src P sz tx (.slice a (min sLen dLen) sCap) (min sLen dLen) (vs.take (min sLen dLen * sz)) w :=
      (hr.take _).src hu' hlen hsz (fun v hv => h1 v (List.mem_of_mem_take hv))
    have := hsrc.cells
    cases a <;> exact this
  have hsz' := run_sizeOf_sz hs w
  refine o_val (run_builtin (s := Builtin.copy_ #[t, tx] ty #[.slice (some ⟨b, o, none⟩) dLen dCap, .slice a sLen sCap]) (vs := #[.slice (some ⟨b, o, none⟩) dLen dCap, .slice a sLen sCap]) (v := VI ((min sLen dLen : Nat) : Int))
    (w' := w.setRow b (C.take o ++ vs.take (min sLen dLen * sz) ++ C.drop (o + min sLen dLen * sz)).toArray) (by simp [hx, hy]) (fun _ => rfl) ?_) (h _ (H.row hi rfl rfl (H.blk hi) fun w' hw => hw))
  have hnat : Nat.min sLen dLen = min sLen dLen := rfl
  simp only [List.append_assoc] at hst ⊢
  simp [Builtin.copy_, run_underlying hu, Builtin.lenOf, hsz', hnat, hfc, hst, goInt]

/-! ### bytes and strings -/
theorem o_b2s {e : TypeId} {a : Option Addr} {len cap : Nat} {l : List UInt8} (hs : P.underlying t = some (.slice e)) (he : P.underlying e = some (.int .u8)) (hd : P.underlying yt = some .string)
    (hx : ev n σ x = .slice a len cap) (hr : RdS w a (l.map V8)) (hl : l.length = len) (h : K (mk n (up σ d (.string ⟨l.toArray⟩))) w) :
    Oper.wp P ⟨some d, .convert t yt x, ty, pos, aft, g⟩ (mk n σ) w K Q := by
  subst hl
  refine o_val (by
    simp only [execOp, Sem.run_bind, hx]
    cases a with
    | none =>
      have : l = [] := by rcases hr with h | ⟨_, _, _, _, _, h, _⟩ <;> simp_all
      subst this
      rw [run_convert_bytes_string w t yt e none _ cap hs he hd]
      simp [Conv.bytesToString]
      rfl
    | some ad =>
      rw [run_convert_bytes_back w t yt e ad cap l hs he hd (fun j hj => by
        obtain ⟨b, o, ha, hc⟩ := hr.cell (i := j) (v := V8 l[j]) (by simp [hj])
        cases ha
        rw [Addr.add_mid]; exact hc)]
      simp) h
theorem o_s2b {e : TypeId} {s : ByteArray} (H : Hp w0 w S L) (hs : P.underlying t = some .string) (hd : P.underlying yt = some (.slice e)) (he : P.underlying e = some (.int .u8)) (hx : ev n σ x = .string s)
    (h : ∀ b cap ob w', Hp w0 w' S (L ++ [.obj b ob]) → w0.heap.size ≤ b → (∀ w'' : World, w''.heap[b]? = some ob → RdS w'' (some ⟨b, 0, none⟩) (s.data.toList.map V8)) → s.size ≤ cap → K (mk n (up σ d (.slice (some ⟨b, 0, none⟩) s.size cap))) w') :
    Oper.wp P ⟨some d, .convert t yt x, ty, pos, aft, g⟩ (mk n σ) w K Q := by
  have hr := run_bytes_of_string (P := P) w t yt e s hs hd he
  refine o_val (by simp only [execOp, Sem.run_bind, hx, hr, Result.andThen_ok]; rfl)
    (h w.heap.size _ _ _ (H.drew.new _ (.obj w.heap.size (.cells (bytesRow s (grownCap w s.size 0 e)) e ((bytesRow s (grownCap w s.size 0 e)).size, (bytesRow s (grownCap w s.size 0 e)).size + 1))) rfl (heap_alloc_new' w.drew _)) H.size ?_ (grownCap_ge w s.size 0 e))
  intro w'' hw
  refine .inr ⟨_, 0, _, _, _, rfl, hw, fun i v hv => ?_⟩
  rw [List.getElem?_map] at hv
  obtain ⟨u, hu, rfl⟩ := Option.map_eq_some_iff.1 hv
  have hlt := (List.getElem?_eq_some_iff.1 hu).1
  rw [Array.length_toList] at hlt
  rw [Nat.zero_add, bytesRow_at s _ i hlt]
  have : s.data.toList[i]? = some s.data[i] := by simp [hlt]
  rw [this] at hu; cases hu; rfl
theorem o_idxs {s : ByteArray} {k : IntKind} {i : Int} {u : UInt8} (hu : P.underlying t = some .string) (hx : ev n σ x = .string s) (hy : ev n σ y = .int k i) (h0 : 0 ≤ i) (hv : s.data.toList[i.toNat]? = some u)
    (h : K (mk n (up σ d (V8 u))) w) : Oper.wp P ⟨some d, .index t x y, ty, pos, aft, g⟩ (mk n σ) w K Q := by
  refine o_val ?_ h
  have hlt : i.toNat < s.size := by
    have := (List.getElem?_eq_some_iff.1 hv).1
    simpa using this
  have e : s[i.toNat]? = some u := by
    rw [getElem?_pos s i.toNat hlt]
    have hh : i.toNat < s.data.toList.length := by simpa using hlt
    rw [List.getElem?_eq_getElem hh] at hv
    rw [← hv]; rfl
  simp [execOp, hx, hy, Instr.index, asIntOf, run_underlying hu, h0, e]
theorem o_idxa {len sz : Nat} {k : IntKind} {i : Int} {cs : Array Value} {e : TypeId} {v : Value} (hu : P.underlying t = some (.array len e)) (hc : cellTy P e = true) (hsz : cellSz P e = some 1) (hx : ev n σ x = .agg cs) (hy : ev n σ y = .int k i) (h0 : 0 ≤ i) (h1 : i < len) (hv : cs[i.toNat]? = some v)
    (h : K (mk n (up σ d v)) w) : Oper.wp P ⟨some d, .index t x y, ty, pos, aft, g⟩ (mk n σ) w K Q :=
  o_val (by simp [execOp, hx, hy, Instr.index, asIntOf, run_underlying hu, h0, h1, run_sizeOf_sz hsz, part, run_isAgg_cell hc, hv]) h
theorem o_fld {i : Nat} {cs : Array Value} {v : Value} {fs : Array Field} {f : Field} (hu : P.underlying t = some (.struct fs)) (hf : fs[i]? = some f) (hc : cellTy P f.type = true) (hx : ev n σ x = .agg cs) (hv : cs[f.offset]? = some v)
    (h : K (mk n (up σ d v)) w) : Oper.wp P ⟨some d, .field t x i, ty, pos, aft, g⟩ (mk n σ) w K Q :=
  o_val (by simp [execOp, hx, Instr.field, run_underlying hu, hf, asAgg, part, run_isAgg_cell hc, hv]) h
/-- 'api.ID(b)': a slice's address as an array's. -/
theorem o_sap {a : Option Addr} {len cap k : Nat} {e : TypeId} (hu : P.underlying t = some (.array k e)) (hx : ev n σ x = .slice a len cap) (hk : k ≤ len) (h : K (mk n (up σ d (.pointer a))) w) :
    Oper.wp P ⟨some d, .sliceToArrayPointer t x, ty, pos, aft, g⟩ (mk n σ) w K Q :=
  o_val (by simp [execOp, hx, run_arrayAt (P := P) (w := w) t e k a len cap hu hk]) h

/-! ### arrays of bytes compared -/
theorem eqItems_u8 {e : TypeId} (he : P.underlying e = some (.int .u8)) (dd : Nat) (a b : List UInt8) (hab : a.length = b.length) (w : World) :
    ∀ is : List Nat, (∀ i ∈ is, i < a.length) → (Op.eqItems (dd + 1) e 1 (a.map V8).toArray (b.map V8).toArray is).run P w = .ok (is.all fun i => a[i]? == b[i]?) w := by
  intro is
  induction is with
  | nil => intro _; simp [Op.eqItems]
  | cons i is ih =>
    intro h
    have hi := h i (by simp)
    have hca : (part e (a.map V8).toArray (i * 1)).run P w = .ok (V8 (a[i]'hi)) w := by
      have hct : cellTy P e = true := by simp [cellTy, he]
      simp [part, run_isAgg_cell hct, hi]
    have hcb : (part e (b.map V8).toArray (i * 1)).run P w = .ok (V8 (b[i]'(by omega))) w := by
      have hct : cellTy P e = true := by simp [cellTy, he]
      simp [part, run_isAgg_cell hct, show i < b.length by omega]
    have heq : (Op.equalIn (dd + 1) e (V8 (a[i]'hi)) (V8 (b[i]'(by omega)))).run P w = .ok (a[i]'hi == b[i]'(by omega)) w := by
      simp only [Op.equalIn, Sem.run_bind, run_underlying he, Result.andThen_ok]
      simp
      rw [Bool.eq_iff_iff]; simp only [beq_iff_eq]
      rw [← UInt8.toNat_inj]; omega
    have h2 := ih (fun j hj => h j (by simp [hj]))
    simp only [Op.eqItems, Sem.run_bind, hca, hcb, heq, Result.andThen_ok]
    rw [List.all_cons, List.getElem?_eq_getElem hi, List.getElem?_eq_getElem (by omega : i < b.length)]
    by_cases hh : a[i]'hi = b[i]'(by omega)
    · simp [hh, h2]
    · simp [hh]
theorem run_equal_u8s {t e : TypeId} {m : Nat} (hu : P.underlying t = some (.array m e)) (he : P.underlying e = some (.int .u8)) (hc : cellSz P e = some 1) (a b : List UInt8) (ha : a.length = m) (hb : b.length = m) (w : World) :
    (Op.equal t (.agg (a.map V8).toArray) (.agg (b.map V8).toArray)).run P w = .ok (decide (a = b)) w := by
  cases hi : P.info? e with
  | none => simp [cellSz, hi] at hc
  | some i =>
    have hco : P.cellsOf e = 1 := by simpa [cellSz, hi, Program.cellsOf] using hc
    unfold Op.equal Op.maxDepth
    rw [run_equalIn_array w 9999 _ _ hu hi, hco, eqItems_u8 he 9998 a b (by omega) w _ (by simp [ha])]
    congr 1
    rw [Bool.eq_iff_iff]
    simp only [List.all_eq_true, List.mem_range, beq_iff_eq, decide_eq_true_eq]
    constructor
    · intro h
      apply List.ext_getElem?
      intro j
      by_cases hj : j < m
      · exact h j hj
      · rw [List.getElem?_eq_none (by omega), List.getElem?_eq_none (by omega)]
    · rintro rfl j _; rfl
theorem eqGuardType_u8s {t e : TypeId} {m : Nat} (hu : P.underlying t = some (.array m e)) (he : P.underlying e = some (.int .u8)) (dd : Nat) : P.eqGuardType (dd + 2) t = false := by
  simp [Program.eqGuardType, hu, he]
theorem run_eqGuard_u8s {t e : TypeId} {m : Nat} {op : BinOp} (hu : P.underlying t = some (.array m e)) (he : P.underlying e = some (.int .u8)) (x y : Operand) (a b : Array Value) (w : World) :
    (eqGuard op t x y (.agg a) (.agg b)).run P w = .ok () w := by
  have h1 : P.eqGuardType P.depth t = false := by
    unfold Program.depth
    exact eqGuardType_u8s hu he _
  cases op <;> simp [eqGuard, h1]
theorem o_eqa {e : TypeId} {m : Nat} {a b : List UInt8} (hu : P.underlying t = some (.array m e)) (he : P.underlying e = some (.int .u8)) (hc : cellSz P e = some 1) (hx : ev n σ x = .agg (a.map V8).toArray) (hy : ev n σ y = .agg (b.map V8).toArray) (ha : a.length = m) (hb : b.length = m)
    (h : K (mk n (up σ d (.bool (decide (a = b))))) w) : Oper.wp P ⟨some d, .binOp .eql t x y yt, ty, pos, aft, g⟩ (mk n σ) w K Q :=
  o_val (by
    have e2 : binOp .eql t (.agg (a.map V8).toArray) (.agg (b.map V8).toArray) = (do pure (.bool (← Op.equal t (.agg (a.map V8).toArray) (.agg (b.map V8).toArray)))) := rfl
    simp only [execOp, hx, hy, Sem.run_bind, run_eqGuard_u8s hu he, Result.andThen_ok, e2, run_equal_u8s hu he hc a b ha hb]
    simp) h
theorem o_nea {e : TypeId} {m : Nat} {a b : List UInt8} (hu : P.underlying t = some (.array m e)) (he : P.underlying e = some (.int .u8)) (hc : cellSz P e = some 1) (hx : ev n σ x = .agg (a.map V8).toArray) (hy : ev n σ y = .agg (b.map V8).toArray) (ha : a.length = m) (hb : b.length = m)
    (h : K (mk n (up σ d (.bool (!decide (a = b))))) w) : Oper.wp P ⟨some d, .binOp .neq t x y yt, ty, pos, aft, g⟩ (mk n σ) w K Q :=
  o_val (by
    have e2 : binOp .neq t (.agg (a.map V8).toArray) (.agg (b.map V8).toArray) = (do pure (.bool (!(← Op.equal t (.agg (a.map V8).toArray) (.agg (b.map V8).toArray))))) := rfl
    simp only [execOp, hx, hy, Sem.run_bind, run_eqGuard_u8s hu he, Result.andThen_ok, e2, run_equal_u8s hu he hc a b ha hb]
    simp) h
/-- pointers held against nil. -/
theorem o_pnil {e : TypeId} {a : Option Addr} (hu : P.underlying t = some (.pointer e)) (hx : ev n σ x = .pointer a) (hy : ev n σ y = .pointer none) (h : K (mk n (up σ d (.bool a.isNone))) w) :
    Oper.wp P ⟨some d, .binOp .eql t x y yt, ty, pos, aft, g⟩ (mk n σ) w K Q :=
  o_val (by
    have e1 : (Op.equal t (.pointer a) (.pointer none)).run P w = .ok a.isNone w := by
      unfold Op.equal Op.maxDepth Op.equalIn
      rw [Sem.run_bind, run_underlying hu]
      cases a <;> simp
    have e2 : binOp .eql t (.pointer a) (.pointer none) = (do pure (.bool (← Op.equal t (.pointer a) (.pointer none)))) := by cases a <;> rfl
    simp only [execOp, hx, hy, Sem.run_bind, e2]
    simp [eqGuard, e1]) h

/-! ### a result that lies in memory -/
theorem e_retc {fn : Func} {R : Ending → World → Prop} {tt : Tmp} {rt : TypeId} {b i k : Nat} {C : List Value} {T : TypeId} (hres : fn.results = #[.cell tt rt]) (H : Hp w0 w S L) (hi : L[i]? = some (.blk b C T)) (hv : ev n σ (.tmp tt) = .pointer (some ⟨b, 0, none⟩)) (hr : rowTy P rt = some k) (hk : k = C.length)
    (hR : R (.returned (.agg C.toArray)) w) : bodyPost P fn R .ret (mk n σ) w := by
  refine ⟨mk_defers n σ, .agg C.toArray, ?_, hR⟩
  have h1 := run_loadAt_row (P := P) (o := 0) (H.blk hi) hr (by omega)
  simp only [Instr.loadAt, Instr.sureAddr, Sem.run_bind, Sem.run_pure, Result.andThen_ok] at h1
  have h2 : (mk n σ).tmps.getD tt undef = .pointer (some ⟨b, 0, none⟩) := by rw [← hv, ← mk_tmp]
  have h3 : C.toArray = ((C.drop 0).take k).toArray := by simp [hk]
  rw [h3]
  simp only [results, hres]
  simp only [mk] at h2 ⊢
  simp [Array.mapM_eq_foldlM, asAddr, h1]
  rw [← Array.getD_eq_getD_getElem?, h2]
  simp [h1]

/-! ### regions that draw: what only looks may be taken first -/
theorem wp_held {id : Nat} {l : List Oper} {a : Act} (S' : World → Prop) (hm : P.follows .mixedOrders = true)
    (h : wpAnyH P .any l.toArray Q S' l.length (Array.replicate l.length false) a w.drew) : (Code.region id l.toArray true).wp P Q a w :=
  wp_region_held hm (by simpa using h)
end
end Go.Proofs.Ytjmbbhnpfmblpaa
