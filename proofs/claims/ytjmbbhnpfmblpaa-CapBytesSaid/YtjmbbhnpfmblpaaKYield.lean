import Derived.Test.YtjmbbhnpfmblpaaKMem3
import Derived.StillTail
/- The rules that only look, as equations on the run; and the steps of a region that draws its order. A library. -/
namespace Go.Proofs.Ytjmbbhnpfmblpaa
open Go
section
variable {P : Program} {Q : Exit → Act → World → Prop} {n : Nat} {σ : Nat → Value} {w w0 : World} {K : Act → World → Prop}
  {ty : TypeId} {pos : String} {aft : Array Edge} {g : Option (Nat × Bool)} {d : Nat} {t yt : TypeId} {x y z : Operand} {S : List Nat} {L : List Ch} {op : BinOp}
theorem r_mv {x : Operand}  :
    (execOp (ev n σ) ⟨some d, .move x, ty, pos, aft, g⟩).run P w = .ok (.value ((ev n σ x))) w :=
  (by simp [execOp])

theorem r_as {x : Operand}  :
    (execOp (ev n σ) ⟨some d, .assign x, ty, pos, aft, g⟩).run P w = .ok (.value ((ev n σ x))) w :=
  (by simp [execOp])

theorem r_pick {c x y : Operand} {b : Bool} (hc : ev n σ c = .bool b)  :
    (execOp (ev n σ) ⟨some d, .pick c x y, ty, pos, aft, g⟩).run P w = .ok (.value ((bif b then ev n σ x else ev n σ y))) w :=
  (by cases b <;> simp [execOp, hc, asBool])

theorem r_ext {x : Operand} {i : Nat} {vs : Array Value} {v : Value} (hx : ev n σ x = .tuple vs) (hv : vs[i]? = some v)  :
    (execOp (ev n σ) ⟨some d, .extract x i, ty, pos, aft, g⟩).run P w = .ok (.value (v)) w :=
  (by simp [execOp, hx, Instr.extract, hv])

theorem r_nilc {x : Operand} {a : Addr} (hx : ev n σ x = .pointer (some a))  :
    (execOp (ev n σ) ⟨some d, .nilCheck x, ty, pos, aft, g⟩).run P w = .ok (.value ((.pointer (some a)))) w :=
  (by simp [execOp, hx])

theorem r_not {x : Operand} {b : Bool} {t : TypeId} (hx : ev n σ x = .bool b)  :
    (execOp (ev n σ) ⟨some d, .unOp .not t x, ty, pos, aft, g⟩).run P w = .ok (.value ((.bool (!b)))) w :=
  (by simp [execOp, hx, Op.unary])

theorem r_bin {k : IntKind} {a b : Int} {v : Value} (hx : ev n σ x = .int k a) (hy : ev n σ y = .int k b)
    (hr : ∀ w : World, (binOp op t (.int k a) (.int k b)).run P w = .ok v w)  :
    (execOp (ev n σ) ⟨some d, .binOp op t x y yt, ty, pos, aft, g⟩).run P w = .ok (.value (v)) w :=
  (by
    have he : (eqGuard op t x y (.int k a) (.int k b)).run P w = .ok () w := by
      unfold eqGuard
      cases op <;> simp
    simp [execOp, hx, hy, he, hr])

theorem r_shift {k yk : IntKind} {a b : Int} {v : Value} (hx : ev n σ x = .int k a) (hy : ev n σ y = .int yk b) (ho : op = .shl ∨ op = .shr)
    (hr : ∀ w : World, (Op.shift op k a yk b).run P w = .ok v w)  :
    (execOp (ev n σ) ⟨some d, .binOp op t x y yt, ty, pos, aft, g⟩).run P w = .ok (.value (v)) w :=
  (by
    rcases ho with rfl | rfl <;> simp [execOp, hx, hy, eqGuard, binOp, hr])

theorem r_un {k : IntKind} {a : Int} {v : Value} {uo : UnOp} (hx : ev n σ x = .int k a)
    (hr : ∀ w : World, (Op.unary uo (.int k a)).run P w = .ok v w)  :
    (execOp (ev n σ) ⟨some d, .unOp uo t x, ty, pos, aft, g⟩).run P w = .ok (.value (v)) w :=
  (by simp [execOp, hx, hr])

theorem r_conv {k : IntKind} {a : Int} {ds : TypeDesc} {k' : IntKind} {v : Int} (hs : P.underlying t = some ds) (hd : P.underlying yt = some (.int k')) (hx : ev n σ x = .int k a)
    (hr : k'.wrap a = v)  :
    (execOp (ev n σ) ⟨some d, .convert t yt x, ty, pos, aft, g⟩).run P w = .ok (.value ((.int k' v))) w :=
  (by
    have h1 : (underlying t).run P w = .ok ds w := run_underlying hs w
    have h2 : (underlying yt).run P w = .ok (.int k') w := run_underlying hd w
    cases ds <;> simp [execOp, hx, convert, h1, h2, Conv.intToInt, hr])

theorem r_beq {a b : Bool} (hu : P.underlying t = some .bool) (hx : ev n σ x = .bool a) (hy : ev n σ y = .bool b)  :
    (execOp (ev n σ) ⟨some d, .binOp .eql t x y yt, ty, pos, aft, g⟩).run P w = .ok (.value ((.bool (a == b)))) w :=
  (by
    have e1 : (Op.equal t (.bool a) (.bool b)).run P w = .ok (a == b) w := run_equal_bool hu a b w
    have e2 : binOp .eql t (.bool a) (.bool b) = (do pure (.bool (← Op.equal t (.bool a) (.bool b)))) := rfl
    simp [execOp, hx, hy, eqGuard, e2, e1])

theorem r_bne {a b : Bool} (hu : P.underlying t = some .bool) (hx : ev n σ x = .bool a) (hy : ev n σ y = .bool b)  :
    (execOp (ev n σ) ⟨some d, .binOp .neq t x y yt, ty, pos, aft, g⟩).run P w = .ok (.value ((.bool (!(a == b))))) w :=
  (by
    have e1 : (Op.equal t (.bool a) (.bool b)).run P w = .ok (a == b) w := run_equal_bool hu a b w
    have e2 : binOp .neq t (.bool a) (.bool b) = (do pure (.bool (!(← Op.equal t (.bool a) (.bool b))))) := rfl
    simp [execOp, hx, hy, eqGuard, e2, e1])

theorem r_str {a b : ByteArray} {v : Value} (hx : ev n σ x = .string a) (hy : ev n σ y = .string b)
    (hr : ∀ w : World, (Op.stringOp op a b).run P w = .ok v w) (ho : op ≠ .shl ∧ op ≠ .shr)  :
    (execOp (ev n σ) ⟨some d, .binOp op t x y yt, ty, pos, aft, g⟩).run P w = .ok (.value (v)) w :=
  (by
    have he : (eqGuard op t x y (.string a) (.string b)).run P w = .ok () w := by
      unfold eqGuard
      cases op <;> simp
    cases op <;> simp_all [execOp, binOp])

theorem r_fa {b o i k : Nat} (hx : ev n σ x = .pointer (some ⟨b, o, none⟩)) (hf : fieldOff P t i = some k)  :
    (execOp (ev n σ) ⟨some d, .fieldAddr t x i, ty, pos, aft, g⟩).run P w = .ok (.value ((.pointer (some ⟨b, o + k, none⟩)))) w := by
  unfold fieldOff at hf
  cases hu : P.underlying t with
  | none => simp [hu] at hf
  | some ds =>
    cases ds <;> simp only [hu] at hf <;> try (cases hf)
    rename_i fs
    cases hfs : fs[i]? with
    | none => simp [hfs] at hf
    | some f =>
      cases hj : P.info? f.type with
      | none => simp [hfs, hj] at hf
      | some j =>
        simp only [hfs, hj, Option.bind_some] at hf
        split at hf
        · cases hf
        · cases hf
          rename_i hsz
          simp [execOp, hx, Instr.fieldAt, run_underlying hu, hfs, Instr.sureAddr, fieldPlace, sizeOf, typeInfo, hj, hsz, Addr.add_mid]

theorem r_ia {b o len sz : Nat} {k : IntKind} {i : Int} (hx : ev n σ x = .pointer (some ⟨b, o, none⟩)) (hy : ev n σ y = .int k i) (ha : arrOf P t = some (len, sz)) (h0 : 0 ≤ i) (h1 : i < len)  :
    (execOp (ev n σ) ⟨some d, .indexAddr t x y, ty, pos, aft, g⟩).run P w = .ok (.value ((.pointer (some ⟨b, o + i.toNat * sz, none⟩)))) w := by
  unfold arrOf at ha
  cases hu : P.underlying t with
  | none => simp [hu] at ha
  | some ds =>
    cases ds <;> simp only [hu] at ha <;> try (cases ha)
    rename_i l e
    cases hj : P.info? e with
    | none => simp [hj] at ha
    | some j =>
      simp only [hj, Option.map_some, Option.some.injEq, Prod.mk.injEq] at ha
      obtain ⟨rfl, rfl⟩ := ha
      simp [execOp, hx, hy, Instr.indexAt, run_underlying hu, asIntOf, Instr.sureAddr, h0, h1, sizeOf, typeInfo, hj, Addr.add_mid]

theorem r_ld {b o i : Nat} {C : List Value} {T : TypeId} {v : Value} (H : Hp w0 w S L) (hi : L[i]? = some (.blk b C T)) (hx : ev n σ x = .pointer (some ⟨b, o, none⟩)) (ht : cellTy P t = true) (hv : C[o]? = some v)  :
    (execOp (ev n σ) ⟨some d, .load t x, ty, pos, aft, g⟩).run P w = .ok (.value (v)) w :=
  (by
    have hc : w.cell? ⟨b, o, none⟩ = some v := by simp [World.cell?, H.blk hi, hv]
    simp [execOp, hx, run_loadAt_cell ht hc])

theorem r_ldr {b o i k : Nat} {C : List Value} {T : TypeId} (H : Hp w0 w S L) (hi : L[i]? = some (.blk b C T)) (hx : ev n σ x = .pointer (some ⟨b, o, none⟩)) (ht : rowTy P t = some k) (hk : o + k ≤ C.length)  :
    (execOp (ev n σ) ⟨some d, .load t x, ty, pos, aft, g⟩).run P w = .ok (.value ((.agg ((C.drop o).take k).toArray))) w :=
  (by simp [execOp, hx, run_loadAt_row (H.blk hi) ht hk])

theorem r_lds {b o i : Nat} {a : Option Addr} {vs : List Value} {v : Value} (hr : RdS w a vs) (ha : a = some ⟨b, o, none⟩) (hx : ev n σ x = .pointer (some ⟨b, o + i, none⟩)) (ht : cellTy P t = true) (hv : vs[i]? = some v)  :
    (execOp (ev n σ) ⟨some d, .load t x, ty, pos, aft, g⟩).run P w = .ok (.value (v)) w :=
  (by
    obtain ⟨b', o', ha', hc⟩ := hr.cell hv
    rw [ha] at ha'; cases ha'
    simp [execOp, hx, run_loadAt_cell ht hc])

theorem r_ldsr {b o i k : Nat} {a : Option Addr} {vs : List Value} (hr : RdS w a vs) (ha : a = some ⟨b, o, none⟩) (hx : ev n σ x = .pointer (some ⟨b, o + i, none⟩)) (ht : rowTy P t = some k) (hk0 : 0 < k) (hk : i + k ≤ vs.length)  :
    (execOp (ev n σ) ⟨some d, .load t x, ty, pos, aft, g⟩).run P w = .ok (.value ((.agg ((vs.drop i).take k).toArray))) w := by
  rcases hr with rfl | ⟨b', o', C, T, fr, ha', hb, hc⟩
  · simp at hk; omega
  · rw [ha] at ha'; cases ha'
    have hlen : o + vs.length ≤ C.size := by
      have := hc (vs.length - 1) (vs[vs.length - 1]'(by omega)) (List.getElem?_eq_getElem (by omega))
      have := (Array.getElem?_eq_some_iff.1 this).1
      omega
    have e := run_loadAt_row (P := P) (t := t) (k := k) (b := b) (o := o + i) (C := C.toList) (T := T) (fr := fr) (w := w) (by simpa using hb) ht (by simp; omega)
    have e2 : (C.toList.drop (o + i)).take k = (vs.drop i).take k := by
      apply List.ext_getElem?
      intro j
      by_cases hj : j < k
      · rw [List.getElem?_take_of_lt hj, List.getElem?_take_of_lt hj, List.getElem?_drop, List.getElem?_drop, List.getElem?_eq_getElem (l := vs) (by omega)]
        have := hc (i + j) _ (List.getElem?_eq_getElem (by omega))
        simpa [Nat.add_assoc] using this
      · simp [List.getElem?_take, hj]
    rw [e2] at e
    simp [execOp, hx, e]

theorem r_sl {lo hi mx : Option Operand} {a : Option Addr} {len cap sz l h m : Nat} {lv hv mv : Option Value} (hx : ev n σ x = .slice a len cap) (ht : eltOf P t = some sz)
    (hl : lo.map (ev n σ) = lv) (hh : hi.map (ev n σ) = hv) (hm : mx.map (ev n σ) = mv) (hb : ∀ w, (Instr.sliceBounds true len cap lv hv mv).run P w = .ok (l, h, m) w)  :
    (execOp (ev n σ) ⟨some d, .slice t x lo hi mx, ty, pos, aft, g⟩).run P w = .ok (.value ((.slice (sa a l m sz) (h - l) (m - l)))) w := by
  unfold eltOf at ht
  cases hu : P.underlying t with
  | none => simp [hu] at ht
  | some ds =>
    cases ds <;> simp only [hu] at ht <;> try (cases ht)
    rename_i e
    cases hj : P.info? e with
    | none => simp [hj] at ht
    | some j =>
      simp only [hj, Option.map_some, Option.some.injEq] at ht
      subst ht
      simp [execOp, hx, hl, hh, hm, Instr.sliceAt, Instr.slice, run_underlying hu, hb, sizeOf, typeInfo, hj, sa]

theorem r_sla {lo hi mx : Option Operand} {b o len sz l h m : Nat} {lv hv mv : Option Value} (hx : ev n σ x = .pointer (some ⟨b, o, none⟩)) (ht : arrOf P t = some (len, sz))
    (hl : lo.map (ev n σ) = lv) (hh : hi.map (ev n σ) = hv) (hm : mx.map (ev n σ) = mv) (hb : ∀ w, (Instr.sliceBounds false len len lv hv mv).run P w = .ok (l, h, m) w)  :
    (execOp (ev n σ) ⟨some d, .slice t x lo hi mx, ty, pos, aft, g⟩).run P w = .ok (.value ((.slice (sa (some ⟨b, o, none⟩) l m sz) (h - l) (m - l)))) w := by
  unfold arrOf at ht
  cases hu : P.underlying t with
  | none => simp [hu] at ht
  | some ds =>
    cases ds <;> simp only [hu] at ht <;> try (cases ht)
    rename_i n' e
    cases hj : P.info? e with
    | none => simp [hj] at ht
    | some j =>
      simp only [hj, Option.map_some, Option.some.injEq, Prod.mk.injEq] at ht
      obtain ⟨rfl, rfl⟩ := ht
      by_cases hml : m = l
      · simp [execOp, hx, hl, hh, hm, Instr.sliceAt, Instr.sureAddr, run_underlying hu, hb, sizeOf, typeInfo, hj, sa, hml]
      · simp [execOp, hx, hl, hh, hm, Instr.sliceAt, Instr.sureAddr, run_underlying hu, hb, sizeOf, typeInfo, hj, sa, hml]

theorem r_sls {lo hi : Option Operand} {s : ByteArray} {l h m : Nat} {lv hv : Option Value} (hu : P.underlying t = some .string) (hx : ev n σ x = .string s)
    (hl : lo.map (ev n σ) = lv) (hh : hi.map (ev n σ) = hv) (hb : ∀ w, (Instr.sliceBounds false s.size s.size lv hv none).run P w = .ok (l, h, m) w)  :
    (execOp (ev n σ) ⟨some d, .slice t x lo hi none, ty, pos, aft, g⟩).run P w = .ok (.value ((.string (s.extract l h)))) w :=
  (by simp [execOp, hx, hl, hh, Instr.sliceAt, Instr.slice, run_underlying hu, hb])

theorem r_lens {a : Option Addr} {len cap : Nat} {sz : Nat} (ht : eltOf P t = some sz) (hx : ev n σ x = .slice a len cap)  :
    (execOp (ev n σ) ⟨some d, .call ⟨.builtin .len, #[x], #[t]⟩, ty, pos, aft, g⟩).run P w = .ok (.value ((VI len))) w :=
  (run_builtin (s := Builtin.len_ #[t] ty #[.slice a len cap]) (vs := #[.slice a len cap]) (by simp [hx]) (fun _ => rfl) (by
    unfold eltOf at ht
    cases hu : P.underlying t with
    | none => simp [hu] at ht
    | some ds =>
      cases ds <;> simp only [hu] at ht <;> try (cases ht)
      simp [Builtin.len_, run_underlying hu, goInt]))

theorem r_caps {a : Option Addr} {len cap : Nat} {sz : Nat} (ht : eltOf P t = some sz) (hx : ev n σ x = .slice a len cap)  :
    (execOp (ev n σ) ⟨some d, .call ⟨.builtin .cap, #[x], #[t]⟩, ty, pos, aft, g⟩).run P w = .ok (.value ((VI cap))) w :=
  (run_builtin (s := Builtin.cap_ #[t] ty #[.slice a len cap]) (vs := #[.slice a len cap]) (by simp [hx]) (fun _ => rfl) (by
    unfold eltOf at ht
    cases hu : P.underlying t with
    | none => simp [hu] at ht
    | some ds =>
      cases ds <;> simp only [hu] at ht <;> try (cases ht)
      simp [Builtin.cap_, run_underlying hu, goInt]))

theorem r_lenstr {s : ByteArray} (hu : P.underlying t = some .string) (hx : ev n σ x = .string s)  :
    (execOp (ev n σ) ⟨some d, .call ⟨.builtin .len, #[x], #[t]⟩, ty, pos, aft, g⟩).run P w = .ok (.value ((VI s.size))) w :=
  (run_builtin (s := Builtin.len_ #[t] ty #[.string s]) (vs := #[.string s]) (by simp [hx]) (fun _ => rfl) (by
      simp [Builtin.len_, run_underlying hu, goInt]))

theorem r_lena {len sz : Nat} (ht : arrOf P t = some (len, sz))  :
    (execOp (ev n σ) ⟨some d, .call ⟨.builtin .len, #[x], #[t]⟩, ty, pos, aft, g⟩).run P w = .ok (.value ((VI len))) w :=
  (run_builtin (s := Builtin.len_ #[t] ty #[ev n σ x]) (vs := #[ev n σ x]) (by simp) (fun _ => rfl) (by
    unfold arrOf at ht
    cases hu : P.underlying t with
    | none => simp [hu] at ht
    | some ds =>
      cases ds <;> simp only [hu] at ht <;> try (cases ht)
      rename_i n' e
      cases hj : P.info? e with
      | none => simp [hj] at ht
      | some j =>
        simp only [hj, Option.map_some, Option.some.injEq, Prod.mk.injEq] at ht
        obtain ⟨rfl, rfl⟩ := ht
        simp [Builtin.len_, run_underlying hu, goInt]))

theorem r_min {k : IntKind} {a b : Int} {ats : Array TypeId} (hx : ev n σ x = .int k a) (hy : ev n σ y = .int k b)  :
    (execOp (ev n σ) ⟨some d, .call ⟨.builtin .min, #[x, y], ats⟩, ty, pos, aft, g⟩).run P w = .ok (.value ((.int k (if b < a then b else a)))) w :=
  (run_builtin (s := Builtin.min_ ats ty #[.int k a, .int k b]) (vs := #[.int k a, .int k b]) (by simp [hx, hy]) (fun _ => rfl) (run_min_int2 _ ats ty k k a b))

theorem r_max {k : IntKind} {a b : Int} {ats : Array TypeId} (hx : ev n σ x = .int k a) (hy : ev n σ y = .int k b)  :
    (execOp (ev n σ) ⟨some d, .call ⟨.builtin .max, #[x, y], ats⟩, ty, pos, aft, g⟩).run P w = .ok (.value ((.int k (if a < b then b else a)))) w :=
  (run_builtin (s := Builtin.max_ ats ty #[.int k a, .int k b]) (vs := #[.int k a, .int k b]) (by simp [hx, hy]) (fun _ => rfl) run_max_int2')

theorem r_bld {parts : Array (Nat × Operand)} {pv : List (Nat × Value)} {cells : Array Value}
    (hp0 : pvs n σ parts.toList = pv) (hf : P.built t pv = some cells)  :
    (execOp (ev n σ) ⟨some d, .build t parts, ty, pos, aft, g⟩).run P w = .ok (.value ((.agg cells))) w := by
  have hp : (parts.map fun (i, x) => (i, ev n σ x)).toList = pv := by rw [← hp0, pvs_eq, Array.toList_map]
  have := run_build (P := P) w t (parts.map fun (i, x) => (i, ev n σ x)) cells (by rw [hp]; exact hf)
  simp only [execOp, Sem.run_bind, this]
  simp

theorem r_b2s {e : TypeId} {a : Option Addr} {len cap : Nat} {l : List UInt8} (hs : P.underlying t = some (.slice e)) (he : P.underlying e = some (.int .u8)) (hd : P.underlying yt = some .string)
    (hx : ev n σ x = .slice a len cap) (hr : RdS w a (l.map V8)) (hl : l.length = len)  :
    (execOp (ev n σ) ⟨some d, .convert t yt x, ty, pos, aft, g⟩).run P w = .ok (.value ((.string ⟨l.toArray⟩))) w := by
  subst hl
  exact (by
    simp only [execOp, Sem.run_bind, hx]
    cases a with
    | none =>
      have : l = [] := by rcases hr with h | ⟨_, _, _, _, _, h, _⟩ <;> simp_all
      subst this
      rw [run_convert_bytes_string w t yt e none _ cap hs he hd]
      simp [Conv.bytesToString]
      rfl
    | some ad =>
      rw [run_convert_bytes_back w t yt e ad cap l hs he hd (fun j hj => by
        obtain ⟨b, o, ha, hc⟩ := hr.cell (i := j) (v := V8 l[j]) (by simp [hj])
        cases ha
        rw [Addr.add_mid]; exact hc)]
      simp)

theorem r_idxs {s : ByteArray} {k : IntKind} {i : Int} {u : UInt8} (hu : P.underlying t = some .string) (hx : ev n σ x = .string s) (hy : ev n σ y = .int k i) (h0 : 0 ≤ i) (hv : s.data.toList[i.toNat]? = some u)  :
    (execOp (ev n σ) ⟨some d, .index t x y, ty, pos, aft, g⟩).run P w = .ok (.value ((V8 u))) w := by
  have hlt : i.toNat < s.size := by
    have := (List.getElem?_eq_some_iff.1 hv).1
    simpa using this
  have e : s[i.toNat]? = some u := by
    rw [getElem?_pos s i.toNat hlt]
    have hh : i.toNat < s.data.toList.length := by simpa using hlt
    rw [List.getElem?_eq_getElem hh] at hv
    rw [← hv]; rfl
  simp [execOp, hx, hy, Instr.index, asIntOf, run_underlying hu, h0, e]

theorem r_idxa {len sz : Nat} {k : IntKind} {i : Int} {cs : Array Value} {e : TypeId} {v : Value} (hu : P.underlying t = some (.array len e)) (hc : cellTy P e = true) (hsz : cellSz P e = some 1) (hx : ev n σ x = .agg cs) (hy : ev n σ y = .int k i) (h0 : 0 ≤ i) (h1 : i < len) (hv : cs[i.toNat]? = some v)  :
    (execOp (ev n σ) ⟨some d, .index t x y, ty, pos, aft, g⟩).run P w = .ok (.value (v)) w :=
  (by simp [execOp, hx, hy, Instr.index, asIntOf, run_underlying hu, h0, h1, run_sizeOf_sz hsz, part, run_isAgg_cell hc, hv])

theorem r_fld {i : Nat} {cs : Array Value} {v : Value} {fs : Array Field} {f : Field} (hu : P.underlying t = some (.struct fs)) (hf : fs[i]? = some f) (hc : cellTy P f.type = true) (hx : ev n σ x = .agg cs) (hv : cs[f.offset]? = some v)  :
    (execOp (ev n σ) ⟨some d, .field t x i, ty, pos, aft, g⟩).run P w = .ok (.value (v)) w :=
  (by simp [execOp, hx, Instr.field, run_underlying hu, hf, asAgg, part, run_isAgg_cell hc, hv])

theorem r_sap {a : Option Addr} {len cap k : Nat} {e : TypeId} (hu : P.underlying t = some (.array k e)) (hx : ev n σ x = .slice a len cap) (hk : k ≤ len)  :
    (execOp (ev n σ) ⟨some d, .sliceToArrayPointer t x, ty, pos, aft, g⟩).run P w = .ok (.value ((.pointer a))) w :=
  (by simp [execOp, hx, run_arrayAt (P := P) (w := w) t e k a len cap hu hk])

theorem r_eqa {e : TypeId} {m : Nat} {a b : List UInt8} (hu : P.underlying t = some (.array m e)) (he : P.underlying e = some (.int .u8)) (hc : cellSz P e = some 1) (hx : ev n σ x = .agg (a.map V8).toArray) (hy : ev n σ y = .agg (b.map V8).toArray) (ha : a.length = m) (hb : b.length = m)  :
    (execOp (ev n σ) ⟨some d, .binOp .eql t x y yt, ty, pos, aft, g⟩).run P w = .ok (.value ((.bool (decide (a = b))))) w :=
  (by
    have e2 : binOp .eql t (.agg (a.map V8).toArray) (.agg (b.map V8).toArray) = (do pure (.bool (← Op.equal t (.agg (a.map V8).toArray) (.agg (b.map V8).toArray)))) := rfl
    simp only [execOp, hx, hy, Sem.run_bind, run_eqGuard_u8s hu he, Result.andThen_ok, e2, run_equal_u8s hu he hc a b ha hb]
    simp)

theorem r_nea {e : TypeId} {m : Nat} {a b : List UInt8} (hu : P.underlying t = some (.array m e)) (he : P.underlying e = some (.int .u8)) (hc : cellSz P e = some 1) (hx : ev n σ x = .agg (a.map V8).toArray) (hy : ev n σ y = .agg (b.map V8).toArray) (ha : a.length = m) (hb : b.length = m)  :
    (execOp (ev n σ) ⟨some d, .binOp .neq t x y yt, ty, pos, aft, g⟩).run P w = .ok (.value ((.bool (!decide (a = b))))) w :=
  (by
    have e2 : binOp .neq t (.agg (a.map V8).toArray) (.agg (b.map V8).toArray) = (do pure (.bool (!(← Op.equal t (.agg (a.map V8).toArray) (.agg (b.map V8).toArray))))) := rfl
    simp only [execOp, hx, hy, Sem.run_bind, run_eqGuard_u8s hu he, Result.andThen_ok, e2, run_equal_u8s hu he hc a b ha hb]
    simp)

theorem r_pnil {e : TypeId} {a : Option Addr} (hu : P.underlying t = some (.pointer e)) (hx : ev n σ x = .pointer a) (hy : ev n σ y = .pointer none)  :
    (execOp (ev n σ) ⟨some d, .binOp .eql t x y yt, ty, pos, aft, g⟩).run P w = .ok (.value ((.bool a.isNone))) w :=
  (by
    have e1 : (Op.equal t (.pointer a) (.pointer none)).run P w = .ok a.isNone w := by
      unfold Op.equal Op.maxDepth Op.equalIn
      rw [Sem.run_bind, run_underlying hu]
      cases a <;> simp
    have e2 : binOp .eql t (.pointer a) (.pointer none) = (do pure (.bool (← Op.equal t (.pointer a) (.pointer none)))) := by cases a <;> rfl
    simp only [execOp, hx, hy, Sem.run_bind, e2]
    simp [eqGuard, e1])

theorem r_is {a : Option Addr} {b o len cap sz : Nat} {k : IntKind} {i : Int} (hx : ev n σ x = .slice a len cap) (hy : ev n σ y = .int k i) (ha : eltOf P t = some sz) (hb : a = some ⟨b, o, none⟩) (h0 : 0 ≤ i) (h1 : i < len) :
    (execOp (ev n σ) ⟨some d, .indexAddr t x y, ty, pos, aft, g⟩).run P w = .ok (.value (.pointer (some ⟨b, o + i.toNat * sz, none⟩))) w := by
  subst hb
  unfold eltOf at ha
  cases hu : P.underlying t with
  | none => simp [hu] at ha
  | some ds =>
    cases ds <;> simp only [hu] at ha <;> try (cases ha)
    rename_i e
    cases hj : P.info? e with
    | none => simp [hj] at ha
    | some j =>
      simp only [hj, Option.map_some, Option.some.injEq] at ha
      subst ha
      simp [execOp, hx, hy, Instr.indexAt, run_underlying hu, asIntOf, h0, h1, sizeOf, typeInfo, hj, Addr.add_mid]

/-! ### the steps of a region that draws -/
variable {ops : Array Oper} {S' : World → Prop} {fuel : Nat} {listed : Array Bool} {dst : Option Tmp} {oo : Op}
/-- operation i only looks, and may be taken first. -/
theorem t_take (i : Nat) {v : Value} (hi : ops[i]? = some ⟨some d, oo, ty, pos, aft, none⟩) (hs : Region.noSelect ops = true) (hf : Region.free .any ops listed i = true) (hr : (Region.ready .any ops listed).contains i = true)
    (hQ : ∀ c a w, Q (.panic c) (a.put (some d) v) w → Q (.panic c) a w)
    (hy : ∀ w, S' w → (execOp (ev n σ) ⟨some d, oo, ty, pos, aft, none⟩).run P w = .ok (.value v) w) (hS : S' w)
    (h : wpAnyH P .any ops Q S' fuel (listed.setIfInBounds i true) (mk n (up σ d v)) w) : wpAnyH P .any ops Q S' (fuel + 1) listed (mk n σ) w :=
  wpAnyH_take (v := v) hi hs hf hr hQ (.inl ⟨rfl, fun w hw => by rw [mk_evalf]; exact hy w hw⟩) hS (by show wpAnyH P .any ops Q S' fuel _ ((mk n σ).put (some d) v) w; rw [mk_put]; exact h)
/-- .. guarded, and wanted. -/
theorem t_takeg (i : Nat) {v : Value} {j : Nat} {b : Bool} (hi : ops[i]? = some ⟨some d, oo, ty, pos, aft, some (j, b)⟩) (hs : Region.noSelect ops = true) (hf : Region.free .any ops listed i = true) (hr : (Region.ready .any ops listed).contains i = true)
    (hQ : ∀ c a w, Q (.panic c) (a.put (some d) v) w → Q (.panic c) a w) (hg : yielded ops (mk n σ).tmps j = some b)
    (hy : ∀ w, S' w → (execOp (ev n σ) ⟨some d, oo, ty, pos, aft, some (j, b)⟩).run P w = .ok (.value v) w) (hS : S' w)
    (h : wpAnyH P .any ops Q S' fuel (listed.setIfInBounds i true) (mk n (up σ d v)) w) : wpAnyH P .any ops Q S' (fuel + 1) listed (mk n σ) w :=
  wpAnyH_take (v := v) hi hs hf hr hQ (.inl ⟨by simp [Region.wanted, hg], fun w hw => by rw [mk_evalf]; exact hy w hw⟩) hS (by show wpAnyH P .any ops Q S' fuel _ ((mk n σ).put (some d) v) w; rw [mk_put]; exact h)
/-- .. guarded, and not wanted. -/
theorem t_no (i : Nat) {j : Nat} {b c : Bool} (hi : ops[i]? = some ⟨some d, oo, ty, pos, aft, some (j, b)⟩) (hs : Region.noSelect ops = true) (hf : Region.free .any ops listed i = true) (hr : (Region.ready .any ops listed).contains i = true)
    (hQ : ∀ c a w, Q (.panic c) (a.put (some d) undef) w → Q (.panic c) a w) (hg : yielded ops (mk n σ).tmps j = some c) (hc : (c == b) = false) (hS : S' w)
    (h : wpAnyH P .any ops Q S' fuel (listed.setIfInBounds i true) (mk n (up σ d undef)) w) : wpAnyH P .any ops Q S' (fuel + 1) listed (mk n σ) w :=
  wpAnyH_take (v := undef) hi hs hf hr hQ (.inr ⟨by simp [Region.wanted, hg]; intro e; subst e; simp at hc, rfl⟩) hS (by show wpAnyH P .any ops Q S' fuel _ ((mk n σ).put (some d) undef) w; rw [mk_put]; exact h)
/-- the one operation that may come up is carried out. -/
theorem t_step (i : Nat) {a : Act} (hi : ops[i]? = some ⟨dst, oo, ty, pos, aft, none⟩) (hr : Region.ready .any ops listed = [i])
    (h : Oper.wp P ⟨dst, oo, ty, pos, aft, none⟩ a w (fun a' w' => S' w' ∧ wpAnyH P .any ops Q S' fuel (listed.setIfInBounds i true) a' w') Q) : wpAnyH P .any ops Q S' (fuel + 1) listed a w :=
  wpAnyH_all hr (by simp) (by
    simp only [List.mem_singleton, forall_eq]
    unfold wpOp
    simp only [hi]
    rw [if_pos (by simp [Region.wanted])]
    exact .inl h)
theorem t_stepg (i : Nat) {a : Act} {j : Nat} {b : Bool} (hi : ops[i]? = some ⟨dst, oo, ty, pos, aft, some (j, b)⟩) (hr : Region.ready .any ops listed = [i]) (hg : yielded ops a.tmps j = some b)
    (h : Oper.wp P ⟨dst, oo, ty, pos, aft, some (j, b)⟩ a w (fun a' w' => S' w' ∧ wpAnyH P .any ops Q S' fuel (listed.setIfInBounds i true) a' w') Q) : wpAnyH P .any ops Q S' (fuel + 1) listed a w :=
  wpAnyH_all hr (by simp) (by
    simp only [List.mem_singleton, forall_eq]
    unfold wpOp
    simp only [hi]
    rw [if_pos (by simp [Region.wanted, hg])]
    exact .inl h)
/-- either of two may come up. -/
theorem t_step2 (i j : Nat) {a : Act} {dst' : Option Tmp} {oo' : Op} {ty' : TypeId} {pos' : String} {aft' : Array Edge} (hi : ops[i]? = some ⟨dst, oo, ty, pos, aft, none⟩) (hj : ops[j]? = some ⟨dst', oo', ty', pos', aft', none⟩) (hr : Region.ready .any ops listed = [i, j])
    (h : Oper.wp P ⟨dst, oo, ty, pos, aft, none⟩ a w (fun a' w' => S' w' ∧ wpAnyH P .any ops Q S' fuel (listed.setIfInBounds i true) a' w') Q)
    (h' : Oper.wp P ⟨dst', oo', ty', pos', aft', none⟩ a w (fun a' w' => S' w' ∧ wpAnyH P .any ops Q S' fuel (listed.setIfInBounds j true) a' w') Q) : wpAnyH P .any ops Q S' (fuel + 1) listed a w :=
  wpAnyH_all hr (by simp) (by
    intro k hk
    simp only [List.mem_cons, List.not_mem_nil, or_false] at hk
    rcases hk with rfl | rfl
    · unfold wpOp; simp only [hi]; rw [if_pos (by simp [Region.wanted])]; exact .inl h
    · unfold wpOp; simp only [hj]; rw [if_pos (by simp [Region.wanted])]; exact .inl h')
theorem t_done {a : Act} (hr : Region.ready .any ops listed = []) (h : Q .normal a w) : wpAnyH P .any ops Q S' fuel listed a w := wpAnyH_done hr h fuel

/-- the rest of a region, as a function of what has come up, the frame and the world: so that a state is shown once, however one comes to it. -/
theorem lat_start (h : ∀ G : Nat → Array Bool → (Nat → Value) → World → Prop, (∀ f l τ w, G f l τ w ↔ wpAnyH P .any ops Q S' f l (mk n τ) w) → G fuel listed σ w) : wpAnyH P .any ops Q S' fuel listed (mk n σ) w :=
  (h (fun f l τ w => wpAnyH P .any ops Q S' f l (mk n τ) w) (fun _ _ _ _ => Iff.rfl))
theorem lat_use {G : Nat → Array Bool → (Nat → Value) → World → Prop} (hG : ∀ f l τ w, G f l τ w ↔ wpAnyH P .any ops Q S' f l (mk n τ) w) {pat : List (Nat × Value)} (h : ∀ τ, G fuel listed (ups τ pat) w) (hp : fits σ pat) :
    wpAnyH P .any ops Q S' fuel listed (mk n σ) w := by
  have := (hG _ _ _ _).1 (h σ)
  rwa [ups_of_fits σ _ hp] at this
theorem lat_fit {G : Nat → Array Bool → (Nat → Value) → World → Prop} {pat : List (Nat × Value)} (h : ∀ τ, G fuel listed (ups τ pat) w) (hp : fits σ pat) : G fuel listed σ w := by
  have := h σ
  rwa [ups_of_fits σ _ hp] at this
/-- whichever of the ready ones comes up. -/
theorem t_all {a : Act} (rs : List Nat) (hr : Region.ready .any ops listed = rs) (hne : rs ≠ [])
    (h : ∀ i ∈ rs, wpOp P ops Q i (fun a' w' => S' w' ∧ wpAnyH P .any ops Q S' fuel (listed.setIfInBounds i true) a' w') a w) : wpAnyH P .any ops Q S' (fuel + 1) listed a w := wpAnyH_all hr hne h
theorem all_nil {p : Nat → Prop} : ∀ i ∈ ([] : List Nat), p i := fun _ h => by cases h
theorem all_cons {p : Nat → Prop} {i : Nat} {l : List Nat} (h1 : p i) (h2 : ∀ i ∈ l, p i) : ∀ j ∈ i :: l, p j := fun j hj => by
  rcases List.mem_cons.1 hj with rfl | h
  · exact h1
  · exact h2 j h
theorem w_op (i : Nat) {a : Act} (hi : ops[i]? = some ⟨dst, oo, ty, pos, aft, none⟩) (h : Oper.wp P ⟨dst, oo, ty, pos, aft, none⟩ a w K Q) : wpOp P ops Q i K a w := by
  unfold wpOp
  simp only [hi]
  rw [if_pos (by simp [Region.wanted])]
  exact .inl h
theorem Hp.perm {L' : List Ch} (h : Hp w0 w S L) (hp : L.Perm L') : Hp w0 w S L' :=
  ⟨h.os, h.tape, h.output, h.size, h.frame, fun c hc => h.has c (hp.mem_iff.2 hc), fun c hc => h.fresh c (hp.mem_iff.2 hc),
    (hp.pairwise_iff (fun {x y} hxy b hb hx => hxy b hx hb)).1 h.nd⟩
theorem perm_ins (A B : List Ch) (c : Ch) : (A ++ B ++ [c]).Perm (A ++ c :: B) := by
  rw [List.append_assoc]
  exact List.Perm.append_left A (List.perm_append_singleton c B)
/-! ### regions that draw, and only look (or: and only then carry out the rest in order) -/
theorem c_still {id : Nat} {a : Act} {l : List Oper} (hm : P.follows .mixedOrders = true) (hB : Region.lexB .any l.toArray = true)
    (h : wpStill P l.toArray w.drew (fun a' => Q .normal a' w.drew) l a) : (Code.region id l.toArray true).wp P Q a w := wp_region_still_lit hm hB h
theorem c_tail {id : Nat} {a : Act} {l : List Oper} (k : Nat) (hm : P.follows .mixedOrders = true) (hB : Region.lexTailB .any l.toArray k = true)
    (h : wpStill P l.toArray w.drew (fun a' => wpList P l.toArray Q (l.drop k) a' w.drew) (l.take k) a) : (Code.region id l.toArray true).wp P Q a w := wp_region_still_tail k hm hB h
variable {Qs : Act → Prop} {rest : List Oper}
theorem s_op {v : Value} (hy : (execOp (ev n σ) ⟨some d, oo, ty, pos, aft, none⟩).run P w = .ok (.value v) w) (h : wpStill P ops w Qs rest (mk n (up σ d v))) :
    wpStill P ops w Qs (⟨some d, oo, ty, pos, aft, none⟩ :: rest) (mk n σ) := by
  unfold wpStill
  rw [if_pos (by simp [Region.wanted])]
  unfold Oper.still
  rw [mk_evalf, hy]
  exact ⟨rfl, by show wpStill P ops w Qs rest ((mk n σ).put (some d) v); rw [mk_put]; exact h⟩
theorem s_yes {v : Value} {j e : Nat} {b : Bool} (he : (ops[j]?).bind (·.dst) = some e) (hb : Nat.blt e n = true) (hv : σ e = .bool b)
    (hy : (execOp (ev n σ) ⟨some d, oo, ty, pos, aft, some (j, b)⟩).run P w = .ok (.value v) w) (h : wpStill P ops w Qs rest (mk n (up σ d v))) :
    wpStill P ops w Qs (⟨some d, oo, ty, pos, aft, some (j, b)⟩ :: rest) (mk n σ) := by
  unfold wpStill
  rw [if_pos (by simp [Region.wanted, yielded_mk ops j e he b hb hv])]
  unfold Oper.still
  rw [mk_evalf, hy]
  exact ⟨rfl, by show wpStill P ops w Qs rest ((mk n σ).put (some d) v); rw [mk_put]; exact h⟩
theorem s_no {j e : Nat} {b c : Bool} (he : (ops[j]?).bind (·.dst) = some e) (hb : Nat.blt e n = true) (hv : σ e = .bool c) (hc : (c == b) = false)
    (h : wpStill P ops w Qs rest (mk n (up σ d undef))) : wpStill P ops w Qs (⟨some d, oo, ty, pos, aft, some (j, b)⟩ :: rest) (mk n σ) := by
  unfold wpStill
  rw [if_neg (by simp [Region.wanted, yielded_mk ops j e he c hb hv]; intro h'; subst h'; simp at hc), mk_put]
  exact h
theorem s_nil {a : Act} (h : Qs a) : wpStill P ops w Qs [] a := h
/-- what a call hands back, always by returning. -/
def Ret (P : Program) (f : FuncId) (vs : List Value) (w : World) (R : Value → World → Prop) : Prop := Calls P f vs.toArray w fun e w' => ∃ v, e = .returned v ∧ R v w'
theorem Ret.mono {f : FuncId} {vs : List Value} {R R' : Value → World → Prop} (h : Ret P f vs w R) (hr : ∀ v w', R v w' → R' v w') : Ret P f vs w R' :=
  Calls.mono h fun e w' ⟨v, he, hv⟩ => ⟨v, he, hr v w' hv⟩
theorem o_callR {f : FuncId} {fn : Func} {args : Array Operand} {ats : Array TypeId} {vs : List Value} {R : Value → World → Prop} (hf : P.funcs[f]? = some fn) (hb : fn.body.isSome = true) (hname : (fn.name == "runtime.NumGoroutine") = false)
    (ha : evs n σ args.toList = vs) (hc : Ret P f vs w R) (h : ∀ v w', R v w' → K (mk n (up σ d v)) w') :
    Oper.wp P ⟨some d, .call ⟨.value (.func f), args, ats⟩, ty, pos, aft, g⟩ (mk n σ) w K Q :=
  o_call hf hb hname (vs := vs.toArray) (by apply Array.ext'; rw [← ha, evs_eq]; simp) (Calls.mono hc fun e w' ⟨v, he, hv⟩ => by subst he; exact h v w' hv)
theorem s_call {f : FuncId} {fn : Func} {args : Array Operand} {ats : Array TypeId} {vs : List Value} {v : Value} (hf : P.funcs[f]? = some fn) (hb : fn.body.isSome = true) (hname : (fn.name == "runtime.NumGoroutine") = false)
    (ha : evs n σ args.toList = vs) (hc : Ret P f vs w fun x w' => x = v ∧ w' = w) (h : wpStill P ops w Qs rest (mk n (up σ d v))) :
    wpStill P ops w Qs (⟨some d, .call ⟨.value (.func f), args, ats⟩, ty, pos, aft, none⟩ :: rest) (mk n σ) := by
  unfold wpStill
  rw [if_pos (by simp [Region.wanted])]
  unfold Oper.still
  have hn : fn.body ≠ none := by cases hh : fn.body <;> simp_all
  have hnm : fn.name ≠ "runtime.NumGoroutine" := by intro e; simp [e] at hname
  have ha' : args.map (ev n σ) = vs.toArray := by apply Array.ext'; rw [← ha, evs_eq]; simp
  have : (execOp (mk n σ).eval ⟨some d, .call ⟨.value (.func f), args, ats⟩, ty, pos, aft, none⟩).run P w = .ok (.enter f vs.toArray) w := by
    rw [mk_evalf]
    simp [execOp, resolve, ev, Deferred.ofValue, invoke, callFunc, hf, hnm, hn, ha']
  rw [this]
  refine ⟨rfl, v, Calls.mono hc fun e w' ⟨x, he, hx, hw⟩ => ⟨by rw [he, hx], hw⟩, ?_⟩
  show wpStill P ops w Qs rest ((mk n σ).put (some d) v)
  rw [mk_put]; exact h
theorem ret_mk {f : FuncId} {fn : Func} {c : Code} {args : List Value} {R : Value → World → Prop} {n : Nat}
    (hf : P.funcs[f]? = some fn) (hb : fn.body = some c) (hn : fn.ntmps = n) (hle : args.length ≤ n)
    (h : c.wp P (bodyPost P fn fun e w' => ∃ v, e = .returned v ∧ R v w') (mk n (fun t => args.getD t undef)) w) : Ret P f args w R :=
  calls_mk hf hb hn hle h
end
end Go.Proofs.Ytjmbbhnpfmblpaa
