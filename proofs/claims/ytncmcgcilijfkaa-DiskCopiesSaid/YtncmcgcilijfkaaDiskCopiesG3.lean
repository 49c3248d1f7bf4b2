/- Lemmas for the statement DiskCopies, part 3: rules of operations, walks through functions, plain laws. -/
import Derived.Test.YtncmcgcilijfkaaDiskCopiesG2
namespace Go.Proofs.Ytncmcgcilijfkaa
open Go
set_option maxRecDepth 100000
def strD (l : List UInt8) : List Value := [.string ⟨l.toArray⟩]
section
variable {P : Program} {n : Nat} {σ : Nat → Value} {w : World} {ty : TypeId} {pos : String} {aft : Array Edge} {g : Option (Nat × Bool)} {d : Nat} {t : TypeId} {x y : Operand}
theorem ext_take (l : List UInt8) (h : Nat) : ByteArray.extract ⟨l.toArray⟩ 0 h = ⟨(l.take h).toArray⟩ := by
  apply ByteArray.ext; simp [ByteArray.data_extract]
theorem ext_drop (l : List UInt8) (a : Nat) : ByteArray.extract ⟨l.toArray⟩ a l.length = ⟨(l.drop a).toArray⟩ := by
  apply ByteArray.ext
  rw [ByteArray.data_extract]
  show l.toArray.extract a l.length = (l.drop a).toArray
  rw [List.extract_toArray]
  congr 1
  rw [List.extract_eq_take_drop, List.take_of_length_le (by simp)]
theorem r_slstrH {l : List UInt8} {h : Nat} {kk : IntKind} {j : Int} (hu : P.underlying t = some .string) (hx : ev n σ x = .string ⟨l.toArray⟩) (hy : ev n σ y = .int kk j) (hj : j = (h : Int)) (hl : h ≤ l.length) :
    (execOp (ev n σ) ⟨some d, .slice t x none (some y) none, ty, pos, aft, g⟩).run P w = .ok (.value (.string ⟨(l.take h).toArray⟩)) w := by
  rw [← ext_take]
  exact r_sls (m := ByteArray.size ⟨l.toArray⟩) hu hx rfl (congrArg some hy) (fun w => sbh h hj (by simpa [ByteArray.size] using hl) w)
theorem r_slstrL {l : List UInt8} {a : Nat} {kk : IntKind} {j : Int} (hu : P.underlying t = some .string) (hx : ev n σ x = .string ⟨l.toArray⟩) (hy : ev n σ y = .int kk j) (hj : j = (a : Int)) (hl : a ≤ l.length) :
    (execOp (ev n σ) ⟨some d, .slice t x (some y) none none, ty, pos, aft, g⟩).run P w = .ok (.value (.string ⟨(l.drop a).toArray⟩)) w := by
  rw [← ext_drop]
  exact r_sls (m := ByteArray.size ⟨l.toArray⟩) hu hx (congrArg some hy) rfl (fun w => sbl a hj (by simpa [ByteArray.size] using hl) w)
end
structure DD.ok (D : DD) : Prop where
  n : 32 ≤ D.last.length ∧ D.last.length ≤ 4096
  hl : ∀ l ∈ D.last, l.length = 512
  hw : ∀ i l, D.wait i = some l → 0 ≤ i ∧ i < (D.last.length : Int) ∧ l.length = 512
  armed : -1 ≤ D.armed ∧ D.armed ≤ 9223372036854775807
  part : 0 ≤ D.part ∧ D.part ≤ 512
  way : -1 ≤ D.way ∧ D.way < (D.last.length : Int)
  fl : D.front.length ≤ 512
theorem DW.ok.dd {z : DW} (hz : z.ok) : z.abs.ok := by
  have hl := z.alen
  refine ⟨by rw [hl]; exact hz.n, fun l h => ?_, fun i l h => ?_, hz.armed, hz.part, by rw [hl]; exact hz.way, hz.fl⟩
  · obtain ⟨s, _, rfl⟩ := List.mem_map.1 h
    exact wh_len _
  · have h' : (z.F i).map (fun s => wh s.l) = some l := h
    cases hf : z.F i with
    | none => rw [hf] at h'; cases h'
    | some s =>
      rw [hf] at h'
      cases h'
      obtain ⟨h1, h2, _⟩ := hz.hw i s hf
      exact ⟨h1, by rw [hl]; exact h2, wh_len _⟩
/-- what waits, as a list; what is ahead of i is gone. -/
def rwf (D : DD) (i : Nat) : List (List UInt8) := (List.range D.last.length).map fun j : Nat => if j < i then [] else (D.wait (j : Int)).getD []
theorem rwf_len (D : DD) (i : Nat) : (rwf D i).length = D.last.length := by rw [rwf, List.length_map, List.length_range]
theorem rwf_elem {D : DD} {i k : Nat} {c : List UInt8} (hk : i ≤ k) (h : (rwf D i)[k]? = some c) : c = (D.wait (k : Int)).getD [] := by
  have hl : k < (rwf D i).length := (List.getElem?_eq_some_iff.1 h).1
  rw [rwf_len] at hl
  rw [rwf, List.getElem?_map, List.getElem?_range hl] at h
  simp only [Option.map_some, Option.some.injEq] at h
  rw [← h, if_neg (by omega)]
theorem wait_none {D : DD} (hD : D.ok) {i : Int} (h : (D.wait i).getD [] = []) : D.wait i = none := by
  cases hw : D.wait i with
  | none => rfl
  | some l =>
    rw [hw] at h
    have := (hD.hw i l hw).2.2
    rw [show l = [] from h] at this
    cases this
theorem wait_some {D : DD} {i : Int} (h : ¬ (D.wait i).getD [] = []) : D.wait i = some ((D.wait i).getD []) := by
  cases hw : D.wait i with
  | none => rw [hw] at h; exact absurd rfl h
  | some l => rfl
theorem rwf_step {D : DD} {i : Nat} : (rwf D i).set i [] = rwf D (i + 1) := by
  apply List.ext_getElem?
  intro j
  rw [List.getElem?_set, rwf_len, rwf, rwf, List.getElem?_map, List.getElem?_map]
  by_cases hj : i = j
  · subst hj
    rw [if_pos rfl]
    by_cases hl : i < D.last.length
    · rw [if_pos hl, List.getElem?_range hl]; simp
    · rw [if_neg hl, List.getElem?_eq_none (by simpa using hl)]; rfl
  · rw [if_neg hj]
    by_cases hl : j < D.last.length
    · rw [List.getElem?_range hl]
      have e : (j < i + 1) = (j < i) := propext ⟨fun h => by omega, fun h => by omega⟩
      simp only [Option.map_some, e]
    · rw [List.getElem?_eq_none (by simpa using hl)]; rfl
/-- the document's disk, as a world has it. -/
structure RDW where
  a1 : Option Nat
  c1 : Nat
  a2 : Option Nat
  c2 : Nat
  D : DD
  cm : List UInt8
def rkc (rb : Nat) (z : RDW) : List Ch := [.blk rb [.slice (hd z.a1) z.D.last.length z.c1, .slice (hd z.a2) z.D.last.length z.c2, .bool z.D.off, VI z.D.armed, VI z.D.part, VI z.D.way, .string ⟨z.cm.toArray⟩, VI z.D.writes, VI z.D.lives] 106,
  .own z.a1 z.D.last.length z.c1 (z.D.last.flatMap strD) 9 1, .own z.a2 z.D.last.length z.c2 ((rwf z.D 0).flatMap strD) 9 1]
structure RDW.ok (z : RDW) : Prop where
  D : z.D.ok
  cm : 0 ≤ z.D.way → z.cm = z.D.front
def RDLeft (w0 w' : World) (rb : Nat) (z : RDW) (D : DD) : Prop := ∃ y : RDW, y.D = D ∧ y.ok ∧ Hp w0 w' (keys (rkc rb z)) (rkc rb y)
theorem may_in {D : DD} {i : Int} (h : D.off = false) (h0 : 0 ≤ i) (h1 : i < (D.last.length : Int)) : dMay D i = 0 := by rw [dMay, if_neg (by rw [h]; decide), if_neg (by omega)]
theorem may_off {D : DD} {i : Int} (h : D.off = true) : dMay D i = 8 := by rw [dMay, if_pos h]
theorem may_out {D : DD} {i : Int} (h : D.off = false) (h1 : i < 0 ∨ (D.last.length : Int) ≤ i) : dMay D i = 1 := by rw [dMay, if_neg (by rw [h]; decide), if_pos h1]
theorem dRead_w {D : DD} {i : Int} {c : List UInt8} (hc : c = (D.wait i).getD []) (hn : ¬ c = []) : dRead D i = c := by
  rw [hc] at hn
  rw [dRead, wait_some hn, Option.getD_some, hc]
theorem dRead_l {D : DD} (hD : D.ok) {i : Int} {c e : List UInt8} (hc : c = (D.wait i).getD []) (hn : c = []) (he : D.last[i.toNat]? = some e) : dRead D i = e := by
  rw [dRead, wait_none hD (by rw [← hc]; exact hn), Option.getD_none, List.getD_eq_getElem?_getD, he]; rfl
theorem dW_may {D : DD} {i : Int} {l : List UInt8} (h : ¬ dMay D i = 0) : dWriteE D i l = dMay D i ∧ dWrite D i l = D := ⟨by rw [dWriteE, if_pos h], by rw [dWrite, if_pos h]⟩
theorem dW_len {D : DD} {i : Int} {l : List UInt8} (h : dMay D i = 0) (hl : l.length ≠ 512) : dWriteE D i l = 9 ∧ dWrite D i l = D := ⟨by rw [dWriteE, if_neg (fun e => e h), if_pos hl], by rw [dWrite, if_neg (fun e => e h), if_pos hl]⟩
theorem dW_dead {D : DD} {i : Int} {l : List UInt8} (h : dMay D i = 0) (hl : l.length = 512) (ha : D.armed = 0) : dWriteE D i l = 8 ∧ dWrite D i l = { D with off := true, way := i, front := l.take D.part.toNat } :=
  ⟨by rw [dWriteE, if_neg (fun e => e h), if_neg (fun e => e hl), if_pos ha], by rw [dWrite, if_neg (fun e => e h), if_neg (fun e => e hl), if_pos ha]⟩
theorem dW_goes {D : DD} {i : Int} {l : List UInt8} (h : dMay D i = 0) (hl : l.length = 512) (ha : ¬ D.armed = 0) : dWriteE D i l = 0 ∧ dWrite D i l = { D with armed := dDec D.armed, wait := fput D.wait i l, writes := D.writes + 1 } :=
  ⟨by rw [dWriteE, if_neg (fun e => e h), if_neg (fun e => e hl), if_neg ha], by rw [dWrite, if_neg (fun e => e h), if_neg (fun e => e hl), if_neg ha]⟩
theorem rwf_put {D : DD} {i : Int} {l : List UInt8} (a w : Int) (h0 : 0 ≤ i) : (rwf D 0).set i.toNat l = rwf { D with armed := a, wait := fput D.wait i l, writes := w } 0 := by
  apply List.ext_getElem?
  intro j
  rw [List.getElem?_set, rwf_len, rwf, rwf, List.getElem?_map, List.getElem?_map]
  by_cases hj : i.toNat = j
  · have e : i = (j : Int) := by omega
    subst hj
    rw [if_pos rfl]
    by_cases hl : i.toNat < D.last.length
    · rw [if_pos hl, List.getElem?_range hl]
      simp only [Option.map_some, fput, ← e, if_true]
      simp
    · rw [if_neg hl, List.getElem?_eq_none (by simpa using hl)]; rfl
  · rw [if_neg hj]
    by_cases hl : j < D.last.length
    · rw [List.getElem?_range hl]
      have e : ¬ (j : Int) = i := by omega
      simp only [Option.map_some, fput, if_neg e]
    · rw [List.getElem?_eq_none (by simpa using hl)]; rfl
theorem DD.ok.put {D : DD} (h : D.ok) {i : Int} {l : List UInt8} {a w : Int} (ha : -1 ≤ a ∧ a ≤ 9223372036854775807) (h0 : 0 ≤ i) (h1 : i < (D.last.length : Int)) (hl : l.length = 512) : DD.ok { D with armed := a, wait := fput D.wait i l, writes := w } := by
  refine ⟨h.n, h.hl, fun j m hm => ?_, ha, h.part, h.way, h.fl⟩
  have hm' : fput D.wait i l j = some m := hm
  rw [fput] at hm'
  by_cases e : j = i
  · rw [if_pos e] at hm'
    cases hm'
    exact ⟨by omega, by rw [e]; exact h1, hl⟩
  · rw [if_neg e] at hm'
    exact h.hw j m hm'
/-- what lasts, once what waits ahead of i does. -/
def fli (D : DD) (i : Nat) : List (List UInt8) := D.last.mapIdx fun j e => if j < i then (D.wait (j : Int)).getD e else e
theorem fli_len (D : DD) (i : Nat) : (fli D i).length = D.last.length := List.length_mapIdx ..
theorem fli_zero (D : DD) : fli D 0 = D.last := by
  apply List.ext_getElem?
  intro j
  rw [fli, List.getElem?_mapIdx]
  cases D.last[j]? <;> simp
theorem fli_put {D : DD} {i : Nat} {c : List UInt8} (hw : D.wait (i : Int) = some c) : (fli D i).set i c = fli D (i + 1) := by
  apply List.ext_getElem?
  intro j
  rw [List.getElem?_set, fli_len, fli, fli, List.getElem?_mapIdx, List.getElem?_mapIdx]
  by_cases hj : i = j
  · subst hj
    rw [if_pos rfl]
    by_cases hl : i < D.last.length
    · rw [if_pos hl, List.getElem?_eq_getElem hl]
      simp [hw]
    · rw [if_neg hl, List.getElem?_eq_none (by omega)]; rfl
  · rw [if_neg hj]
    cases D.last[j]? with
    | none => rfl
    | some x =>
      have e : (j < i + 1) = (j < i) := propext ⟨fun h => by omega, fun h => by omega⟩
      simp only [Option.map_some, e]
theorem fli_skip {D : DD} {i : Nat} (hw : D.wait (i : Int) = none) : fli D (i + 1) = fli D i ∧ rwf D (i + 1) = rwf D i := by
  refine ⟨?_, ?_⟩
  · apply List.ext_getElem?
    intro j
    rw [fli, fli, List.getElem?_mapIdx, List.getElem?_mapIdx]
    cases D.last[j]? with
    | none => rfl
    | some x =>
      simp only [Option.map_some, Option.some.injEq]
      by_cases hj : j = i
      · subst hj
        rw [if_pos (by omega), if_neg (by omega), hw]; rfl
      · have e : (j < i + 1) = (j < i) := propext ⟨fun h => by omega, fun h => by omega⟩
        simp only [e]
  · rw [rwf, rwf]
    refine List.map_congr_left fun j _ => ?_
    by_cases hj : j = i
    · subst hj
      rw [if_pos (by omega), if_neg (by omega), hw]; rfl
    · have e : (j < i + 1) = (j < i) := propext ⟨fun h => by omega, fun h => by omega⟩
      simp only [e]
theorem fli_end {D D' : DD} {i : Nat} (hi : D.last.length ≤ i) (hl : D'.last.length = D.last.length) (hw : ∀ j, D'.wait j = none) : fli D i = D.last.mapIdx (fun j e => (D.wait j).getD e) ∧ rwf D i = rwf D' 0 := by
  refine ⟨?_, ?_⟩
  · apply List.ext_getElem?
    intro j
    rw [fli, List.getElem?_mapIdx, List.getElem?_mapIdx]
    by_cases hj : j < D.last.length
    · rw [List.getElem?_eq_getElem hj]
      simp only [Option.map_some, if_pos (show j < i by omega)]
    · rw [List.getElem?_eq_none (by omega)]; rfl
  · rw [rwf, rwf, hl]
    refine List.map_congr_left fun j hj => ?_
    rw [List.mem_range] at hj
    rw [if_pos (by omega), if_neg (by omega), hw]; rfl
theorem dF_off {D : DD} (_hD : D.ok) (h : D.off = true) : dFlushE D = 8 ∧ dFlush D = D := by
  have hm := may_off (i := 0) h
  exact ⟨by rw [dFlushE, if_pos (by omega), hm], by rw [dFlush, if_pos (by omega)]⟩
theorem dF_dead {D : DD} (hD : D.ok) (h : D.off = false) (ha : D.armed = 0) : dFlushE D = 8 ∧ dFlush D = { D with off := true } := by
  have hm := may_in (i := 0) h (by omega) (by have := hD.n; omega)
  exact ⟨by rw [dFlushE, if_neg (by omega), if_pos ha], by rw [dFlush, if_neg (by omega), if_pos ha]⟩
theorem dF_goes {D : DD} (hD : D.ok) (h : D.off = false) (ha : ¬ D.armed = 0) : dFlushE D = 0 ∧ dFlush D = { D with armed := dDec D.armed, last := D.last.mapIdx (fun j e => (D.wait j).getD e), wait := fun _ => none } := by
  have hm := may_in (i := 0) h (by omega) (by have := hD.n; omega)
  exact ⟨by rw [dFlushE, if_neg (by omega), if_neg ha], by rw [dFlush, if_neg (by omega), if_neg ha]⟩
theorem dF_ok {D : DD} (hD : D.ok) : (dFlush D).ok := by
  rw [dFlush]
  split
  · exact hD
  · split
    · exact ⟨hD.n, hD.hl, hD.hw, hD.armed, hD.part, hD.way, hD.fl⟩
    · have hl : (D.last.mapIdx (fun (j : Nat) e => (D.wait (j : Int)).getD e)).length = D.last.length := List.length_mapIdx ..
      refine ⟨by rw [hl]; exact hD.n, fun l h => ?_, fun i l h => (by cases h), dDec_bd hD.armed, hD.part, by rw [hl]; exact hD.way, hD.fl⟩
      obtain ⟨j, hj⟩ := List.getElem?_of_mem h
      rw [List.getElem?_mapIdx] at hj
      cases he : D.last[j]? with
      | none => rw [he] at hj; cases hj
      | some x =>
        rw [he] at hj
        simp only [Option.map_some, Option.some.injEq] at hj
        subst hj
        cases hw : D.wait (j : Int) with
        | none => exact hD.hl _ (List.mem_of_getElem? he)
        | some y => exact (hD.hw _ _ hw).2.2
theorem rgo0_ret {w0 : World} {rb : Nat} {x0 x1 : Value} {off : Bool} {armed part way wrote powers : Int} {cm : List UInt8} (hdb : (Ch.blk rb [x0, x1, .bool off, VI armed, VI part, VI way, .string ⟨cm.toArray⟩, VI wrote, VI powers] 106).ok w0) (h0 : armed = 0) :
    Ret Try.prog 76 [.pointer (some ⟨rb, 0, none⟩)] w0 fun v w' => v = .bool false ∧ Hp w0 w' [rb] [.blk rb [x0, x1, .bool true, VI armed, VI part, VI way, .string ⟨cm.toArray⟩, VI wrote, VI powers] 106] := by
  refine ret_mk Try.func76 rfl Try.ntmps76 (by simp) ?_
  have H := Hp.start w0 (.blk rb ([x0, x1, .bool off, VI armed, VI part, VI way, .string ⟨(cm).toArray⟩, VI wrote, VI powers]) 106) rb hdb rfl
  repeat refine c_seq ?_
  refine c_region ?_
  refine l_op (o_val (r_as) ?_)
  first | refine l_end ?_ | refine l_nil ?_
  repeat refine c_seq ?_
  refine c_region ?_
  refine l_op (o_val (r_mv) ?_)
  refine l_op (o_val (r_nilc rfl) ?_)
  refine l_op (o_val (r_fa rfl fo106_3) ?_)
  refine l_op (o_val (r_ld (v := VI armed) H (i := 0) rfl rfl ct3 rfl) ?_)
  refine l_op (o_val (r_bin (a := armed) (b := 0) rfl rfl (fun _ => b_lssB false (decide_eq_false (by omega)))) ?_)
  first | refine l_end ?_ | refine l_nil ?_
  repeat refine c_seq ?_
  refine c_no rfl ?_
  refine c_skip ?_
  repeat refine c_seq ?_
  refine c_region ?_
  refine l_op (o_val (r_mv) ?_)
  refine l_op (o_val (r_nilc rfl) ?_)
  refine l_op (o_val (r_fa rfl fo106_3) ?_)
  refine l_op (o_val (r_ld (v := VI armed) H (i := 0) rfl rfl ct3 rfl) ?_)
  refine l_op (o_val (r_bin (a := armed) (b := 0) rfl rfl (fun _ => b_gtrB false (decide_eq_false (by omega)))) ?_)
  first | refine l_end ?_ | refine l_nil ?_
  repeat refine c_seq ?_
  refine c_no rfl ?_
  refine c_skip ?_
  repeat refine c_seq ?_
  refine c_region ?_
  refine l_op (o_val (r_mv) ?_)
  refine l_op (o_val (r_nilc rfl) ?_)
  refine l_op (o_val (r_fa rfl fo106_2) ?_)
  refine l_op (o_st (v := .bool true) H (i := 0) rfl rfl rfl cs4 rfl (by simp only [List.length_cons, List.length_nil]; omega) (fun w H => ?_))
  replace H : Hp _ w _ ([.blk rb ([x0, x1, .bool true, VI armed, VI part, VI way, .string ⟨(cm).toArray⟩, VI wrote, VI powers]) 106]) := H
  first | refine l_end ?_ | refine l_nil ?_
  repeat refine c_seq ?_
  refine c_region ?_
  refine l_op (o_val (r_as) ?_)
  first | refine l_end ?_ | refine l_nil ?_
  refine c_ret ?_
  try dsimp only [Exit.then, Exit.inBlock]
  refine e_ret1 (v := .bool false) Try.results76 rfl ?_
  refine ⟨_, rfl, ?_⟩
  exact ⟨rfl, H.sub (.cons_cons _ (List.nil_sublist _))⟩
theorem rgo1_ret {w0 : World} {rb : Nat} {x0 x1 : Value} {off : Bool} {armed part way wrote powers : Int} {cm : List UInt8} (hdb : (Ch.blk rb [x0, x1, .bool off, VI armed, VI part, VI way, .string ⟨cm.toArray⟩, VI wrote, VI powers] 106).ok w0) (h0 : ¬ armed = 0) (h1 : armed ≤ 9223372036854775807) :
    Ret Try.prog 76 [.pointer (some ⟨rb, 0, none⟩)] w0 fun v w' => v = .bool true ∧ Hp w0 w' [rb] [.blk rb [x0, x1, .bool off, VI (dDec armed), VI part, VI way, .string ⟨cm.toArray⟩, VI wrote, VI powers] 106] := by
  refine ret_mk Try.func76 rfl Try.ntmps76 (by simp) ?_
  have H := Hp.start w0 (.blk rb ([x0, x1, .bool off, VI armed, VI part, VI way, .string ⟨(cm).toArray⟩, VI wrote, VI powers]) 106) rb hdb rfl
  repeat refine c_seq ?_
  refine c_region ?_
  refine l_op (o_val (r_as) ?_)
  first | refine l_end ?_ | refine l_nil ?_
  repeat refine c_seq ?_
  refine c_region ?_
  refine l_op (o_val (r_mv) ?_)
  refine l_op (o_val (r_nilc rfl) ?_)
  refine l_op (o_val (r_fa rfl fo106_3) ?_)
  refine l_op (o_val (r_ld (v := VI armed) H (i := 0) rfl rfl ct3 rfl) ?_)
  refine l_op (o_val (r_bin (a := armed) (b := 0) rfl rfl (fun _ => b_lss)) ?_)
  first | refine l_end ?_ | refine l_nil ?_
  by_cases hc1 : armed < 0
  ·
   repeat refine c_seq ?_
   refine c_yes (by exact congrArg Value.bool (decide_eq_true hc1)) ?_
   repeat refine c_seq ?_
   refine c_region ?_
   refine l_op (o_val (r_as) ?_)
   first | refine l_end ?_ | refine l_nil ?_
   refine c_ret ?_
   try dsimp only [Exit.then, Exit.inBlock]
   refine e_ret1 (v := .bool true) Try.results76 rfl ?_
   refine ⟨_, rfl, ?_⟩
   have e : dDec armed = armed := by rw [dDec, if_neg (by omega)]
   refine ⟨rfl, ?_⟩
   rw [e]
   exact H.sub (.cons_cons _ (List.nil_sublist _))
  ·
   repeat refine c_seq ?_
   refine c_no (by exact congrArg Value.bool (decide_eq_false hc1)) ?_
   refine c_skip ?_
   repeat refine c_seq ?_
   refine c_region ?_
   refine l_op (o_val (r_mv) ?_)
   refine l_op (o_val (r_nilc rfl) ?_)
   refine l_op (o_val (r_fa rfl fo106_3) ?_)
   refine l_op (o_val (r_ld (v := VI armed) H (i := 0) rfl rfl ct3 rfl) ?_)
   refine l_op (o_val (r_bin (a := armed) (b := 0) rfl rfl (fun _ => b_gtr)) ?_)
   first | refine l_end ?_ | refine l_nil ?_
   by_cases hc2 : 0 < armed
   ·
    repeat refine c_seq ?_
    refine c_yes (by exact congrArg Value.bool (decide_eq_true hc2)) ?_
    repeat refine c_seq ?_
    refine c_region ?_
    refine l_op (o_val (r_mv) ?_)
    refine l_op (o_val (r_nilc rfl) ?_)
    refine l_op (o_val (r_fa rfl fo106_3) ?_)
    refine l_op (o_val (r_ld (v := VI armed) H (i := 0) rfl rfl ct3 rfl) ?_)
    refine l_op (o_val (r_bin (a := armed) (b := 1) rfl rfl (fun _ => b_sub (by omega) (by omega))) ?_)
    refine l_op (o_val (r_nilc rfl) ?_)
    refine l_op (o_val (r_fa rfl fo106_3) ?_)
    refine l_op (o_st (v := VI (armed - 1)) H (i := 0) rfl rfl rfl cs3 rfl (by simp only [List.length_cons, List.length_nil]; omega) (fun w H => ?_))
    replace H : Hp _ w _ ([.blk rb ([x0, x1, .bool off, VI (armed - 1), VI part, VI way, .string ⟨(cm).toArray⟩, VI wrote, VI powers]) 106]) := H
    first | refine l_end ?_ | refine l_nil ?_
    repeat refine c_seq ?_
    refine c_region ?_
    refine l_op (o_val (r_as) ?_)
    first | refine l_end ?_ | refine l_nil ?_
    refine c_ret ?_
    try dsimp only [Exit.then, Exit.inBlock]
    refine e_ret1 (v := .bool true) Try.results76 rfl ?_
    refine ⟨_, rfl, ?_⟩
    have e : dDec armed = armed - 1 := by rw [dDec, if_pos (by omega)]
    refine ⟨rfl, ?_⟩
    rw [e]
    exact H.sub (.cons_cons _ (List.nil_sublist _))
   ·
    repeat refine c_seq ?_
    refine c_no (by exact congrArg Value.bool (decide_eq_false hc2)) ?_
    refine c_skip ?_
    repeat refine c_seq ?_
    refine c_region ?_
    refine l_op (o_val (r_mv) ?_)
    refine l_op (o_val (r_nilc rfl) ?_)
    refine l_op (o_val (r_fa rfl fo106_2) ?_)
    refine l_op (o_st (v := .bool true) H (i := 0) rfl rfl rfl cs4 rfl (by simp only [List.length_cons, List.length_nil]; omega) (fun w H => ?_))
    replace H : Hp _ w _ ([.blk rb ([x0, x1, .bool true, VI armed, VI part, VI way, .string ⟨(cm).toArray⟩, VI wrote, VI powers]) 106]) := H
    first | refine l_end ?_ | refine l_nil ?_
    repeat refine c_seq ?_
    refine c_region ?_
    refine l_op (o_val (r_as) ?_)
    first | refine l_end ?_ | refine l_nil ?_
    refine c_ret ?_
    try dsimp only [Exit.then, Exit.inBlock]
    refine e_ret1 (v := .bool false) Try.results76 rfl ?_
    refine ⟨_, rfl, ?_⟩
    exfalso; omega
theorem rread_ret (w0 : World) (rb : Nat) (z : RDW) (hO : Own w0 (rkc rb z)) (hz : z.ok) (i : Int) :
    Ret Try.prog 66 [.pointer (some ⟨rb, 0, none⟩), VI i] w0 fun v w' => ∃ l, v = .tuple #[.string ⟨l.toArray⟩, VI (dMay z.D i)] ∧ (dMay z.D i = 0 → l = dRead z.D i) ∧ (dMay z.D i ≠ 0 → l = []) ∧ Hp w0 w' (keys (rkc rb z)) (rkc rb z) := by
  refine ret_mk Try.func66 rfl Try.ntmps66 (by simp) ?_
  have H : Hp w0 w0 (keys (rkc rb z)) [.blk rb ([.slice (hd z.a1) z.D.last.length z.c1, .slice (hd z.a2) z.D.last.length z.c2, .bool z.D.off, VI z.D.armed, VI z.D.part, VI z.D.way, .string ⟨(z.cm).toArray⟩, VI z.D.writes, VI z.D.lives]) 106, .own z.a1 z.D.last.length z.c1 ((z.D.last).flatMap strD) 9 1, .own z.a2 z.D.last.length z.c2 ((rwf z.D 0).flatMap strD) 9 1] := hO.start
  have hzn := hz.D.n
  have hza := hz.D.armed
  have hzp := hz.D.part
  have hzw := hz.D.way
  have hzf := hz.D.fl
  have hmL : maxLen = 9223372036854775807 := rfl
  repeat refine c_seq ?_
  refine c_region ?_
  refine l_op (o_val (r_as) ?_)
  refine l_op (o_val (r_as) ?_)
  first | refine l_end ?_ | refine l_nil ?_
  repeat refine c_seq ?_
  refine c_region ?_
  refine l_op (o_val (r_mv) ?_)
  refine l_op (o_val (r_nilc rfl) ?_)
  refine l_op (o_val (r_fa rfl fo106_2) ?_)
  refine l_op (o_val (r_ld (v := .bool z.D.off) H (i := 0) rfl rfl ct4 rfl) ?_)
  first | refine l_end ?_ | refine l_nil ?_
  have hc10 := Bool.eq_false_or_eq_true (z.D.off)
  rcases hc10 with hc1 | hc1
  ·
   repeat refine c_seq ?_
   refine c_yes (by exact congrArg Value.bool hc1) ?_
   repeat refine c_seq ?_
   refine c_region ?_
   refine l_op (o_val (r_as) ?_)
   refine l_op (o_val (r_as) ?_)
   first | refine l_end ?_ | refine l_nil ?_
   refine c_ret ?_
   try dsimp only [Exit.then, Exit.inBlock]
   refine e_retN (vs := [.string ⟨(([] : List UInt8)).toArray⟩, VI 8]) _ Try.results66 rfl (resT (v := .string ⟨(([] : List UInt8)).toArray⟩) rfl (resT (v := VI 8) rfl (resZ))) ?_
   refine ⟨_, rfl, ?_⟩
   have hm := may_off (i := i) hc1
   exact ⟨[], by rw [hm], fun h => by omega, fun _ => rfl, H.sub (.cons_cons _ (.cons_cons _ (.cons_cons _ (List.nil_sublist _))))⟩
  ·
   repeat refine c_seq ?_
   refine c_no (by exact congrArg Value.bool hc1) ?_
   refine c_skip ?_
   repeat refine c_seq ?_
   refine c_region ?_
   refine l_op (o_val (r_mv) ?_)
   refine l_op (o_val (r_bin (a := i) (b := 0) rfl rfl (fun _ => b_lss)) ?_)
   refine l_op (o_val (r_mv) ?_)
   by_cases hc2 : i < 0
   ·
    refine l_no rfl rfl (by exact congrArg Value.bool (decide_eq_true hc2)) rfl ?_
    refine l_no rfl rfl (by exact congrArg Value.bool (decide_eq_true hc2)) rfl ?_
    refine l_no rfl rfl (by exact congrArg Value.bool (decide_eq_true hc2)) rfl ?_
    refine l_no rfl rfl (by exact congrArg Value.bool (decide_eq_true hc2)) rfl ?_
    refine l_no rfl rfl (by exact congrArg Value.bool (decide_eq_true hc2)) rfl ?_
    refine l_no rfl rfl (by exact congrArg Value.bool (decide_eq_true hc2)) rfl ?_
    refine l_no rfl rfl (by exact congrArg Value.bool (decide_eq_true hc2)) rfl ?_
    refine l_op (o_val (r_pick (b := true) (congrArg Value.bool (decide_eq_true hc2))) ?_)
    first | refine l_end ?_ | refine l_nil ?_
    repeat refine c_seq ?_
    refine c_yes rfl ?_
    repeat refine c_seq ?_
    refine c_region ?_
    refine l_op (o_val (r_as) ?_)
    refine l_op (o_val (r_as) ?_)
    first | refine l_end ?_ | refine l_nil ?_
    refine c_ret ?_
    try dsimp only [Exit.then, Exit.inBlock]
    refine e_retN (vs := [.string ⟨(([] : List UInt8)).toArray⟩, VI 1]) _ Try.results66 rfl (resT (v := .string ⟨(([] : List UInt8)).toArray⟩) rfl (resT (v := VI 1) rfl (resZ))) ?_
    refine ⟨_, rfl, ?_⟩
    have hm := may_out (i := i) hc1 (by omega)
    exact ⟨[], by rw [hm], fun h => by omega, fun _ => rfl, H.sub (.cons_cons _ (.cons_cons _ (.cons_cons _ (List.nil_sublist _))))⟩
   ·
    refine l_yes rfl rfl (by exact congrArg Value.bool (decide_eq_false hc2)) (o_val (r_mv) ?_)
    refine l_yes rfl rfl (by exact congrArg Value.bool (decide_eq_false hc2)) (o_val (r_mv) ?_)
    refine l_yes rfl rfl (by exact congrArg Value.bool (decide_eq_false hc2)) (o_val (r_nilc rfl) ?_)
    refine l_yes rfl rfl (by exact congrArg Value.bool (decide_eq_false hc2)) (o_val (r_fa rfl fo106_0) ?_)
    refine l_yes rfl rfl (by exact congrArg Value.bool (decide_eq_false hc2)) (o_val (r_ld (v := .slice (hd z.a1) z.D.last.length z.c1) H (i := 0) rfl rfl ct49 rfl) ?_)
    refine l_yes rfl rfl (by exact congrArg Value.bool (decide_eq_false hc2)) (o_val (r_lens el49 rfl) ?_)
    refine l_yes rfl rfl (by exact congrArg Value.bool (decide_eq_false hc2)) (o_val (r_bin (a := i) (b := (z.D.last.length : Int)) rfl rfl (fun _ => b_geq)) ?_)
    refine l_op (o_val (r_pick (b := false) (congrArg Value.bool (decide_eq_false hc2))) ?_)
    first | refine l_end ?_ | refine l_nil ?_
    by_cases hc3 : (z.D.last.length : Int) ≤ i
    ·
     repeat refine c_seq ?_
     refine c_yes (by exact congrArg Value.bool (decide_eq_true hc3)) ?_
     repeat refine c_seq ?_
     refine c_region ?_
     refine l_op (o_val (r_as) ?_)
     refine l_op (o_val (r_as) ?_)
     first | refine l_end ?_ | refine l_nil ?_
     refine c_ret ?_
     try dsimp only [Exit.then, Exit.inBlock]
     refine e_retN (vs := [.string ⟨(([] : List UInt8)).toArray⟩, VI 1]) _ Try.results66 rfl (resT (v := .string ⟨(([] : List UInt8)).toArray⟩) rfl (resT (v := VI 1) rfl (resZ))) ?_
     refine ⟨_, rfl, ?_⟩
     have hm := may_out (i := i) hc1 (by omega)
     exact ⟨[], by rw [hm], fun h => by omega, fun _ => rfl, H.sub (.cons_cons _ (.cons_cons _ (.cons_cons _ (List.nil_sublist _))))⟩
    ·
     repeat refine c_seq ?_
     refine c_no (by exact congrArg Value.bool (decide_eq_false hc3)) ?_
     refine c_skip ?_
     repeat refine c_seq ?_
     refine c_region ?_
     refine l_op (o_val (r_mv) ?_)
     refine l_op (o_val (r_nilc rfl) ?_)
     refine l_op (o_val (r_fa rfl fo106_1) ?_)
     refine l_op (o_val (r_ld (v := .slice (hd z.a2) z.D.last.length z.c2) H (i := 0) rfl rfl ct49 rfl) ?_)
     refine l_op (o_val (r_mv) ?_)
     have ah5 := H.ownAddr (i := 2) rfl (by omega)
     obtain ⟨ab4, ah5⟩ := ah5
     refine l_op (o_val (r_isN ((i).toNat) rfl rfl el49 ah5 (by omega) (by (try simp only [Sl.cut]); omega)) ?_)
     have he7 : ∃ c, (rwf z.D 0)[(i).toNat]? = some c := ⟨_, List.getElem?_eq_getElem (by have := ((H.glOwn (i := 2) rfl (by decide) (fun _ _ => rfl))).ln; (try dsimp only at this ⊢); omega)⟩
     obtain ⟨e6, he7⟩ := he7
     have hez8 := ((H.glOwn (i := 2) rfl (by decide) (fun _ _ => rfl))).sz e6 (List.mem_of_getElem? he7)
     have hrw_e6 := rwf_elem (by omega) he7
     refine l_op (o_val (r_gc (v := .string ⟨(e6).toArray⟩) (s := (⟨hd z.a2, z.D.last.length, z.c2, rwf z.D 0⟩ : Gl (List UInt8))) (j := (i).toNat) (H.glOwn (i := 2) rfl (by decide) (fun _ _ => rfl)) ah5 rfl ct9 he7 rfl) ?_)
     refine l_op (o_val (r_strne (a := e6) (b := ([] : List UInt8)) rfl rfl) ?_)
     first | refine l_end ?_ | refine l_nil ?_
     by_cases hc9 : e6 = ([] : List UInt8)
     ·
      repeat refine c_seq ?_
      refine c_no (by exact congrArg Value.bool (congrArg not (decide_eq_true hc9))) ?_
      refine c_skip ?_
      repeat refine c_seq ?_
      refine c_region ?_
      refine l_op (o_val (r_mv) ?_)
      refine l_op (o_val (r_nilc rfl) ?_)
      refine l_op (o_val (r_fa rfl fo106_0) ?_)
      refine l_op (o_val (r_ld (v := .slice (hd z.a1) z.D.last.length z.c1) H (i := 0) rfl rfl ct49 rfl) ?_)
      refine l_op (o_val (r_mv) ?_)
      have ah11 := H.ownAddr (i := 1) rfl (by omega)
      obtain ⟨ab10, ah11⟩ := ah11
      refine l_op (o_val (r_isN ((i).toNat) rfl rfl el49 ah11 (by omega) (by (try simp only [Sl.cut]); omega)) ?_)
      have he13 : ∃ c, (z.D.last)[(i).toNat]? = some c := ⟨_, List.getElem?_eq_getElem (by have := ((H.glOwn (i := 1) rfl (by decide) (fun _ _ => rfl))).ln; (try dsimp only at this ⊢); omega)⟩
      obtain ⟨e12, he13⟩ := he13
      have hez14 := ((H.glOwn (i := 1) rfl (by decide) (fun _ _ => rfl))).sz e12 (List.mem_of_getElem? he13)
      have hrl_e12 := True.intro
      refine l_op (o_val (r_gc (v := .string ⟨(e12).toArray⟩) (s := (⟨hd z.a1, z.D.last.length, z.c1, z.D.last⟩ : Gl (List UInt8))) (j := (i).toNat) (H.glOwn (i := 1) rfl (by decide) (fun _ _ => rfl)) ah11 rfl ct9 he13 rfl) ?_)
      refine l_op (o_val (r_as) ?_)
      refine l_op (o_val (r_as) ?_)
      first | refine l_end ?_ | refine l_nil ?_
      refine c_ret ?_
      try dsimp only [Exit.then, Exit.inBlock]
      refine e_retN (vs := [.string ⟨(e12).toArray⟩, VI 0]) _ Try.results66 rfl (resT (v := .string ⟨(e12).toArray⟩) rfl (resT (v := VI 0) rfl (resZ))) ?_
      refine ⟨_, rfl, ?_⟩
      have hm := may_in (i := i) hc1 (by omega) (by omega)
      have hnat : ((i.toNat : Nat) : Int) = i := by omega
      rw [hnat] at hrw_e6
      exact ⟨e12, by rw [hm], fun _ => (dRead_l hz.D hrw_e6 (of_decide_eq_true (decide_eq_true hc9)) he13).symm, fun h => absurd hm h, H.sub (.cons_cons _ (.cons_cons _ (.cons_cons _ (List.nil_sublist _))))⟩
     ·
      repeat refine c_seq ?_
      refine c_yes (by exact congrArg Value.bool (congrArg not (decide_eq_false hc9))) ?_
      repeat refine c_seq ?_
      refine c_region ?_
      refine l_op (o_val (r_mv) ?_)
      refine l_op (o_val (r_nilc rfl) ?_)
      refine l_op (o_val (r_fa rfl fo106_1) ?_)
      refine l_op (o_val (r_ld (v := .slice (hd z.a2) z.D.last.length z.c2) H (i := 0) rfl rfl ct49 rfl) ?_)
      refine l_op (o_val (r_mv) ?_)
      refine l_op (o_val (r_isN ((i).toNat) rfl rfl el49 ah5 (by omega) (by (try simp only [Sl.cut]); omega)) ?_)
      refine l_op (o_val (r_gc (v := .string ⟨(e6).toArray⟩) (s := (⟨hd z.a2, z.D.last.length, z.c2, rwf z.D 0⟩ : Gl (List UInt8))) (j := (i).toNat) (H.glOwn (i := 2) rfl (by decide) (fun _ _ => rfl)) ah5 rfl ct9 he7 rfl) ?_)
      refine l_op (o_val (r_as) ?_)
      refine l_op (o_val (r_as) ?_)
      first | refine l_end ?_ | refine l_nil ?_
      refine c_ret ?_
      try dsimp only [Exit.then, Exit.inBlock]
      refine e_retN (vs := [.string ⟨(e6).toArray⟩, VI 0]) _ Try.results66 rfl (resT (v := .string ⟨(e6).toArray⟩) rfl (resT (v := VI 0) rfl (resZ))) ?_
      refine ⟨_, rfl, ?_⟩
      have hm := may_in (i := i) hc1 (by omega) (by omega)
      have hnat : ((i.toNat : Nat) : Int) = i := by omega
      rw [hnat] at hrw_e6
      exact ⟨e6, by rw [hm], fun _ => (dRead_w hrw_e6 (of_decide_eq_false (decide_eq_false hc9))).symm, fun h => absurd hm h, H.sub (.cons_cons _ (.cons_cons _ (.cons_cons _ (List.nil_sublist _))))⟩
theorem rwrite_ret (w0 : World) (rb : Nat) (z : RDW) (hO : Own w0 (rkc rb z)) (hz : z.ok) (i : Int) (l : List UInt8) (hwr : 0 ≤ z.D.writes ∧ z.D.writes ≤ 4611686018427387904) :
    Ret Try.prog 60 [.pointer (some ⟨rb, 0, none⟩), VI i, .string ⟨(l).toArray⟩] w0 fun v w' => v = VI (dWriteE z.D i l) ∧ RDLeft w0 w' rb z (dWrite z.D i l) := by
  refine ret_mk Try.func60 rfl Try.ntmps60 (by simp) ?_
  have H : Hp w0 w0 (keys (rkc rb z)) [.blk rb ([.slice (hd z.a1) z.D.last.length z.c1, .slice (hd z.a2) z.D.last.length z.c2, .bool z.D.off, VI z.D.armed, VI z.D.part, VI z.D.way, .string ⟨(z.cm).toArray⟩, VI z.D.writes, VI z.D.lives]) 106, .own z.a1 z.D.last.length z.c1 ((z.D.last).flatMap strD) 9 1, .own z.a2 z.D.last.length z.c2 ((rwf z.D 0).flatMap strD) 9 1] := hO.start
  have hzn := hz.D.n
  have hza := hz.D.armed
  have hzp := hz.D.part
  have hzw := hz.D.way
  have hzf := hz.D.fl
  have hmL : maxLen = 9223372036854775807 := rfl
  repeat refine c_seq ?_
  refine c_region ?_
  refine l_op (o_val (r_as) ?_)
  first | refine l_end ?_ | refine l_nil ?_
  repeat refine c_seq ?_
  refine c_region ?_
  refine l_op (o_val (r_mv) ?_)
  refine l_op (o_val (r_nilc rfl) ?_)
  refine l_op (o_val (r_fa rfl fo106_2) ?_)
  refine l_op (o_val (r_ld (v := .bool z.D.off) H (i := 0) rfl rfl ct4 rfl) ?_)
  first | refine l_end ?_ | refine l_nil ?_
  have hc10 := Bool.eq_false_or_eq_true (z.D.off)
  rcases hc10 with hc1 | hc1
  ·
   repeat refine c_seq ?_
   refine c_yes (by exact congrArg Value.bool hc1) ?_
   repeat refine c_seq ?_
   refine c_region ?_
   refine l_op (o_val (r_as) ?_)
   first | refine l_end ?_ | refine l_nil ?_
   refine c_ret ?_
   try dsimp only [Exit.then, Exit.inBlock]
   refine e_ret1 (v := VI 8) Try.results60 rfl ?_
   refine ⟨_, rfl, ?_⟩
   have hm := may_off (i := i) hc1
   obtain ⟨e1, e2⟩ := dW_may (l := l) (show ¬ dMay z.D i = 0 by omega)
   rw [e1, e2, hm]
   exact ⟨rfl, z, rfl, hz, H.sub (.cons_cons _ (.cons_cons _ (.cons_cons _ (List.nil_sublist _))))⟩
  ·
   repeat refine c_seq ?_
   refine c_no (by exact congrArg Value.bool hc1) ?_
   refine c_skip ?_
   repeat refine c_seq ?_
   refine c_region ?_
   refine l_op (o_val (r_mv) ?_)
   refine l_op (o_val (r_bin (a := i) (b := 0) rfl rfl (fun _ => b_lss)) ?_)
   refine l_op (o_val (r_mv) ?_)
   by_cases hc2 : i < 0
   ·
    refine l_no rfl rfl (by exact congrArg Value.bool (decide_eq_true hc2)) rfl ?_
    refine l_no rfl rfl (by exact congrArg Value.bool (decide_eq_true hc2)) rfl ?_
    refine l_no rfl rfl (by exact congrArg Value.bool (decide_eq_true hc2)) rfl ?_
    refine l_no rfl rfl (by exact congrArg Value.bool (decide_eq_true hc2)) rfl ?_
    refine l_no rfl rfl (by exact congrArg Value.bool (decide_eq_true hc2)) rfl ?_
    refine l_no rfl rfl (by exact congrArg Value.bool (decide_eq_true hc2)) rfl ?_
    refine l_no rfl rfl (by exact congrArg Value.bool (decide_eq_true hc2)) rfl ?_
    refine l_op (o_val (r_pick (b := true) (congrArg Value.bool (decide_eq_true hc2))) ?_)
    first | refine l_end ?_ | refine l_nil ?_
    repeat refine c_seq ?_
    refine c_yes rfl ?_
    repeat refine c_seq ?_
    refine c_region ?_
    refine l_op (o_val (r_as) ?_)
    first | refine l_end ?_ | refine l_nil ?_
    refine c_ret ?_
    try dsimp only [Exit.then, Exit.inBlock]
    refine e_ret1 (v := VI 1) Try.results60 rfl ?_
    refine ⟨_, rfl, ?_⟩
    have hm := may_out (i := i) hc1 (by omega)
    obtain ⟨e1, e2⟩ := dW_may (l := l) (show ¬ dMay z.D i = 0 by omega)
    rw [e1, e2, hm]
    exact ⟨rfl, z, rfl, hz, H.sub (.cons_cons _ (.cons_cons _ (.cons_cons _ (List.nil_sublist _))))⟩
   ·
    refine l_yes rfl rfl (by exact congrArg Value.bool (decide_eq_false hc2)) (o_val (r_mv) ?_)
    refine l_yes rfl rfl (by exact congrArg Value.bool (decide_eq_false hc2)) (o_val (r_mv) ?_)
    refine l_yes rfl rfl (by exact congrArg Value.bool (decide_eq_false hc2)) (o_val (r_nilc rfl) ?_)
    refine l_yes rfl rfl (by exact congrArg Value.bool (decide_eq_false hc2)) (o_val (r_fa rfl fo106_0) ?_)
    refine l_yes rfl rfl (by exact congrArg Value.bool (decide_eq_false hc2)) (o_val (r_ld (v := .slice (hd z.a1) z.D.last.length z.c1) H (i := 0) rfl rfl ct49 rfl) ?_)
    refine l_yes rfl rfl (by exact congrArg Value.bool (decide_eq_false hc2)) (o_val (r_lens el49 rfl) ?_)
    refine l_yes rfl rfl (by exact congrArg Value.bool (decide_eq_false hc2)) (o_val (r_bin (a := i) (b := (z.D.last.length : Int)) rfl rfl (fun _ => b_geq)) ?_)
    refine l_op (o_val (r_pick (b := false) (congrArg Value.bool (decide_eq_false hc2))) ?_)
    first | refine l_end ?_ | refine l_nil ?_
    by_cases hc3 : (z.D.last.length : Int) ≤ i
    ·
     repeat refine c_seq ?_
     refine c_yes (by exact congrArg Value.bool (decide_eq_true hc3)) ?_
     repeat refine c_seq ?_
     refine c_region ?_
     refine l_op (o_val (r_as) ?_)
     first | refine l_end ?_ | refine l_nil ?_
     refine c_ret ?_
     try dsimp only [Exit.then, Exit.inBlock]
     refine e_ret1 (v := VI 1) Try.results60 rfl ?_
     refine ⟨_, rfl, ?_⟩
     have hm := may_out (i := i) hc1 (by omega)
     obtain ⟨e1, e2⟩ := dW_may (l := l) (show ¬ dMay z.D i = 0 by omega)
     rw [e1, e2, hm]
     exact ⟨rfl, z, rfl, hz, H.sub (.cons_cons _ (.cons_cons _ (.cons_cons _ (List.nil_sublist _))))⟩
    ·
     repeat refine c_seq ?_
     refine c_no (by exact congrArg Value.bool (decide_eq_false hc3)) ?_
     refine c_skip ?_
     repeat refine c_seq ?_
     refine c_region ?_
     refine l_op (o_val (r_mv) ?_)
     refine l_op (o_val (r_lenstr (s := ⟨(l).toArray⟩) Try.underlying9 rfl) ?_)
     refine l_op (o_val (r_bin (a := ((l).length : Int)) (b := 512) rfl rfl (fun _ => b_neq)) ?_)
     first | refine l_end ?_ | refine l_nil ?_
     by_cases hc4 : ((l).length : Int) ≠ 512
     ·
      repeat refine c_seq ?_
      refine c_yes (by exact congrArg Value.bool (decide_eq_true hc4)) ?_
      repeat refine c_seq ?_
      refine c_region ?_
      refine l_op (o_val (r_as) ?_)
      first | refine l_end ?_ | refine l_nil ?_
      refine c_ret ?_
      try dsimp only [Exit.then, Exit.inBlock]
      refine e_ret1 (v := VI 9) Try.results60 rfl ?_
      refine ⟨_, rfl, ?_⟩
      have hm := may_in (i := i) hc1 (by omega) (by omega)
      obtain ⟨e1, e2⟩ := dW_len (l := l) hm (by omega)
      rw [e1, e2]
      exact ⟨rfl, z, rfl, hz, H.sub (.cons_cons _ (.cons_cons _ (.cons_cons _ (List.nil_sublist _))))⟩
     ·
      repeat refine c_seq ?_
      refine c_no (by exact congrArg Value.bool (decide_eq_false hc4)) ?_
      refine c_skip ?_
      repeat refine c_seq ?_
      refine c_region ?_
      refine l_op (o_val (r_mv) ?_)
      by_cases hc5 : z.D.armed = 0
      ·
       refine l_op (o_callR Try.func76 rfl rfl rfl (rgo0_ret (H.has _ (List.mem_of_getElem? (i := 0) rfl)) (of_decide_eq_true (decide_eq_true hc5))) ?_)
       rintro _ w ⟨rfl, Hc⟩
       replace H := (H.callA (i := 0) rfl rfl rfl Hc)
       clear Hc
       replace H : Hp _ w _ ([.blk rb ([.slice (hd z.a1) z.D.last.length z.c1, .slice (hd z.a2) z.D.last.length z.c2, .bool true, VI z.D.armed, VI z.D.part, VI z.D.way, .string ⟨(z.cm).toArray⟩, VI z.D.writes, VI z.D.lives]) 106, .own z.a1 z.D.last.length z.c1 ((z.D.last).flatMap strD) 9 1, .own z.a2 z.D.last.length z.c2 ((rwf z.D 0).flatMap strD) 9 1]) := H
       refine l_op (o_val (r_not rfl) ?_)
       first | refine l_end ?_ | refine l_nil ?_
       repeat refine c_seq ?_
       refine c_yes rfl ?_
       repeat refine c_seq ?_
       refine wp_held (fun w => Hp w0 w (keys (rkc rb z)) [.own z.a1 z.D.last.length z.c1 ((z.D.last).flatMap strD) 9 1, .own z.a2 z.D.last.length z.c2 ((rwf z.D 0).flatMap strD) 9 1]) mixed ?_
       replace H := H.drew
       have HS := H.sub (.cons _ (.cons_cons _ (.cons_cons _ (List.nil_sublist _))))
       refine t_take 0 rfl (by kernel_rfl) (by kernel_rfl) (by kernel_rfl) (fun _ _ _ h => h) (fun w HS => r_mv) HS ?_
       refine t_take 1 rfl (by kernel_rfl) (by kernel_rfl) (by kernel_rfl) (fun _ _ _ h => h) (fun w HS => r_mv) HS ?_
       refine t_take 2 rfl (by kernel_rfl) (by kernel_rfl) (by kernel_rfl) (fun _ _ _ h => h) (fun w HS => r_mv) HS ?_
       refine t_take 3 rfl (by kernel_rfl) (by kernel_rfl) (by kernel_rfl) (fun _ _ _ h => h) (fun w HS => r_mv) HS ?_
       refine t_take 4 rfl (by kernel_rfl) (by kernel_rfl) (by kernel_rfl) (fun _ _ _ h => h) (fun w HS => r_mv) HS ?_
       refine t_take 5 rfl (by kernel_rfl) (by kernel_rfl) (by kernel_rfl) (fun _ _ _ h => h) (fun w HS => r_nilc rfl) HS ?_
       refine t_take 6 rfl (by kernel_rfl) (by kernel_rfl) (by kernel_rfl) (fun _ _ _ h => h) (fun w HS => r_fa rfl fo106_4) HS ?_
       refine t_step 7 rfl (by kernel_rfl) (o_val (r_ld (v := VI z.D.part) H (i := 0) rfl rfl ct3 rfl) ?_)
       refine ⟨H.sub (.cons _ (.cons_cons _ (.cons_cons _ (List.nil_sublist _)))), ?_⟩
       replace HS := H.sub (.cons _ (.cons_cons _ (.cons_cons _ (List.nil_sublist _))))
       refine t_take 8 rfl (by kernel_rfl) (by kernel_rfl) (by kernel_rfl) (fun _ _ _ h => h) (fun w HS => r_slstrH (l := l) (h := ((z.D.part).toNat)) (j := z.D.part) Try.underlying9 rfl rfl (by omega) (by omega)) HS ?_
       refine t_take 9 rfl (by kernel_rfl) (by kernel_rfl) (by kernel_rfl) (fun _ _ _ h => h) (fun w HS => r_nilc rfl) HS ?_
       refine t_take 10 rfl (by kernel_rfl) (by kernel_rfl) (by kernel_rfl) (fun _ _ _ h => h) (fun w HS => r_fa rfl fo106_5) HS ?_
       refine t_step 11 rfl (by kernel_rfl) (o_st (v := VI i) H (i := 0) rfl rfl rfl cs3 rfl (by simp only [List.length_cons, List.length_nil]; omega) (fun w H => ?_))
       replace H : Hp _ w _ ([.blk rb ([.slice (hd z.a1) z.D.last.length z.c1, .slice (hd z.a2) z.D.last.length z.c2, .bool true, VI z.D.armed, VI z.D.part, VI i, .string ⟨(z.cm).toArray⟩, VI z.D.writes, VI z.D.lives]) 106, _, _]) := H
       refine ⟨H.sub (.cons _ (.cons_cons _ (.cons_cons _ (List.nil_sublist _)))), ?_⟩
       replace HS := H.sub (.cons _ (.cons_cons _ (.cons_cons _ (List.nil_sublist _))))
       refine t_take 12 rfl (by kernel_rfl) (by kernel_rfl) (by kernel_rfl) (fun _ _ _ h => h) (fun w HS => r_nilc rfl) HS ?_
       refine t_take 13 rfl (by kernel_rfl) (by kernel_rfl) (by kernel_rfl) (fun _ _ _ h => h) (fun w HS => r_fa rfl fo106_6) HS ?_
       refine t_step 14 rfl (by kernel_rfl) (o_st (v := .string ⟨((l).take ((z.D.part).toNat)).toArray⟩) H (i := 0) rfl rfl rfl cs9 rfl (by simp only [List.length_cons, List.length_nil]; omega) (fun w H => ?_))
       replace H : Hp _ w _ ([.blk rb ([.slice (hd z.a1) z.D.last.length z.c1, .slice (hd z.a2) z.D.last.length z.c2, .bool true, VI z.D.armed, VI z.D.part, VI i, .string ⟨((l).take ((z.D.part).toNat)).toArray⟩, VI z.D.writes, VI z.D.lives]) 106, _, _]) := H
       refine ⟨H.sub (.cons _ (.cons_cons _ (.cons_cons _ (List.nil_sublist _)))), ?_⟩
       replace HS := H.sub (.cons _ (.cons_cons _ (.cons_cons _ (List.nil_sublist _))))
       refine t_done (by kernel_rfl) ?_
       clear HS
       repeat refine c_seq ?_
       refine c_region ?_
       refine l_op (o_val (r_as) ?_)
       first | refine l_end ?_ | refine l_nil ?_
       refine c_ret ?_
       try dsimp only [Exit.then, Exit.inBlock]
       refine e_ret1 (v := VI 8) Try.results60 rfl ?_
       refine ⟨_, rfl, ?_⟩
       have hm := may_in (i := i) hc1 (by omega) (by omega)
       obtain ⟨e1, e2⟩ := dW_dead (l := l) hm (by omega) (by omega)
       rw [e1, e2]
       have H2 := H.sub (.cons_cons _ (.cons_cons _ (.cons_cons _ (List.nil_sublist _))))
       rw [show (l).take ((z.D.part).toNat) = l.take z.D.part.toNat from by simp] at H2
       exact ⟨rfl, { z with D := { z.D with off := true, way := i, front := l.take z.D.part.toNat }, cm := l.take z.D.part.toNat }, rfl, ⟨⟨hz.D.n, hz.D.hl, hz.D.hw, hz.D.armed, hz.D.part, (by dsimp only; omega), (by dsimp only; rw [List.length_take]; omega)⟩, fun _ => rfl⟩, H2⟩
      ·
       refine l_op (o_callR Try.func76 rfl rfl rfl (rgo1_ret (H.has _ (List.mem_of_getElem? (i := 0) rfl)) (of_decide_eq_false (decide_eq_false hc5)) (by omega)) ?_)
       rintro _ w ⟨rfl, Hc⟩
       replace H := (H.callA (i := 0) rfl rfl rfl Hc)
       clear Hc
       replace H : Hp _ w _ ([.blk rb ([.slice (hd z.a1) z.D.last.length z.c1, .slice (hd z.a2) z.D.last.length z.c2, .bool z.D.off, VI (dDec z.D.armed), VI z.D.part, VI z.D.way, .string ⟨(z.cm).toArray⟩, VI z.D.writes, VI z.D.lives]) 106, .own z.a1 z.D.last.length z.c1 ((z.D.last).flatMap strD) 9 1, .own z.a2 z.D.last.length z.c2 ((rwf z.D 0).flatMap strD) 9 1]) := H
       refine l_op (o_val (r_not rfl) ?_)
       first | refine l_end ?_ | refine l_nil ?_
       repeat refine c_seq ?_
       refine c_no rfl ?_
       refine c_skip ?_
       repeat refine c_seq ?_
       refine c_region ?_
       refine l_op (o_val (r_mv) ?_)
       refine l_op (o_val (r_nilc rfl) ?_)
       refine l_op (o_val (r_fa rfl fo106_1) ?_)
       refine l_op (o_val (r_ld (v := .slice (hd z.a2) z.D.last.length z.c2) H (i := 0) rfl rfl ct49 rfl) ?_)
       refine l_op (o_val (r_mv) ?_)
       refine l_op (o_val (r_mv) ?_)
       have ah7 := H.ownAddr (i := 2) rfl (by omega)
       obtain ⟨ab6, ah7⟩ := ah7
       refine l_op (o_val (r_isN ((i).toNat) rfl rfl el49 ah7 (by omega) (by (try simp only [Sl.cut]); omega)) ?_)
       have he9 : ∃ c, (rwf z.D 0)[(i).toNat]? = some c := ⟨_, List.getElem?_eq_getElem (by have := ((H.glOwn (i := 2) rfl (by decide) (fun _ _ => rfl))).ln; (try dsimp only at this ⊢); omega)⟩
       obtain ⟨e8, he9⟩ := he9
       refine l_op (o_stGV (enc := strD) (off := 0) (V := ([.string ⟨(l).toArray⟩] : List Value)) (k := (i).toNat) l H (i := 2) rfl (fun _ _ => rfl) rfl ah7 rfl (by rfl) cs9 (by rfl) (by simp [Value.oneCell']) he9 (show Cut3 (strD e8) [] (strD e8) [] 0 1 from ⟨rfl, rfl, rfl⟩) rfl (fun w H => ?_))
       replace H : Hp _ w _ ([_, _, .own z.a2 z.D.last.length z.c2 (((rwf z.D 0).set ((i).toNat) l).flatMap strD) 9 1]) := H
       first | refine l_end ?_ | refine l_nil ?_
       repeat refine c_seq ?_
       refine c_region ?_
       refine l_op (o_val (r_mv) ?_)
       refine l_op (o_val (r_nilc rfl) ?_)
       refine l_op (o_val (r_fa rfl fo106_7) ?_)
       refine l_op (o_val (r_ld (v := VI z.D.writes) H (i := 0) rfl rfl ct3 rfl) ?_)
       refine l_op (o_val (r_bin (a := z.D.writes) (b := 1) rfl rfl (fun _ => b_add (by omega) (by omega))) ?_)
       refine l_op (o_val (r_nilc rfl) ?_)
       refine l_op (o_val (r_fa rfl fo106_7) ?_)
       refine l_op (o_st (v := VI (z.D.writes + 1)) H (i := 0) rfl rfl rfl cs3 rfl (by simp only [List.length_cons, List.length_nil]; omega) (fun w H => ?_))
       replace H : Hp _ w _ ([.blk rb ([.slice (hd z.a1) z.D.last.length z.c1, .slice (hd z.a2) z.D.last.length z.c2, .bool z.D.off, VI (dDec z.D.armed), VI z.D.part, VI z.D.way, .string ⟨(z.cm).toArray⟩, VI (z.D.writes + 1), VI z.D.lives]) 106, _, _]) := H
       first | refine l_end ?_ | refine l_nil ?_
       repeat refine c_seq ?_
       refine c_region ?_
       refine l_op (o_val (r_as) ?_)
       first | refine l_end ?_ | refine l_nil ?_
       refine c_ret ?_
       try dsimp only [Exit.then, Exit.inBlock]
       refine e_ret1 (v := VI 0) Try.results60 rfl ?_
       refine ⟨_, rfl, ?_⟩
       have hm := may_in (i := i) hc1 (by omega) (by omega)
       obtain ⟨e1, e2⟩ := dW_goes (l := l) hm (by omega) (by omega)
       rw [e1, e2]
       have H2 := H.sub (.cons_cons _ (.cons_cons _ (.cons_cons _ (List.nil_sublist _))))
       rw [rwf_put (dDec z.D.armed) (z.D.writes + 1) (by omega)] at H2
       exact ⟨rfl, { z with D := { z.D with armed := dDec z.D.armed, wait := fput z.D.wait i l, writes := z.D.writes + 1 } }, rfl, ⟨hz.D.put (dDec_bd hz.D.armed) (by omega) (by omega) (by omega), hz.cm⟩, H2⟩
theorem rarm_ret (w0 : World) (rb : Nat) (z : RDW) (hO : Own w0 (rkc rb z)) (hz : z.ok) (n part : Int) (hn : n ≤ 9223372036854775807) :
    Ret Try.prog 65 [.pointer (some ⟨rb, 0, none⟩), VI n, VI part] w0 fun v w' => v = .tuple #[] ∧ RDLeft w0 w' rb z (dArm z.D n part) := by
  refine ret_mk Try.func65 rfl Try.ntmps65 (by simp) ?_
  have H : Hp w0 w0 (keys (rkc rb z)) [.blk rb ([.slice (hd z.a1) z.D.last.length z.c1, .slice (hd z.a2) z.D.last.length z.c2, .bool z.D.off, VI z.D.armed, VI z.D.part, VI z.D.way, .string ⟨(z.cm).toArray⟩, VI z.D.writes, VI z.D.lives]) 106, .own z.a1 z.D.last.length z.c1 ((z.D.last).flatMap strD) 9 1, .own z.a2 z.D.last.length z.c2 ((rwf z.D 0).flatMap strD) 9 1] := hO.start
  have hzn := hz.D.n
  have hza := hz.D.armed
  have hzp := hz.D.part
  have hzw := hz.D.way
  have hzf := hz.D.fl
  have hmL : maxLen = 9223372036854775807 := rfl
  repeat refine c_seq ?_
  refine c_region ?_
  refine l_op (o_val (r_mv) ?_)
  refine l_op (o_val (r_mv) ?_)
  refine l_op (o_val (r_mv) ?_)
  refine l_op (o_val (r_mv) ?_)
  refine l_op (o_val (r_nilc rfl) ?_)
  refine l_op (o_val (r_fa rfl fo106_3) ?_)
  refine l_op (o_st (v := VI n) H (i := 0) rfl rfl rfl cs3 rfl (by simp only [List.length_cons, List.length_nil]; omega) (fun w H => ?_))
  replace H : Hp _ w _ ([.blk rb ([.slice (hd z.a1) z.D.last.length z.c1, .slice (hd z.a2) z.D.last.length z.c2, .bool z.D.off, VI n, VI z.D.part, VI z.D.way, .string ⟨(z.cm).toArray⟩, VI z.D.writes, VI z.D.lives]) 106, .own z.a1 z.D.last.length z.c1 ((z.D.last).flatMap strD) 9 1, .own z.a2 z.D.last.length z.c2 ((rwf z.D 0).flatMap strD) 9 1]) := H
  refine l_op (o_val (r_nilc rfl) ?_)
  refine l_op (o_val (r_fa rfl fo106_4) ?_)
  refine l_op (o_st (v := VI part) H (i := 0) rfl rfl rfl cs3 rfl (by simp only [List.length_cons, List.length_nil]; omega) (fun w H => ?_))
  replace H : Hp _ w _ ([.blk rb ([.slice (hd z.a1) z.D.last.length z.c1, .slice (hd z.a2) z.D.last.length z.c2, .bool z.D.off, VI n, VI part, VI z.D.way, .string ⟨(z.cm).toArray⟩, VI z.D.writes, VI z.D.lives]) 106, _, _]) := H
  first | refine l_end ?_ | refine l_nil ?_
  repeat refine c_seq ?_
  refine c_region ?_
  refine l_op (o_val (r_mv) ?_)
  refine l_op (o_val (r_bin (a := n) (b := 0) rfl rfl (fun _ => b_lss)) ?_)
  first | refine l_end ?_ | refine l_nil ?_
  by_cases hc1 : n < 0
  ·
   repeat refine c_seq ?_
   refine c_yes (by exact congrArg Value.bool (decide_eq_true hc1)) ?_
   repeat refine c_seq ?_
   refine c_region ?_
   refine l_op (o_val (r_mv) ?_)
   refine l_op (o_val (r_nilc rfl) ?_)
   refine l_op (o_val (r_fa rfl fo106_3) ?_)
   refine l_op (o_st (v := VI (-1)) H (i := 0) rfl rfl rfl cs3 rfl (by simp only [List.length_cons, List.length_nil]; omega) (fun w H => ?_))
   replace H : Hp _ w _ ([.blk rb ([.slice (hd z.a1) z.D.last.length z.c1, .slice (hd z.a2) z.D.last.length z.c2, .bool z.D.off, VI (-1), VI part, VI z.D.way, .string ⟨(z.cm).toArray⟩, VI z.D.writes, VI z.D.lives]) 106, _, _]) := H
   first | refine l_end ?_ | refine l_nil ?_
   repeat refine c_seq ?_
   refine c_region ?_
   refine l_op (o_val (r_mv) ?_)
   refine l_op (o_val (r_bin (a := part) (b := 0) rfl rfl (fun _ => b_lss)) ?_)
   first | refine l_end ?_ | refine l_nil ?_
   by_cases hc2 : part < 0
   ·
    repeat refine c_seq ?_
    refine c_yes (by exact congrArg Value.bool (decide_eq_true hc2)) ?_
    repeat refine c_seq ?_
    refine c_region ?_
    refine l_op (o_val (r_mv) ?_)
    refine l_op (o_val (r_nilc rfl) ?_)
    refine l_op (o_val (r_fa rfl fo106_4) ?_)
    refine l_op (o_st (v := VI 0) H (i := 0) rfl rfl rfl cs3 rfl (by simp only [List.length_cons, List.length_nil]; omega) (fun w H => ?_))
    replace H : Hp _ w _ ([.blk rb ([.slice (hd z.a1) z.D.last.length z.c1, .slice (hd z.a2) z.D.last.length z.c2, .bool z.D.off, VI (-1), VI 0, VI z.D.way, .string ⟨(z.cm).toArray⟩, VI z.D.writes, VI z.D.lives]) 106, _, _]) := H
    first | refine l_end ?_ | refine l_nil ?_
    repeat refine c_seq ?_
    refine c_region ?_
    refine l_op (o_val (r_mv) ?_)
    refine l_op (o_val (r_bin (a := part) (b := 512) rfl rfl (fun _ => b_gtr)) ?_)
    first | refine l_end ?_ | refine l_nil ?_
    by_cases hc3 : 512 < part
    ·
     repeat refine c_seq ?_
     refine c_yes (by exact congrArg Value.bool (decide_eq_true hc3)) ?_
     repeat refine c_seq ?_
     refine c_region ?_
     refine l_op (o_val (r_mv) ?_)
     refine l_op (o_val (r_nilc rfl) ?_)
     refine l_op (o_val (r_fa rfl fo106_4) ?_)
     refine l_op (o_st (v := VI 512) H (i := 0) rfl rfl rfl cs3 rfl (by simp only [List.length_cons, List.length_nil]; omega) (fun w H => ?_))
     replace H : Hp _ w _ ([.blk rb ([.slice (hd z.a1) z.D.last.length z.c1, .slice (hd z.a2) z.D.last.length z.c2, .bool z.D.off, VI (-1), VI 512, VI z.D.way, .string ⟨(z.cm).toArray⟩, VI z.D.writes, VI z.D.lives]) 106, _, _]) := H
     first | refine l_end ?_ | refine l_nil ?_
     try simp only [Exit.then, Exit.inBlock, ↓reduceIte]
     refine e_norm ?_
     refine e_ret0 Try.results65 ?_
     refine ⟨_, rfl, ?_⟩
     have e1 : ((-1) : Int) = (if n < -1 then -1 else n) := by (repeat' split) <;> omega
     have e2 : (512 : Int) = (if 512 < (if part < 0 then 0 else part) then 512 else if part < 0 then 0 else part) := by (repeat' split) <;> omega
     rw [e1, e2] at H
     exact ⟨rfl, { z with D := dArm z.D n part }, rfl, ⟨⟨hz.D.n, hz.D.hl, hz.D.hw, (by dsimp only [dArm]; split <;> omega), (by dsimp only [dArm]; (repeat' split) <;> omega), hz.D.way, hz.D.fl⟩, hz.cm⟩, H.sub (.cons_cons _ (.cons_cons _ (.cons_cons _ (List.nil_sublist _))))⟩
    ·
     repeat refine c_seq ?_
     refine c_no (by exact congrArg Value.bool (decide_eq_false hc3)) ?_
     refine c_skip ?_
     try simp only [Exit.then, Exit.inBlock, ↓reduceIte]
     refine e_norm ?_
     refine e_ret0 Try.results65 ?_
     refine ⟨_, rfl, ?_⟩
     have e1 : ((-1) : Int) = (if n < -1 then -1 else n) := by (repeat' split) <;> omega
     have e2 : (0 : Int) = (if 512 < (if part < 0 then 0 else part) then 512 else if part < 0 then 0 else part) := by (repeat' split) <;> omega
     rw [e1, e2] at H
     exact ⟨rfl, { z with D := dArm z.D n part }, rfl, ⟨⟨hz.D.n, hz.D.hl, hz.D.hw, (by dsimp only [dArm]; split <;> omega), (by dsimp only [dArm]; (repeat' split) <;> omega), hz.D.way, hz.D.fl⟩, hz.cm⟩, H.sub (.cons_cons _ (.cons_cons _ (.cons_cons _ (List.nil_sublist _))))⟩
   ·
    repeat refine c_seq ?_
    refine c_no (by exact congrArg Value.bool (decide_eq_false hc2)) ?_
    refine c_skip ?_
    repeat refine c_seq ?_
    refine c_region ?_
    refine l_op (o_val (r_mv) ?_)
    refine l_op (o_val (r_bin (a := part) (b := 512) rfl rfl (fun _ => b_gtr)) ?_)
    first | refine l_end ?_ | refine l_nil ?_
    by_cases hc4 : 512 < part
    ·
     repeat refine c_seq ?_
     refine c_yes (by exact congrArg Value.bool (decide_eq_true hc4)) ?_
     repeat refine c_seq ?_
     refine c_region ?_
     refine l_op (o_val (r_mv) ?_)
     refine l_op (o_val (r_nilc rfl) ?_)
     refine l_op (o_val (r_fa rfl fo106_4) ?_)
     refine l_op (o_st (v := VI 512) H (i := 0) rfl rfl rfl cs3 rfl (by simp only [List.length_cons, List.length_nil]; omega) (fun w H => ?_))
     replace H : Hp _ w _ ([.blk rb ([.slice (hd z.a1) z.D.last.length z.c1, .slice (hd z.a2) z.D.last.length z.c2, .bool z.D.off, VI (-1), VI 512, VI z.D.way, .string ⟨(z.cm).toArray⟩, VI z.D.writes, VI z.D.lives]) 106, _, _]) := H
     first | refine l_end ?_ | refine l_nil ?_
     try simp only [Exit.then, Exit.inBlock, ↓reduceIte]
     refine e_norm ?_
     refine e_ret0 Try.results65 ?_
     refine ⟨_, rfl, ?_⟩
     have e1 : ((-1) : Int) = (if n < -1 then -1 else n) := by (repeat' split) <;> omega
     have e2 : (512 : Int) = (if 512 < (if part < 0 then 0 else part) then 512 else if part < 0 then 0 else part) := by (repeat' split) <;> omega
     rw [e1, e2] at H
     exact ⟨rfl, { z with D := dArm z.D n part }, rfl, ⟨⟨hz.D.n, hz.D.hl, hz.D.hw, (by dsimp only [dArm]; split <;> omega), (by dsimp only [dArm]; (repeat' split) <;> omega), hz.D.way, hz.D.fl⟩, hz.cm⟩, H.sub (.cons_cons _ (.cons_cons _ (.cons_cons _ (List.nil_sublist _))))⟩
    ·
     repeat refine c_seq ?_
     refine c_no (by exact congrArg Value.bool (decide_eq_false hc4)) ?_
     refine c_skip ?_
     try simp only [Exit.then, Exit.inBlock, ↓reduceIte]
     refine e_norm ?_
     refine e_ret0 Try.results65 ?_
     refine ⟨_, rfl, ?_⟩
     have e1 : ((-1) : Int) = (if n < -1 then -1 else n) := by (repeat' split) <;> omega
     have e2 : (part : Int) = (if 512 < (if part < 0 then 0 else part) then 512 else if part < 0 then 0 else part) := by (repeat' split) <;> omega
     rw [e1, e2] at H
     exact ⟨rfl, { z with D := dArm z.D n part }, rfl, ⟨⟨hz.D.n, hz.D.hl, hz.D.hw, (by dsimp only [dArm]; split <;> omega), (by dsimp only [dArm]; (repeat' split) <;> omega), hz.D.way, hz.D.fl⟩, hz.cm⟩, H.sub (.cons_cons _ (.cons_cons _ (.cons_cons _ (List.nil_sublist _))))⟩
  ·
   repeat refine c_seq ?_
   refine c_no (by exact congrArg Value.bool (decide_eq_false hc1)) ?_
   refine c_skip ?_
   repeat refine c_seq ?_
   refine c_region ?_
   refine l_op (o_val (r_mv) ?_)
   refine l_op (o_val (r_bin (a := part) (b := 0) rfl rfl (fun _ => b_lss)) ?_)
   first | refine l_end ?_ | refine l_nil ?_
   by_cases hc5 : part < 0
   ·
    repeat refine c_seq ?_
    refine c_yes (by exact congrArg Value.bool (decide_eq_true hc5)) ?_
    repeat refine c_seq ?_
    refine c_region ?_
    refine l_op (o_val (r_mv) ?_)
    refine l_op (o_val (r_nilc rfl) ?_)
    refine l_op (o_val (r_fa rfl fo106_4) ?_)
    refine l_op (o_st (v := VI 0) H (i := 0) rfl rfl rfl cs3 rfl (by simp only [List.length_cons, List.length_nil]; omega) (fun w H => ?_))
    replace H : Hp _ w _ ([.blk rb ([.slice (hd z.a1) z.D.last.length z.c1, .slice (hd z.a2) z.D.last.length z.c2, .bool z.D.off, VI n, VI 0, VI z.D.way, .string ⟨(z.cm).toArray⟩, VI z.D.writes, VI z.D.lives]) 106, _, _]) := H
    first | refine l_end ?_ | refine l_nil ?_
    repeat refine c_seq ?_
    refine c_region ?_
    refine l_op (o_val (r_mv) ?_)
    refine l_op (o_val (r_bin (a := part) (b := 512) rfl rfl (fun _ => b_gtr)) ?_)
    first | refine l_end ?_ | refine l_nil ?_
    by_cases hc6 : 512 < part
    ·
     repeat refine c_seq ?_
     refine c_yes (by exact congrArg Value.bool (decide_eq_true hc6)) ?_
     repeat refine c_seq ?_
     refine c_region ?_
     refine l_op (o_val (r_mv) ?_)
     refine l_op (o_val (r_nilc rfl) ?_)
     refine l_op (o_val (r_fa rfl fo106_4) ?_)
     refine l_op (o_st (v := VI 512) H (i := 0) rfl rfl rfl cs3 rfl (by simp only [List.length_cons, List.length_nil]; omega) (fun w H => ?_))
     replace H : Hp _ w _ ([.blk rb ([.slice (hd z.a1) z.D.last.length z.c1, .slice (hd z.a2) z.D.last.length z.c2, .bool z.D.off, VI n, VI 512, VI z.D.way, .string ⟨(z.cm).toArray⟩, VI z.D.writes, VI z.D.lives]) 106, _, _]) := H
     first | refine l_end ?_ | refine l_nil ?_
     try simp only [Exit.then, Exit.inBlock, ↓reduceIte]
     refine e_norm ?_
     refine e_ret0 Try.results65 ?_
     refine ⟨_, rfl, ?_⟩
     have e1 : (n : Int) = (if n < -1 then -1 else n) := by (repeat' split) <;> omega
     have e2 : (512 : Int) = (if 512 < (if part < 0 then 0 else part) then 512 else if part < 0 then 0 else part) := by (repeat' split) <;> omega
     rw [e1, e2] at H
     exact ⟨rfl, { z with D := dArm z.D n part }, rfl, ⟨⟨hz.D.n, hz.D.hl, hz.D.hw, (by dsimp only [dArm]; split <;> omega), (by dsimp only [dArm]; (repeat' split) <;> omega), hz.D.way, hz.D.fl⟩, hz.cm⟩, H.sub (.cons_cons _ (.cons_cons _ (.cons_cons _ (List.nil_sublist _))))⟩
    ·
     repeat refine c_seq ?_
     refine c_no (by exact congrArg Value.bool (decide_eq_false hc6)) ?_
     refine c_skip ?_
     try simp only [Exit.then, Exit.inBlock, ↓reduceIte]
     refine e_norm ?_
     refine e_ret0 Try.results65 ?_
     refine ⟨_, rfl, ?_⟩
     have e1 : (n : Int) = (if n < -1 then -1 else n) := by (repeat' split) <;> omega
     have e2 : (0 : Int) = (if 512 < (if part < 0 then 0 else part) then 512 else if part < 0 then 0 else part) := by (repeat' split) <;> omega
     rw [e1, e2] at H
     exact ⟨rfl, { z with D := dArm z.D n part }, rfl, ⟨⟨hz.D.n, hz.D.hl, hz.D.hw, (by dsimp only [dArm]; split <;> omega), (by dsimp only [dArm]; (repeat' split) <;> omega), hz.D.way, hz.D.fl⟩, hz.cm⟩, H.sub (.cons_cons _ (.cons_cons _ (.cons_cons _ (List.nil_sublist _))))⟩
   ·
    repeat refine c_seq ?_
    refine c_no (by exact congrArg Value.bool (decide_eq_false hc5)) ?_
    refine c_skip ?_
    repeat refine c_seq ?_
    refine c_region ?_
    refine l_op (o_val (r_mv) ?_)
    refine l_op (o_val (r_bin (a := part) (b := 512) rfl rfl (fun _ => b_gtr)) ?_)
    first | refine l_end ?_ | refine l_nil ?_
    by_cases hc7 : 512 < part
    ·
     repeat refine c_seq ?_
     refine c_yes (by exact congrArg Value.bool (decide_eq_true hc7)) ?_
     repeat refine c_seq ?_
     refine c_region ?_
     refine l_op (o_val (r_mv) ?_)
     refine l_op (o_val (r_nilc rfl) ?_)
     refine l_op (o_val (r_fa rfl fo106_4) ?_)
     refine l_op (o_st (v := VI 512) H (i := 0) rfl rfl rfl cs3 rfl (by simp only [List.length_cons, List.length_nil]; omega) (fun w H => ?_))
     replace H : Hp _ w _ ([.blk rb ([.slice (hd z.a1) z.D.last.length z.c1, .slice (hd z.a2) z.D.last.length z.c2, .bool z.D.off, VI n, VI 512, VI z.D.way, .string ⟨(z.cm).toArray⟩, VI z.D.writes, VI z.D.lives]) 106, _, _]) := H
     first | refine l_end ?_ | refine l_nil ?_
     try simp only [Exit.then, Exit.inBlock, ↓reduceIte]
     refine e_norm ?_
     refine e_ret0 Try.results65 ?_
     refine ⟨_, rfl, ?_⟩
     have e1 : (n : Int) = (if n < -1 then -1 else n) := by (repeat' split) <;> omega
     have e2 : (512 : Int) = (if 512 < (if part < 0 then 0 else part) then 512 else if part < 0 then 0 else part) := by (repeat' split) <;> omega
     rw [e1, e2] at H
     exact ⟨rfl, { z with D := dArm z.D n part }, rfl, ⟨⟨hz.D.n, hz.D.hl, hz.D.hw, (by dsimp only [dArm]; split <;> omega), (by dsimp only [dArm]; (repeat' split) <;> omega), hz.D.way, hz.D.fl⟩, hz.cm⟩, H.sub (.cons_cons _ (.cons_cons _ (.cons_cons _ (List.nil_sublist _))))⟩
    ·
     repeat refine c_seq ?_
     refine c_no (by exact congrArg Value.bool (decide_eq_false hc7)) ?_
     refine c_skip ?_
     try simp only [Exit.then, Exit.inBlock, ↓reduceIte]
     refine e_norm ?_
     refine e_ret0 Try.results65 ?_
     refine ⟨_, rfl, ?_⟩
     have e1 : (n : Int) = (if n < -1 then -1 else n) := by (repeat' split) <;> omega
     have e2 : (part : Int) = (if 512 < (if part < 0 then 0 else part) then 512 else if part < 0 then 0 else part) := by (repeat' split) <;> omega
     rw [e1, e2] at H
     exact ⟨rfl, { z with D := dArm z.D n part }, rfl, ⟨⟨hz.D.n, hz.D.hl, hz.D.hw, (by dsimp only [dArm]; split <;> omega), (by dsimp only [dArm]; (repeat' split) <;> omega), hz.D.way, hz.D.fl⟩, hz.cm⟩, H.sub (.cons_cons _ (.cons_cons _ (.cons_cons _ (List.nil_sublist _))))⟩
theorem rflush_ret (w0 : World) (rb : Nat) (z : RDW) (hO : Own w0 (rkc rb z)) (hz : z.ok) :
    Ret Try.prog 64 [.pointer (some ⟨rb, 0, none⟩)] w0 fun v w' => v = VI (dFlushE z.D) ∧ RDLeft w0 w' rb z (dFlush z.D) := by
  refine ret_mk Try.func64 rfl Try.ntmps64 (by simp) ?_
  have H : Hp w0 w0 (keys (rkc rb z)) [.blk rb ([.slice (hd z.a1) z.D.last.length z.c1, .slice (hd z.a2) z.D.last.length z.c2, .bool z.D.off, VI z.D.armed, VI z.D.part, VI z.D.way, .string ⟨(z.cm).toArray⟩, VI z.D.writes, VI z.D.lives]) 106, .own z.a1 z.D.last.length z.c1 ((z.D.last).flatMap strD) 9 1, .own z.a2 z.D.last.length z.c2 ((rwf z.D 0).flatMap strD) 9 1] := hO.start
  have hzn := hz.D.n
  have hza := hz.D.armed
  have hzp := hz.D.part
  have hzw := hz.D.way
  have hzf := hz.D.fl
  have hmL : maxLen = 9223372036854775807 := rfl
  repeat refine c_seq ?_
  refine c_region ?_
  refine l_op (o_val (r_as) ?_)
  first | refine l_end ?_ | refine l_nil ?_
  repeat refine c_seq ?_
  refine c_region ?_
  refine l_op (o_val (r_mv) ?_)
  refine l_op (o_val (r_nilc rfl) ?_)
  refine l_op (o_val (r_fa rfl fo106_2) ?_)
  refine l_op (o_val (r_ld (v := .bool z.D.off) H (i := 0) rfl rfl ct4 rfl) ?_)
  first | refine l_end ?_ | refine l_nil ?_
  have hc10 := Bool.eq_false_or_eq_true (z.D.off)
  rcases hc10 with hc1 | hc1
  ·
   repeat refine c_seq ?_
   refine c_yes (by exact congrArg Value.bool hc1) ?_
   repeat refine c_seq ?_
   refine c_region ?_
   refine l_op (o_val (r_as) ?_)
   first | refine l_end ?_ | refine l_nil ?_
   refine c_ret ?_
   try dsimp only [Exit.then, Exit.inBlock]
   refine e_ret1 (v := VI 8) Try.results64 rfl ?_
   refine ⟨_, rfl, ?_⟩
   obtain ⟨e1, e2⟩ := dF_off hz.D hc1
   rw [e1, e2]
   exact ⟨rfl, z, rfl, hz, H.sub (.cons_cons _ (.cons_cons _ (.cons_cons _ (List.nil_sublist _))))⟩
  ·
   repeat refine c_seq ?_
   refine c_no (by exact congrArg Value.bool hc1) ?_
   refine c_skip ?_
   repeat refine c_seq ?_
   refine c_region ?_
   refine l_op (o_val (r_mv) ?_)
   by_cases hc2 : z.D.armed = 0
   ·
    refine l_op (o_callR Try.func76 rfl rfl rfl (rgo0_ret (H.has _ (List.mem_of_getElem? (i := 0) rfl)) (of_decide_eq_true (decide_eq_true hc2))) ?_)
    rintro _ w ⟨rfl, Hc⟩
    replace H := (H.callA (i := 0) rfl rfl rfl Hc)
    clear Hc
    replace H : Hp _ w _ ([.blk rb ([.slice (hd z.a1) z.D.last.length z.c1, .slice (hd z.a2) z.D.last.length z.c2, .bool true, VI z.D.armed, VI z.D.part, VI z.D.way, .string ⟨(z.cm).toArray⟩, VI z.D.writes, VI z.D.lives]) 106, .own z.a1 z.D.last.length z.c1 ((z.D.last).flatMap strD) 9 1, .own z.a2 z.D.last.length z.c2 ((rwf z.D 0).flatMap strD) 9 1]) := H
    refine l_op (o_val (r_not rfl) ?_)
    first | refine l_end ?_ | refine l_nil ?_
    repeat refine c_seq ?_
    refine c_yes rfl ?_
    repeat refine c_seq ?_
    refine c_region ?_
    refine l_op (o_val (r_as) ?_)
    first | refine l_end ?_ | refine l_nil ?_
    refine c_ret ?_
    try dsimp only [Exit.then, Exit.inBlock]
    refine e_ret1 (v := VI 8) Try.results64 rfl ?_
    refine ⟨_, rfl, ?_⟩
    obtain ⟨e1, e2⟩ := dF_dead hz.D hc1 (by omega)
    rw [e1, e2]
    exact ⟨rfl, { z with D := { z.D with off := true } }, rfl, ⟨⟨hz.D.n, hz.D.hl, hz.D.hw, hz.D.armed, hz.D.part, hz.D.way, hz.D.fl⟩, hz.cm⟩, H.sub (.cons_cons _ (.cons_cons _ (.cons_cons _ (List.nil_sublist _))))⟩
   ·
    refine l_op (o_callR Try.func76 rfl rfl rfl (rgo1_ret (H.has _ (List.mem_of_getElem? (i := 0) rfl)) (of_decide_eq_false (decide_eq_false hc2)) (by omega)) ?_)
    rintro _ w ⟨rfl, Hc⟩
    replace H := (H.callA (i := 0) rfl rfl rfl Hc)
    clear Hc
    replace H : Hp _ w _ ([.blk rb ([.slice (hd z.a1) z.D.last.length z.c1, .slice (hd z.a2) z.D.last.length z.c2, .bool z.D.off, VI (dDec z.D.armed), VI z.D.part, VI z.D.way, .string ⟨(z.cm).toArray⟩, VI z.D.writes, VI z.D.lives]) 106, .own z.a1 z.D.last.length z.c1 ((z.D.last).flatMap strD) 9 1, .own z.a2 z.D.last.length z.c2 ((rwf z.D 0).flatMap strD) 9 1]) := H
    refine l_op (o_val (r_not rfl) ?_)
    first | refine l_end ?_ | refine l_nil ?_
    repeat refine c_seq ?_
    refine c_no rfl ?_
    refine c_skip ?_
    repeat refine c_seq ?_
    refine c_region ?_
    refine l_op (o_val (r_as) ?_)
    first | refine l_end ?_ | refine l_nil ?_
    repeat refine c_seq ?_
    refine c_block ?_
    repeat refine c_seq ?_
    refine c_loop (fun (i : Nat) => [(0, .pointer (some ⟨rb, 0, none⟩)), (3, VI (i : Int))])
      (fun (i : Nat) w => (i ≤ z.D.last.length) ∧ Hp w0 w (keys (rkc rb z)) ([.blk rb ([.slice (hd z.a1) z.D.last.length z.c1, .slice (hd z.a2) z.D.last.length z.c2, .bool z.D.off, VI (dDec z.D.armed), VI z.D.part, VI z.D.way, .string ⟨(z.cm).toArray⟩, VI z.D.writes, VI z.D.lives]) 106, .own z.a1 z.D.last.length z.c1 ((fli z.D i).flatMap strD) 9 1, .own z.a2 z.D.last.length z.c2 ((rwf z.D i).flatMap strD) 9 1]))
      (fun (i : Nat) => z.D.last.length - i) 0 ⟨rfl, rfl, trivial⟩ ⟨(Nat.zero_le _), (by rw [fli_zero]; exact H)⟩ ?_
    clear H
    rintro i τ w ⟨hi, H⟩
    have hrl := rwf_len z.D i
    have hfl := fli_len z.D i
    repeat refine c_seq ?_
    refine c_region ?_
    refine l_op (o_val (r_mv) ?_)
    refine l_op (o_val (r_mv) ?_)
    refine l_op (o_val (r_nilc rfl) ?_)
    refine l_op (o_val (r_fa rfl fo106_0) ?_)
    refine l_op (o_val (r_ld (v := .slice (hd z.a1) z.D.last.length z.c1) H (i := 0) rfl rfl ct49 rfl) ?_)
    refine l_op (o_val (r_lens el49 rfl) ?_)
    refine l_op (o_val (r_bin (a := (i : Int)) (b := (z.D.last.length : Int)) rfl rfl (fun _ => b_lss)) ?_)
    first | refine l_end ?_ | refine l_nil ?_
    by_cases hc3 : (i : Int) < (z.D.last.length : Int)
    ·
     repeat refine c_seq ?_
     refine c_yes (by exact congrArg Value.bool (decide_eq_true hc3)) ?_
     refine c_skip ?_
     repeat refine c_seq ?_
     refine c_block ?_
     repeat refine c_seq ?_
     refine c_region ?_
     refine l_op (o_val (r_mv) ?_)
     refine l_op (o_val (r_nilc rfl) ?_)
     refine l_op (o_val (r_fa rfl fo106_1) ?_)
     refine l_op (o_val (r_ld (v := .slice (hd z.a2) z.D.last.length z.c2) H (i := 0) rfl rfl ct49 rfl) ?_)
     refine l_op (o_val (r_mv) ?_)
     have ah5 := H.ownAddr (i := 2) rfl (by omega)
     obtain ⟨ab4, ah5⟩ := ah5
     refine l_op (o_val (r_isN i rfl rfl el49 ah5 (by omega) (by (try simp only [Sl.cut]); omega)) ?_)
     have he7 : ∃ c, (rwf z.D i)[i]? = some c := ⟨_, List.getElem?_eq_getElem (by have := ((H.glOwn (i := 2) rfl (by decide) (fun _ _ => rfl))).ln; (try dsimp only at this ⊢); omega)⟩
     obtain ⟨e6, he7⟩ := he7
     have hez8 := ((H.glOwn (i := 2) rfl (by decide) (fun _ _ => rfl))).sz e6 (List.mem_of_getElem? he7)
     have hrw_e6 := rwf_elem (by omega) he7
     refine l_op (o_val (r_gc (v := .string ⟨(e6).toArray⟩) (s := (⟨hd z.a2, z.D.last.length, z.c2, rwf z.D i⟩ : Gl (List UInt8))) (j := i) (H.glOwn (i := 2) rfl (by decide) (fun _ _ => rfl)) ah5 rfl ct9 he7 rfl) ?_)
     refine l_op (o_val (r_strne (a := e6) (b := ([] : List UInt8)) rfl rfl) ?_)
     first | refine l_end ?_ | refine l_nil ?_
     by_cases hc9 : e6 = ([] : List UInt8)
     ·
      repeat refine c_seq ?_
      refine c_no (by exact congrArg Value.bool (congrArg not (decide_eq_true hc9))) ?_
      refine c_skip ?_
      repeat refine c_seq ?_
      refine c_region ?_
      refine l_op (o_val (r_mv) ?_)
      refine l_op (o_val (r_bin (a := (i : Int)) (b := 1) rfl rfl (fun _ => b_add (by omega) (by omega))) ?_)
      refine l_op (o_val (r_as) ?_)
      first | refine l_end ?_ | refine l_nil ?_
      obtain ⟨hs1, hs2⟩ := fli_skip (D := z.D) (i := i) (wait_none hz.D (by rw [← hrw_e6]; exact of_decide_eq_true (decide_eq_true hc9)))
      rw [← hs1, ← hs2] at H
      refine round_end (i + 1) ?_ ?_ ?_
      · exact ⟨rfl, show VI ((i : Int) + 1) = VI ((i + 1 : Nat) : Int) from congrArg VI (by omega), trivial⟩
      · refine ⟨?_, ?_⟩
        · try dsimp only
          exact by omega
        · exact H.sub (.cons_cons _ (.cons_cons _ (.cons_cons _ (List.nil_sublist _))))
      · show z.D.last.length - (i + 1 : Nat) < z.D.last.length - i; omega
     ·
      repeat refine c_seq ?_
      refine c_yes (by exact congrArg Value.bool (congrArg not (decide_eq_false hc9))) ?_
      repeat refine c_seq ?_
      refine wp_held (fun w => Hp w0 w (keys (rkc rb z)) [.blk rb ([.slice (hd z.a1) z.D.last.length z.c1, .slice (hd z.a2) z.D.last.length z.c2, .bool z.D.off, VI (dDec z.D.armed), VI z.D.part, VI z.D.way, .string ⟨(z.cm).toArray⟩, VI z.D.writes, VI z.D.lives]) 106]) mixed ?_
      replace H := H.drew
      have HS := H.sub (.cons_cons _ (List.nil_sublist _))
      refine t_take 0 rfl (by kernel_rfl) (by kernel_rfl) (by kernel_rfl) (fun _ _ _ h => h) (fun w HS => r_mv) HS ?_
      refine t_take 1 rfl (by kernel_rfl) (by kernel_rfl) (by kernel_rfl) (fun _ _ _ h => h) (fun w HS => r_nilc rfl) HS ?_
      refine t_take 2 rfl (by kernel_rfl) (by kernel_rfl) (by kernel_rfl) (fun _ _ _ h => h) (fun w HS => r_fa rfl fo106_0) HS ?_
      refine t_take 3 rfl (by kernel_rfl) (by kernel_rfl) (by kernel_rfl) (fun _ _ _ h => h) (fun w HS => r_ld (v := .slice (hd z.a1) z.D.last.length z.c1) HS (i := 0) rfl rfl ct49 rfl) HS ?_
      refine t_take 4 rfl (by kernel_rfl) (by kernel_rfl) (by kernel_rfl) (fun _ _ _ h => h) (fun w HS => r_mv) HS ?_
      refine t_take 5 rfl (by kernel_rfl) (by kernel_rfl) (by kernel_rfl) (fun _ _ _ h => h) (fun w HS => r_mv) HS ?_
      refine t_take 6 rfl (by kernel_rfl) (by kernel_rfl) (by kernel_rfl) (fun _ _ _ h => h) (fun w HS => r_nilc rfl) HS ?_
      refine t_take 7 rfl (by kernel_rfl) (by kernel_rfl) (by kernel_rfl) (fun _ _ _ h => h) (fun w HS => r_fa rfl fo106_1) HS ?_
      refine t_take 8 rfl (by kernel_rfl) (by kernel_rfl) (by kernel_rfl) (fun _ _ _ h => h) (fun w HS => r_ld (v := .slice (hd z.a2) z.D.last.length z.c2) HS (i := 0) rfl rfl ct49 rfl) HS ?_
      refine t_take 9 rfl (by kernel_rfl) (by kernel_rfl) (by kernel_rfl) (fun _ _ _ h => h) (fun w HS => r_mv) HS ?_
      refine t_take 10 rfl (by kernel_rfl) (by kernel_rfl) (by kernel_rfl) (fun _ _ _ h => h) (fun w HS => r_mv) HS ?_
      refine t_take 11 rfl (by kernel_rfl) (by kernel_rfl) (by kernel_rfl) (fun _ _ _ h => h) (fun w HS => r_nilc rfl) HS ?_
      refine t_take 12 rfl (by kernel_rfl) (by kernel_rfl) (by kernel_rfl) (fun _ _ _ h => h) (fun w HS => r_fa rfl fo106_1) HS ?_
      refine t_take 13 rfl (by kernel_rfl) (by kernel_rfl) (by kernel_rfl) (fun _ _ _ h => h) (fun w HS => r_ld (v := .slice (hd z.a2) z.D.last.length z.c2) HS (i := 0) rfl rfl ct49 rfl) HS ?_
      refine t_take 14 rfl (by kernel_rfl) (by kernel_rfl) (by kernel_rfl) (fun _ _ _ h => h) (fun w HS => r_mv) HS ?_
      refine t_take 15 rfl (by kernel_rfl) (by kernel_rfl) (by kernel_rfl) (fun _ _ _ h => h) (fun w HS => r_isN i rfl rfl el49 ah5 (by omega) (by (try simp only [Sl.cut]); omega)) HS ?_
      refine t_step 16 rfl (by kernel_rfl) (o_val (r_gc (v := .string ⟨(e6).toArray⟩) (s := (⟨hd z.a2, z.D.last.length, z.c2, rwf z.D i⟩ : Gl (List UInt8))) (j := i) (H.glOwn (i := 2) rfl (by decide) (fun _ _ => rfl)) ah5 rfl ct9 he7 rfl) ?_)
      refine ⟨H.sub (.cons_cons _ (List.nil_sublist _)), ?_⟩
      replace HS := H.sub (.cons_cons _ (List.nil_sublist _))
      have ah11 := H.ownAddr (i := 1) rfl (by omega)
      obtain ⟨ab10, ah11⟩ := ah11
      refine t_step 17 rfl (by kernel_rfl) (o_val (r_isN i rfl rfl el49 ah11 (by omega) (by (try simp only [Sl.cut]); omega)) ?_)
      refine ⟨H.sub (.cons_cons _ (List.nil_sublist _)), ?_⟩
      replace HS := H.sub (.cons_cons _ (List.nil_sublist _))
      have he13 : ∃ c, (fli z.D i)[i]? = some c := ⟨_, List.getElem?_eq_getElem (by have := ((H.glOwn (i := 1) rfl (by decide) (fun _ _ => rfl))).ln; (try dsimp only at this ⊢); omega)⟩
      obtain ⟨e12, he13⟩ := he13
      refine t_step 18 rfl (by kernel_rfl) (o_stGV (enc := strD) (off := 0) (V := ([.string ⟨(e6).toArray⟩] : List Value)) (k := i) e6 H (i := 1) rfl (fun _ _ => rfl) rfl ah11 rfl (by rfl) cs9 (by rfl) (by simp [Value.oneCell']) he13 (show Cut3 (strD e12) [] (strD e12) [] 0 1 from ⟨rfl, rfl, rfl⟩) rfl (fun w H => ?_))
      replace H : Hp _ w _ ([_, .own z.a1 z.D.last.length z.c1 (((fli z.D i).set i e6).flatMap strD) 9 1, _]) := H
      refine ⟨H.sub (.cons_cons _ (List.nil_sublist _)), ?_⟩
      replace HS := H.sub (.cons_cons _ (List.nil_sublist _))
      refine t_take 19 rfl (by kernel_rfl) (by kernel_rfl) (by kernel_rfl) (fun _ _ _ h => h) (fun w HS => r_isN i rfl rfl el49 ah5 (by omega) (by (try simp only [Sl.cut]); omega)) HS ?_
      refine t_step 20 rfl (by kernel_rfl) (o_stGV (enc := strD) (off := 0) (V := ([.string ⟨(([] : List UInt8)).toArray⟩] : List Value)) (k := i) ([] : List UInt8) H (i := 2) rfl (fun _ _ => rfl) rfl ah5 rfl (by rfl) cs9 (by rfl) (by simp [Value.oneCell']) he7 (show Cut3 (strD e6) [] (strD e6) [] 0 1 from ⟨rfl, rfl, rfl⟩) rfl (fun w H => ?_))
      replace H : Hp _ w _ ([_, _, .own z.a2 z.D.last.length z.c2 (((rwf z.D i).set i ([] : List UInt8)).flatMap strD) 9 1]) := H
      refine ⟨H.sub (.cons_cons _ (List.nil_sublist _)), ?_⟩
      replace HS := H.sub (.cons_cons _ (List.nil_sublist _))
      refine t_done (by kernel_rfl) ?_
      clear HS
      repeat refine c_seq ?_
      refine c_region ?_
      refine l_op (o_val (r_mv) ?_)
      refine l_op (o_val (r_bin (a := (i : Int)) (b := 1) rfl rfl (fun _ => b_add (by omega) (by omega))) ?_)
      refine l_op (o_val (r_as) ?_)
      first | refine l_end ?_ | refine l_nil ?_
      have hws : z.D.wait (i : Int) = some e6 := by rw [hrw_e6]; exact wait_some (by rw [← hrw_e6]; exact of_decide_eq_false (decide_eq_false hc9))
      rw [fli_put hws, rwf_step] at H
      refine round_end (i + 1) ?_ ?_ ?_
      · exact ⟨rfl, show VI ((i : Int) + 1) = VI ((i + 1 : Nat) : Int) from congrArg VI (by omega), trivial⟩
      · refine ⟨?_, ?_⟩
        · try dsimp only
          exact by omega
        · exact H.sub (.cons_cons _ (.cons_cons _ (.cons_cons _ (List.nil_sublist _))))
      · show z.D.last.length - (i + 1 : Nat) < z.D.last.length - i; omega
    ·
     repeat refine c_seq ?_
     refine c_no (by exact congrArg Value.bool (decide_eq_false hc3)) ?_
     refine c_exit ?_
     repeat refine c_seq ?_
     refine c_region ?_
     refine l_op (o_val (r_as) ?_)
     first | refine l_end ?_ | refine l_nil ?_
     refine c_ret ?_
     try dsimp only [Exit.then, Exit.inBlock]
     refine e_ret1 (v := VI 0) Try.results64 rfl ?_
     refine ⟨_, rfl, ?_⟩
     have hok := dF_ok hz.D
     obtain ⟨e1, e2⟩ := dF_goes hz.D hc1 (by omega)
     have H2 := H.sub (.cons_cons _ (.cons_cons _ (.cons_cons _ (List.nil_sublist _))))
     rw [e2] at hok
     obtain ⟨f1, f2⟩ := fli_end (D := z.D) (D' := { z.D with armed := dDec z.D.armed, last := z.D.last.mapIdx (fun j e => (z.D.wait j).getD e), wait := fun _ => none }) (i := i) (by omega) (List.length_mapIdx ..) (fun _ => rfl)
     rw [f1, f2, ← (List.length_mapIdx .. : (z.D.last.mapIdx (fun (j : Nat) e => (z.D.wait (j : Int)).getD e)).length = z.D.last.length)] at H2
     rw [e1, e2]
     exact ⟨rfl, { z with D := { z.D with armed := dDec z.D.armed, last := z.D.last.mapIdx (fun j e => (z.D.wait j).getD e), wait := fun _ => none } }, rfl, ⟨hok, hz.cm⟩, H2⟩
end Go.Proofs.Ytncmcgcilijfkaa
namespace Go.Proofs.Ytncmcgcilijfkaa
open Go
set_option maxRecDepth 100000
theorem dLast_512 {D : DD} (hD : D.ok) (vis : List Int) : ∀ l ∈ dLast D vis, l.length = 512 := fun l h => by
  obtain ⟨j, hj⟩ := List.getElem?_of_mem h
  rw [dLast, List.getElem?_mapIdx] at hj
  cases he : D.last[j]? with
  | none => rw [he] at hj; cases hj
  | some x =>
    rw [he] at hj
    simp only [Option.map_some, Option.some.injEq] at hj
    subst hj
    have hx := hD.hl _ (List.mem_of_getElem? he)
    split
    · cases hw : D.wait (j : Int) with
      | none => exact hx
      | some y => exact (hD.hw _ _ hw).2.2
    · exact hx
def wp (D : DD) (i : Nat) : List Int := ((List.range i).filter (fun j : Nat => (D.wait (j : Int)).isSome)).map (fun j : Nat => (j : Int))
theorem wp_all (D : DD) : wp D D.last.length = dWaiting D := rfl
theorem wp_some {D : DD} {i : Nat} {c : List UInt8} (h : D.wait (i : Int) = some c) : wp D (i + 1) = wp D i ++ [(i : Int)] ∧ (wp D (i + 1)).length = (wp D i).length + 1 := by
  have e : wp D (i + 1) = wp D i ++ [(i : Int)] := by
    rw [wp, List.range_succ, List.filter_append, List.map_append, ← wp]
    simp [h]
  exact ⟨e, by rw [e, List.length_append]; rfl⟩
theorem wp_none {D : DD} {i : Nat} (h : D.wait (i : Int) = none) : wp D (i + 1) = wp D i := by
  rw [wp, List.range_succ, List.filter_append, List.map_append, ← wp]
  simp [h]
theorem wp_len (D : DD) (i : Nat) : (wp D i).length ≤ i := by
  rw [wp, List.length_map]
  exact Nat.le_trans (List.length_filter_le ..) (by rw [List.length_range]; exact Nat.le_refl _)
theorem dLast_nil (D : DD) : dLast D [] = D.last := by
  apply List.ext_getElem?
  intro j
  rw [dLast, List.getElem?_mapIdx]
  cases D.last[j]? <;> simp
theorem dLast_put {D : DD} {vis : List Int} {i : Nat} {c : List UInt8} (hw : D.wait (i : Int) = some c) : (dLast D vis).set i c = dLast D (vis ++ [(i : Int)]) := by
  apply List.ext_getElem?
  intro j
  rw [List.getElem?_set, dLast_len, dLast, dLast, List.getElem?_mapIdx, List.getElem?_mapIdx]
  by_cases hj : i = j
  · subst hj
    rw [if_pos rfl]
    by_cases hl : i < D.last.length
    · rw [if_pos hl, List.getElem?_eq_getElem hl]
      simp [hw]
    · rw [if_neg hl, List.getElem?_eq_none (by omega)]; rfl
  · rw [if_neg hj]
    have e : ¬ (j : Int) = (i : Int) := by omega
    cases D.last[j]? with
    | none => rfl
    | some x => simp [e]
theorem kp_yes {D : DD} {ks : List Bool} {i : Nat} {c : List UInt8} (h : D.wait (i : Int) = some c) (hk : ks[(wp D i).length]? = some true) : kp (wp D (i + 1)) ks = kp (wp D i) ks ++ [(i : Int)] := by
  rw [(wp_some h).1, kp_snoc, if_pos hk]
theorem kp_no {D : DD} {ks : List Bool} {i : Nat} {c : List UInt8} (h : D.wait (i : Int) = some c) (hk : ¬ ks[(wp D i).length]? = some true) : kp (wp D (i + 1)) ks = kp (wp D i) ks := by
  rw [(wp_some h).1, kp_snoc, if_neg hk, List.append_nil]
theorem dPow_set {D : DD} {ks : List Bool} {e cm : List UInt8} (hw : ¬ D.way < 0) (he : (dLast D (kp (dWaiting D) ks))[D.way.toNat]? = some e) (hc : cm = D.front) : (dLast D (kp (dWaiting D) ks)).set D.way.toNat (cm ++ e.drop cm.length) = dPow D ks := by
  have e2 : (dLast D (kp (dWaiting D) ks)).getD D.way.toNat [] = e := by rw [List.getD_eq_getElem?_getD, he]; rfl
  rw [dPow, if_neg hw, e2, hc]
theorem dP_ok {D : DD} (hD : D.ok) (ks : List Bool) : (dPower D ks).ok := by
  have hl : (dPower D ks).last.length = D.last.length := dPow_len D ks
  have hn := hD.n
  refine ⟨by rw [hl]; exact hD.n, fun l h => ?_, fun i l h => (by cases h), (by show (-1 : Int) ≤ -1 ∧ (-1 : Int) ≤ _; omega), hD.part, (by rw [hl]; show (-1 : Int) ≤ -1 ∧ (-1 : Int) < _; omega), Nat.zero_le _⟩
  have h' : l ∈ dPow D ks := h
  rw [dPow] at h'
  split at h'
  · exact dLast_512 hD _ l h'
  · rcases List.mem_or_eq_of_mem_set h' with h1 | h1
    · exact dLast_512 hD _ l h1
    · have hwy := hD.way
      have hfl := hD.fl
      have hlen : D.way.toNat < (dLast D (kp (dWaiting D) ks)).length := by rw [dLast_len]; omega
      rw [h1, List.getD_eq_getElem?_getD, List.getElem?_eq_getElem hlen, Option.getD_some, List.length_append, List.length_drop, dLast_512 hD _ _ (List.getElem_mem hlen)]
      omega
theorem rwaiting_ret (w0 : World) (rb : Nat) (z : RDW) (hO : Own w0 (rkc rb z)) (hz : z.ok) :
    Ret Try.prog 67 [.pointer (some ⟨rb, 0, none⟩)] w0 fun v w' => ∃ a c, v = .slice (hd a) (dWaiting z.D).length c ∧ Hp w0 w' (keys (rkc rb z)) (rkc rb z ++ [.own a (dWaiting z.D).length c ((dWaiting z.D).flatMap intE) 3 1]) := by
  refine ret_mk Try.func67 rfl Try.ntmps67 (by simp) ?_
  have H : Hp w0 w0 (keys (rkc rb z)) [.blk rb ([.slice (hd z.a1) z.D.last.length z.c1, .slice (hd z.a2) z.D.last.length z.c2, .bool z.D.off, VI z.D.armed, VI z.D.part, VI z.D.way, .string ⟨(z.cm).toArray⟩, VI z.D.writes, VI z.D.lives]) 106, .own z.a1 z.D.last.length z.c1 ((z.D.last).flatMap strD) 9 1, .own z.a2 z.D.last.length z.c2 ((rwf z.D 0).flatMap strD) 9 1] := hO.start
  have hzn := hz.D.n
  have hza := hz.D.armed
  have hzp := hz.D.part
  have hzw := hz.D.way
  have hzf := hz.D.fl
  have hmL : maxLen = 9223372036854775807 := rfl
  repeat refine c_seq ?_
  refine c_region ?_
  refine l_op (o_val (r_as) ?_)
  first | refine l_end ?_ | refine l_nil ?_
  repeat refine c_seq ?_
  refine c_region ?_
  refine l_op (o_val (r_as) ?_)
  first | refine l_end ?_ | refine l_nil ?_
  repeat refine c_seq ?_
  refine c_region ?_
  refine l_op (o_val (r_as) ?_)
  first | refine l_end ?_ | refine l_nil ?_
  repeat refine c_seq ?_
  refine c_block ?_
  repeat refine c_seq ?_
  refine c_loop3 (fun (i : Nat) (a : Option Nat) (k : Nat) => [(0, .pointer (some ⟨rb, 0, none⟩)), (3, .slice (hd a) ((wp z.D i).length) k), (4, VI (i : Int))])
    (fun (i : Nat) (a : Option Nat) (k : Nat) w => (i ≤ z.D.last.length) ∧ Hp w0 w (keys (rkc rb z)) ([.blk rb ([.slice (hd z.a1) z.D.last.length z.c1, .slice (hd z.a2) z.D.last.length z.c2, .bool z.D.off, VI z.D.armed, VI z.D.part, VI z.D.way, .string ⟨(z.cm).toArray⟩, VI z.D.writes, VI z.D.lives]) 106, .own z.a1 z.D.last.length z.c1 ((z.D.last).flatMap strD) 9 1, .own z.a2 z.D.last.length z.c2 ((rwf z.D 0).flatMap strD) 9 1, .own a ((wp z.D i).length) k ((wp z.D i).flatMap intE) 3 1]))
    (fun (i : Nat) (a : Option Nat) (k : Nat) => z.D.last.length - i) 0 none 0 ⟨rfl, rfl, rfl, trivial⟩ ⟨Nat.zero_le _, (H.nilEnd 3 1)⟩ ?_
  clear H
  rintro i a k τ w ⟨hi, H⟩
  have hrl := rwf_len z.D 0
  have hwpl := wp_len z.D i
  repeat refine c_seq ?_
  refine c_region ?_
  refine l_op (o_val (r_mv) ?_)
  refine l_op (o_val (r_mv) ?_)
  refine l_op (o_val (r_nilc rfl) ?_)
  refine l_op (o_val (r_fa rfl fo106_0) ?_)
  refine l_op (o_val (r_ld (v := .slice (hd z.a1) z.D.last.length z.c1) H (i := 0) rfl rfl ct49 rfl) ?_)
  refine l_op (o_val (r_lens el49 rfl) ?_)
  refine l_op (o_val (r_bin (a := (i : Int)) (b := (z.D.last.length : Int)) rfl rfl (fun _ => b_lss)) ?_)
  first | refine l_end ?_ | refine l_nil ?_
  by_cases hc1 : (i : Int) < (z.D.last.length : Int)
  ·
   repeat refine c_seq ?_
   refine c_yes (by exact congrArg Value.bool (decide_eq_true hc1)) ?_
   refine c_skip ?_
   repeat refine c_seq ?_
   refine c_block ?_
   repeat refine c_seq ?_
   refine c_region ?_
   refine l_op (o_val (r_mv) ?_)
   refine l_op (o_val (r_nilc rfl) ?_)
   refine l_op (o_val (r_fa rfl fo106_1) ?_)
   refine l_op (o_val (r_ld (v := .slice (hd z.a2) z.D.last.length z.c2) H (i := 0) rfl rfl ct49 rfl) ?_)
   refine l_op (o_val (r_mv) ?_)
   have ah3 := H.ownAddr (i := 2) rfl (by omega)
   obtain ⟨ab2, ah3⟩ := ah3
   refine l_op (o_val (r_isN i rfl rfl el49 ah3 (by omega) (by (try simp only [Sl.cut]); omega)) ?_)
   have he5 : ∃ c, (rwf z.D 0)[i]? = some c := ⟨_, List.getElem?_eq_getElem (by have := ((H.glOwn (i := 2) rfl (by decide) (fun _ _ => rfl))).ln; (try dsimp only at this ⊢); omega)⟩
   obtain ⟨e4, he5⟩ := he5
   have hez6 := ((H.glOwn (i := 2) rfl (by decide) (fun _ _ => rfl))).sz e4 (List.mem_of_getElem? he5)
   have hrw_e4 := rwf_elem (by omega) he5
   refine l_op (o_val (r_gc (v := .string ⟨(e4).toArray⟩) (s := (⟨hd z.a2, z.D.last.length, z.c2, rwf z.D 0⟩ : Gl (List UInt8))) (j := i) (H.glOwn (i := 2) rfl (by decide) (fun _ _ => rfl)) ah3 rfl ct9 he5 rfl) ?_)
   refine l_op (o_val (r_strne (a := e4) (b := ([] : List UInt8)) rfl rfl) ?_)
   first | refine l_end ?_ | refine l_nil ?_
   by_cases hc7 : e4 = ([] : List UInt8)
   ·
    repeat refine c_seq ?_
    refine c_no (by exact congrArg Value.bool (congrArg not (decide_eq_true hc7))) ?_
    refine c_skip ?_
    repeat refine c_seq ?_
    refine c_region ?_
    refine l_op (o_val (r_mv) ?_)
    refine l_op (o_val (r_bin (a := (i : Int)) (b := 1) rfl rfl (fun _ => b_add (by omega) (by omega))) ?_)
    refine l_op (o_val (r_as) ?_)
    first | refine l_end ?_ | refine l_nil ?_
    have hsn := wp_none (D := z.D) (i := i) (wait_none hz.D (by rw [← hrw_e4]; exact of_decide_eq_true (decide_eq_true hc7)))
    rw [← hsn] at H
    refine round_end (i + 1, a, k) ?_ ?_ ?_
    · exact ⟨rfl, (show (.slice (hd a) ((wp z.D i).length) k : Value) = .slice (hd (a : Option Nat)) ((wp z.D (i + 1 : Nat)).length) (k : Nat) from (by rw [hsn])), show VI ((i : Int) + 1) = VI ((i + 1 : Nat) : Int) from congrArg VI (by omega), trivial⟩
    · refine ⟨?_, ?_⟩
      · try dsimp only
        exact by omega
      · exact H.sub (.cons_cons _ (.cons_cons _ (.cons_cons _ (.cons_cons _ (List.nil_sublist _)))))
    · show z.D.last.length - (i + 1 : Nat) < z.D.last.length - i; omega
   ·
    repeat refine c_seq ?_
    refine c_yes (by exact congrArg Value.bool (congrArg not (decide_eq_false hc7))) ?_
    repeat refine c_seq ?_
    refine c_region ?_
    refine l_op (o_val (r_mv) ?_)
    refine l_op (o_val (r_mv) ?_)
    refine l_op (o_bslV ([VI (i : Int)]) H sl62 zc3 rfl (by simp [Value.oneCell']) rfl (by decide) (fun b8 w H hb8 => ?_))
    replace H : Hp _ w _ ([_, _, _, _, .own (some b8) 1 1 (([(i : Int)]).flatMap intE) 3 1]) := H
    refine l_op (o_appG (enc := intE) (s := ⟨hd (some b8), 1, 1, [(i : Int)]⟩) (l' := wp z.D i ++ ([(i : Int)])) (len' := (wp z.D i).length + 1) rfl rfl H (i := 3) rfl sl62 Try.underlying62 rfl rfl (H.glOwn (i := 4) rfl (by decide) (fun _ _ => rfl)) (by decide) (fun _ _ => rfl) (by omega) (by decide) (fun a9 c10 w H => ?_))
    replace H : Hp _ w _ ([_, _, _, .own a9 ((wp z.D i).length + 1) c10 ((wp z.D i ++ ([(i : Int)])).flatMap intE) 3 1, _]) := H
    refine l_op (o_val (r_as) ?_)
    first | refine l_end ?_ | refine l_nil ?_
    repeat refine c_seq ?_
    refine c_region ?_
    refine l_op (o_val (r_mv) ?_)
    refine l_op (o_val (r_bin (a := (i : Int)) (b := 1) rfl rfl (fun _ => b_add (by omega) (by omega))) ?_)
    refine l_op (o_val (r_as) ?_)
    first | refine l_end ?_ | refine l_nil ?_
    have hws : z.D.wait (i : Int) = some e4 := by rw [hrw_e4]; exact wait_some (by rw [← hrw_e4]; exact of_decide_eq_false (decide_eq_false hc7))
    obtain ⟨hsn, hsl⟩ := wp_some hws
    rw [← hsn, ← hsl] at H
    refine round_end (i + 1, a9, c10) ?_ ?_ ?_
    · exact ⟨rfl, (show (.slice (hd a9) ((wp z.D i).length + 1) c10 : Value) = .slice (hd (a9 : Option Nat)) ((wp z.D (i + 1 : Nat)).length) (c10 : Nat) from (by rw [hsl])), show VI ((i : Int) + 1) = VI ((i + 1 : Nat) : Int) from congrArg VI (by omega), trivial⟩
    · refine ⟨?_, ?_⟩
      · try dsimp only
        exact by omega
      · exact H.sub (.cons_cons _ (.cons_cons _ (.cons_cons _ (.cons_cons _ (List.nil_sublist _)))))
    · show z.D.last.length - (i + 1 : Nat) < z.D.last.length - i; omega
  ·
   repeat refine c_seq ?_
   refine c_no (by exact congrArg Value.bool (decide_eq_false hc1)) ?_
   refine c_exit ?_
   repeat refine c_seq ?_
   refine c_region ?_
   refine l_op (o_val (r_mv) ?_)
   refine l_op (o_val (r_as) ?_)
   first | refine l_end ?_ | refine l_nil ?_
   refine c_ret ?_
   try dsimp only [Exit.then, Exit.inBlock]
   refine e_ret1 (v := .slice (hd a) ((wp z.D i).length) k) Try.results67 rfl ?_
   refine ⟨_, rfl, ?_⟩
   have hin : i = z.D.last.length := by omega
   subst hin
   exact ⟨_, _, rfl, H.sub (.cons_cons _ (.cons_cons _ (.cons_cons _ (.cons_cons _ (List.nil_sublist _)))))⟩
theorem rpower_ret (w0 : World) (rb : Nat) (z : RDW) (hO : Own w0 (rkc rb z)) (hz : z.ok) (ks : Gl Bool) (hks : ks.ok boolE 1 w0) (hap : ks.l ≠ [] → Apart ks.a (keys (rkc rb z))) (hlv : 0 ≤ z.D.lives ∧ z.D.lives ≤ 4611686018427387904) :
    Ret Try.prog 42 [.pointer (some ⟨rb, 0, none⟩), ks.v] w0 fun v w' => v = .tuple #[] ∧ RDLeft w0 w' rb z (dPower z.D ks.l) := by
  refine ret_mk Try.func42 rfl Try.ntmps42 (by simp) ?_
  have H : Hp w0 w0 (keys (rkc rb z)) [.blk rb ([.slice (hd z.a1) z.D.last.length z.c1, .slice (hd z.a2) z.D.last.length z.c2, .bool z.D.off, VI z.D.armed, VI z.D.part, VI z.D.way, .string ⟨(z.cm).toArray⟩, VI z.D.writes, VI z.D.lives]) 106, .own z.a1 z.D.last.length z.c1 ((z.D.last).flatMap strD) 9 1, .own z.a2 z.D.last.length z.c2 ((rwf z.D 0).flatMap strD) 9 1] := hO.start
  have hzn := hz.D.n
  have hza := hz.D.armed
  have hzp := hz.D.part
  have hzw := hz.D.way
  have hzf := hz.D.fl
  have hmL : maxLen = 9223372036854775807 := rfl
  have hkl := hks.ln
  have hke := hks.le
  have hkx := hks.mx
  repeat refine c_seq ?_
  refine c_region ?_
  refine l_op (o_val (r_as) ?_)
  first | refine l_end ?_ | refine l_nil ?_
  repeat refine c_seq ?_
  refine c_region ?_
  refine l_op (o_val (r_as) ?_)
  first | refine l_end ?_ | refine l_nil ?_
  repeat refine c_seq ?_
  refine c_block ?_
  repeat refine c_seq ?_
  refine c_loop (fun (i : Nat) => [(0, .pointer (some ⟨rb, 0, none⟩)), (1, ks.v), (4, VI ((wp z.D i).length : Int)), (5, VI (i : Int))])
    (fun (i : Nat) w => (i ≤ z.D.last.length) ∧ Hp w0 w (keys (rkc rb z)) ([.blk rb ([.slice (hd z.a1) z.D.last.length z.c1, .slice (hd z.a2) z.D.last.length z.c2, .bool z.D.off, VI z.D.armed, VI z.D.part, VI z.D.way, .string ⟨(z.cm).toArray⟩, VI z.D.writes, VI z.D.lives]) 106, .own z.a1 z.D.last.length z.c1 ((dLast z.D (kp (wp z.D i) ks.l)).flatMap strD) 9 1, .own z.a2 z.D.last.length z.c2 ((rwf z.D i).flatMap strD) 9 1]))
    (fun (i : Nat) => z.D.last.length - i) 0 ⟨rfl, rfl, rfl, rfl, trivial⟩ ⟨Nat.zero_le _, (by rw [show kp (wp z.D 0) ks.l = [] from rfl, dLast_nil]; exact H)⟩ ?_
  clear H
  rintro i τ w ⟨hi, H⟩
  have hrl := rwf_len z.D i
  have hwpl := wp_len z.D i
  have hdll := dLast_len z.D (kp (wp z.D i) ks.l)
  repeat refine c_seq ?_
  refine c_region ?_
  refine l_op (o_val (r_mv) ?_)
  refine l_op (o_val (r_mv) ?_)
  refine l_op (o_val (r_nilc rfl) ?_)
  refine l_op (o_val (r_fa rfl fo106_0) ?_)
  refine l_op (o_val (r_ld (v := .slice (hd z.a1) z.D.last.length z.c1) H (i := 0) rfl rfl ct49 rfl) ?_)
  refine l_op (o_val (r_lens el49 rfl) ?_)
  refine l_op (o_val (r_bin (a := (i : Int)) (b := (z.D.last.length : Int)) rfl rfl (fun _ => b_lss)) ?_)
  first | refine l_end ?_ | refine l_nil ?_
  by_cases hc1 : (i : Int) < (z.D.last.length : Int)
  ·
   repeat refine c_seq ?_
   refine c_yes (by exact congrArg Value.bool (decide_eq_true hc1)) ?_
   refine c_skip ?_
   repeat refine c_seq ?_
   refine c_block ?_
   repeat refine c_seq ?_
   refine c_region ?_
   refine l_op (o_val (r_mv) ?_)
   refine l_op (o_val (r_nilc rfl) ?_)
   refine l_op (o_val (r_fa rfl fo106_1) ?_)
   refine l_op (o_val (r_ld (v := .slice (hd z.a2) z.D.last.length z.c2) H (i := 0) rfl rfl ct49 rfl) ?_)
   refine l_op (o_val (r_mv) ?_)
   have ah3 := H.ownAddr (i := 2) rfl (by omega)
   obtain ⟨ab2, ah3⟩ := ah3
   refine l_op (o_val (r_isN i rfl rfl el49 ah3 (by omega) (by (try simp only [Sl.cut]); omega)) ?_)
   have he5 : ∃ c, (rwf z.D i)[i]? = some c := ⟨_, List.getElem?_eq_getElem (by have := ((H.glOwn (i := 2) rfl (by decide) (fun _ _ => rfl))).ln; (try dsimp only at this ⊢); omega)⟩
   obtain ⟨e4, he5⟩ := he5
   have hez6 := ((H.glOwn (i := 2) rfl (by decide) (fun _ _ => rfl))).sz e4 (List.mem_of_getElem? he5)
   have hrw_e4 := rwf_elem (by omega) he5
   refine l_op (o_val (r_gc (v := .string ⟨(e4).toArray⟩) (s := (⟨hd z.a2, z.D.last.length, z.c2, rwf z.D i⟩ : Gl (List UInt8))) (j := i) (H.glOwn (i := 2) rfl (by decide) (fun _ _ => rfl)) ah3 rfl ct9 he5 rfl) ?_)
   refine l_op (o_val (r_streq (a := e4) (b := ([] : List UInt8)) rfl rfl) ?_)
   first | refine l_end ?_ | refine l_nil ?_
   by_cases hc7 : e4 = ([] : List UInt8)
   ·
    repeat refine c_seq ?_
    refine c_yes (by exact congrArg Value.bool (decide_eq_true hc7)) ?_
    refine c_exit ?_
    repeat refine c_seq ?_
    refine c_region ?_
    refine l_op (o_val (r_mv) ?_)
    refine l_op (o_val (r_bin (a := (i : Int)) (b := 1) rfl rfl (fun _ => b_add (by omega) (by omega))) ?_)
    refine l_op (o_val (r_as) ?_)
    first | refine l_end ?_ | refine l_nil ?_
    have hwn := wait_none hz.D (by rw [← hrw_e4]; exact of_decide_eq_true (decide_eq_true hc7))
    have hsn := wp_none hwn
    rw [← (fli_skip hwn).2, ← hsn] at H
    refine round_end (i + 1) ?_ ?_ ?_
    · exact ⟨rfl, rfl, (show (VI ((wp z.D i).length : Int) : Value) = VI ((wp z.D (i + 1 : Nat)).length : Int) from (by rw [hsn])), show VI ((i : Int) + 1) = VI ((i + 1 : Nat) : Int) from congrArg VI (by omega), trivial⟩
    · refine ⟨?_, ?_⟩
      · try dsimp only
        exact by omega
      · exact H.sub (.cons_cons _ (.cons_cons _ (.cons_cons _ (List.nil_sublist _))))
    · show z.D.last.length - (i + 1 : Nat) < z.D.last.length - i; omega
   ·
    repeat refine c_seq ?_
    refine c_no (by exact congrArg Value.bool (decide_eq_false hc7)) ?_
    refine c_skip ?_
    repeat refine c_seq ?_
    refine c_region ?_
    refine l_op (o_val (r_mv) ?_)
    refine l_op (o_val (r_mv) ?_)
    refine l_op (o_val (r_lens el68 rfl) ?_)
    refine l_op (o_val (r_bin (a := ((wp z.D i).length : Int)) (b := (ks.len : Int)) rfl rfl (fun _ => b_lss)) ?_)
    refine l_op (o_val (r_mv) ?_)
    by_cases hc8 : ((wp z.D i).length : Int) < (ks.len : Int)
    ·
     refine l_yes rfl rfl (by exact congrArg Value.bool (decide_eq_true hc8)) (o_val (r_mv) ?_)
     refine l_yes rfl rfl (by exact congrArg Value.bool (decide_eq_true hc8)) (o_val (r_mv) ?_)
     have ah11 := ((hks.upA H hap)).addr (by decide) (by first | omega | (dsimp only; omega))
     obtain ⟨ab9, ao10, ah11⟩ := ah11
     refine l_yes rfl rfl (by exact congrArg Value.bool (decide_eq_true hc8)) (o_val (r_isN ((wp z.D i).length) rfl rfl el68 ah11 (by omega) (by (try simp only [Sl.cut]); omega)) ?_)
     have he13 : ∃ c, ks.l[(wp z.D i).length]? = some c := ⟨_, List.getElem?_eq_getElem (by have := ((hks.upA H hap)).ln; (try dsimp only at this ⊢); omega)⟩
     obtain ⟨e12, he13⟩ := he13
     have hez14 := ((hks.upA H hap)).sz e12 (List.mem_of_getElem? he13)
     refine l_yes rfl rfl (by exact congrArg Value.bool (decide_eq_true hc8)) (o_val (r_gc (v := .bool e12) (s := ks) (j := (wp z.D i).length) (hks.upA H hap) ah11 rfl ct4 he13 rfl) ?_)
     refine l_op (o_val (r_pick (b := true) (congrArg Value.bool (decide_eq_true hc8))) ?_)
     first | refine l_end ?_ | refine l_nil ?_
     have hc150 := Bool.eq_false_or_eq_true (e12)
     rcases hc150 with hc15 | hc15
     ·
      repeat refine c_seq ?_
      refine c_yes (by exact congrArg Value.bool hc15) ?_
      repeat refine c_seq ?_
      refine wp_held (fun w => Hp w0 w (keys (rkc rb z)) [.blk rb ([.slice (hd z.a1) z.D.last.length z.c1, .slice (hd z.a2) z.D.last.length z.c2, .bool z.D.off, VI z.D.armed, VI z.D.part, VI z.D.way, .string ⟨(z.cm).toArray⟩, VI z.D.writes, VI z.D.lives]) 106, .own z.a2 z.D.last.length z.c2 ((rwf z.D i).flatMap strD) 9 1]) mixed ?_
      replace H := H.drew
      have HS := H.sub (.cons_cons _ (.cons _ (.cons_cons _ (List.nil_sublist _))))
      refine t_take 0 rfl (by kernel_rfl) (by kernel_rfl) (by kernel_rfl) (fun _ _ _ h => h) (fun w HS => r_mv) HS ?_
      refine t_take 1 rfl (by kernel_rfl) (by kernel_rfl) (by kernel_rfl) (fun _ _ _ h => h) (fun w HS => r_nilc rfl) HS ?_
      refine t_take 2 rfl (by kernel_rfl) (by kernel_rfl) (by kernel_rfl) (fun _ _ _ h => h) (fun w HS => r_fa rfl fo106_0) HS ?_
      refine t_take 3 rfl (by kernel_rfl) (by kernel_rfl) (by kernel_rfl) (fun _ _ _ h => h) (fun w HS => r_ld (v := .slice (hd z.a1) z.D.last.length z.c1) HS (i := 0) rfl rfl ct49 rfl) HS ?_
      refine t_take 4 rfl (by kernel_rfl) (by kernel_rfl) (by kernel_rfl) (fun _ _ _ h => h) (fun w HS => r_mv) HS ?_
      refine t_take 5 rfl (by kernel_rfl) (by kernel_rfl) (by kernel_rfl) (fun _ _ _ h => h) (fun w HS => r_mv) HS ?_
      refine t_take 6 rfl (by kernel_rfl) (by kernel_rfl) (by kernel_rfl) (fun _ _ _ h => h) (fun w HS => r_nilc rfl) HS ?_
      refine t_take 7 rfl (by kernel_rfl) (by kernel_rfl) (by kernel_rfl) (fun _ _ _ h => h) (fun w HS => r_fa rfl fo106_1) HS ?_
      refine t_take 8 rfl (by kernel_rfl) (by kernel_rfl) (by kernel_rfl) (fun _ _ _ h => h) (fun w HS => r_ld (v := .slice (hd z.a2) z.D.last.length z.c2) HS (i := 0) rfl rfl ct49 rfl) HS ?_
      refine t_take 9 rfl (by kernel_rfl) (by kernel_rfl) (by kernel_rfl) (fun _ _ _ h => h) (fun w HS => r_mv) HS ?_
      refine t_take 10 rfl (by kernel_rfl) (by kernel_rfl) (by kernel_rfl) (fun _ _ _ h => h) (fun w HS => r_isN i rfl rfl el49 ah3 (by omega) (by (try simp only [Sl.cut]); omega)) HS ?_
      refine t_take 11 rfl (by kernel_rfl) (by kernel_rfl) (by kernel_rfl) (fun _ _ _ h => h) (fun w HS => r_gc (v := .string ⟨(e4).toArray⟩) (s := (⟨hd z.a2, z.D.last.length, z.c2, rwf z.D i⟩ : Gl (List UInt8))) (j := i) (HS.glOwn (i := 1) rfl (by decide) (fun _ _ => rfl)) ah3 rfl ct9 he5 rfl) HS ?_
      have ah17 := H.ownAddr (i := 1) rfl (by omega)
      obtain ⟨ab16, ah17⟩ := ah17
      refine t_step 12 rfl (by kernel_rfl) (o_val (r_isN i rfl rfl el49 ah17 (by omega) (by (try simp only [Sl.cut]); omega)) ?_)
      refine ⟨H.sub (.cons_cons _ (.cons _ (.cons_cons _ (List.nil_sublist _)))), ?_⟩
      replace HS := H.sub (.cons_cons _ (.cons _ (.cons_cons _ (List.nil_sublist _))))
      have he19 : ∃ c, (dLast z.D (kp (wp z.D i) ks.l))[i]? = some c := ⟨_, List.getElem?_eq_getElem (by have := ((H.glOwn (i := 1) rfl (by decide) (fun _ _ => rfl))).ln; (try dsimp only at this ⊢); omega)⟩
      obtain ⟨e18, he19⟩ := he19
      refine t_step 13 rfl (by kernel_rfl) (o_stGV (enc := strD) (off := 0) (V := ([.string ⟨(e4).toArray⟩] : List Value)) (k := i) e4 H (i := 1) rfl (fun _ _ => rfl) rfl ah17 rfl (by rfl) cs9 (by rfl) (by simp [Value.oneCell']) he19 (show Cut3 (strD e18) [] (strD e18) [] 0 1 from ⟨rfl, rfl, rfl⟩) rfl (fun w H => ?_))
      replace H : Hp _ w _ ([_, .own z.a1 z.D.last.length z.c1 (((dLast z.D (kp (wp z.D i) ks.l)).set i e4).flatMap strD) 9 1, _]) := H
      refine ⟨H.sub (.cons_cons _ (.cons _ (.cons_cons _ (List.nil_sublist _)))), ?_⟩
      replace HS := H.sub (.cons_cons _ (.cons _ (.cons_cons _ (List.nil_sublist _))))
      refine t_done (by kernel_rfl) ?_
      clear HS
      repeat refine c_seq ?_
      refine c_region ?_
      refine l_op (o_val (r_mv) ?_)
      refine l_op (o_val (r_bin (a := ((wp z.D i).length : Int)) (b := 1) rfl rfl (fun _ => b_add (by omega) (by omega))) ?_)
      refine l_op (o_val (r_as) ?_)
      first | refine l_end ?_ | refine l_nil ?_
      repeat refine c_seq ?_
      refine c_region ?_
      refine l_op (o_val (r_mv) ?_)
      refine l_op (o_val (r_nilc rfl) ?_)
      refine l_op (o_val (r_fa rfl fo106_1) ?_)
      refine l_op (o_val (r_ld (v := .slice (hd z.a2) z.D.last.length z.c2) H (i := 0) rfl rfl ct49 rfl) ?_)
      refine l_op (o_val (r_mv) ?_)
      refine l_op (o_val (r_isN i rfl rfl el49 ah3 (by omega) (by (try simp only [Sl.cut]); omega)) ?_)
      refine l_op (o_stGV (enc := strD) (off := 0) (V := ([.string ⟨(([] : List UInt8)).toArray⟩] : List Value)) (k := i) ([] : List UInt8) H (i := 2) rfl (fun _ _ => rfl) rfl ah3 rfl (by rfl) cs9 (by rfl) (by simp [Value.oneCell']) he5 (show Cut3 (strD e4) [] (strD e4) [] 0 1 from ⟨rfl, rfl, rfl⟩) rfl (fun w H => ?_))
      replace H : Hp _ w _ ([_, _, .own z.a2 z.D.last.length z.c2 (((rwf z.D i).set i ([] : List UInt8)).flatMap strD) 9 1]) := H
      first | refine l_end ?_ | refine l_nil ?_
      repeat refine c_seq ?_
      refine c_region ?_
      refine l_op (o_val (r_mv) ?_)
      refine l_op (o_val (r_bin (a := (i : Int)) (b := 1) rfl rfl (fun _ => b_add (by omega) (by omega))) ?_)
      refine l_op (o_val (r_as) ?_)
      first | refine l_end ?_ | refine l_nil ?_
      have hws : z.D.wait (i : Int) = some e4 := by rw [hrw_e4]; exact wait_some (by rw [← hrw_e4]; exact of_decide_eq_false (decide_eq_false hc7))
      have hsl := (wp_some hws).2
      have hkt := kp_yes (ks := ks.l) hws (by rw [he13, hc15])
      rw [dLast_put hws, rwf_step, ← hkt] at H
      refine round_end (i + 1) ?_ ?_ ?_
      · exact ⟨rfl, rfl, (show (VI (((wp z.D i).length : Int) + 1) : Value) = VI ((wp z.D (i + 1 : Nat)).length : Int) from (congrArg VI (by omega))), show VI ((i : Int) + 1) = VI ((i + 1 : Nat) : Int) from congrArg VI (by omega), trivial⟩
      · refine ⟨?_, ?_⟩
        · try dsimp only
          exact by omega
        · exact H.sub (.cons_cons _ (.cons_cons _ (.cons_cons _ (List.nil_sublist _))))
      · show z.D.last.length - (i + 1 : Nat) < z.D.last.length - i; omega
     ·
      repeat refine c_seq ?_
      refine c_no (by exact congrArg Value.bool hc15) ?_
      refine c_skip ?_
      repeat refine c_seq ?_
      refine c_region ?_
      refine l_op (o_val (r_mv) ?_)
      refine l_op (o_val (r_bin (a := ((wp z.D i).length : Int)) (b := 1) rfl rfl (fun _ => b_add (by omega) (by omega))) ?_)
      refine l_op (o_val (r_as) ?_)
      first | refine l_end ?_ | refine l_nil ?_
      repeat refine c_seq ?_
      refine c_region ?_
      refine l_op (o_val (r_mv) ?_)
      refine l_op (o_val (r_nilc rfl) ?_)
      refine l_op (o_val (r_fa rfl fo106_1) ?_)
      refine l_op (o_val (r_ld (v := .slice (hd z.a2) z.D.last.length z.c2) H (i := 0) rfl rfl ct49 rfl) ?_)
      refine l_op (o_val (r_mv) ?_)
      refine l_op (o_val (r_isN i rfl rfl el49 ah3 (by omega) (by (try simp only [Sl.cut]); omega)) ?_)
      refine l_op (o_stGV (enc := strD) (off := 0) (V := ([.string ⟨(([] : List UInt8)).toArray⟩] : List Value)) (k := i) ([] : List UInt8) H (i := 2) rfl (fun _ _ => rfl) rfl ah3 rfl (by rfl) cs9 (by rfl) (by simp [Value.oneCell']) he5 (show Cut3 (strD e4) [] (strD e4) [] 0 1 from ⟨rfl, rfl, rfl⟩) rfl (fun w H => ?_))
      replace H : Hp _ w _ ([_, _, .own z.a2 z.D.last.length z.c2 (((rwf z.D i).set i ([] : List UInt8)).flatMap strD) 9 1]) := H
      first | refine l_end ?_ | refine l_nil ?_
      repeat refine c_seq ?_
      refine c_region ?_
      refine l_op (o_val (r_mv) ?_)
      refine l_op (o_val (r_bin (a := (i : Int)) (b := 1) rfl rfl (fun _ => b_add (by omega) (by omega))) ?_)
      refine l_op (o_val (r_as) ?_)
      first | refine l_end ?_ | refine l_nil ?_
      have hws : z.D.wait (i : Int) = some e4 := by rw [hrw_e4]; exact wait_some (by rw [← hrw_e4]; exact of_decide_eq_false (decide_eq_false hc7))
      have hsl := (wp_some hws).2
      have hkt := kp_no (ks := ks.l) hws (by rw [he13, hc15]; simp)
      rw [rwf_step, ← hkt] at H
      refine round_end (i + 1) ?_ ?_ ?_
      · exact ⟨rfl, rfl, (show (VI (((wp z.D i).length : Int) + 1) : Value) = VI ((wp z.D (i + 1 : Nat)).length : Int) from (congrArg VI (by omega))), show VI ((i : Int) + 1) = VI ((i + 1 : Nat) : Int) from congrArg VI (by omega), trivial⟩
      · refine ⟨?_, ?_⟩
        · try dsimp only
          exact by omega
        · exact H.sub (.cons_cons _ (.cons_cons _ (.cons_cons _ (List.nil_sublist _))))
      · show z.D.last.length - (i + 1 : Nat) < z.D.last.length - i; omega
    ·
     refine l_no rfl rfl (by exact congrArg Value.bool (decide_eq_false hc8)) rfl ?_
     refine l_no rfl rfl (by exact congrArg Value.bool (decide_eq_false hc8)) rfl ?_
     refine l_no rfl rfl (by exact congrArg Value.bool (decide_eq_false hc8)) rfl ?_
     refine l_no rfl rfl (by exact congrArg Value.bool (decide_eq_false hc8)) rfl ?_
     refine l_op (o_val (r_pick (b := false) (congrArg Value.bool (decide_eq_false hc8))) ?_)
     first | refine l_end ?_ | refine l_nil ?_
     repeat refine c_seq ?_
     refine c_no rfl ?_
     refine c_skip ?_
     repeat refine c_seq ?_
     refine c_region ?_
     refine l_op (o_val (r_mv) ?_)
     refine l_op (o_val (r_bin (a := ((wp z.D i).length : Int)) (b := 1) rfl rfl (fun _ => b_add (by omega) (by omega))) ?_)
     refine l_op (o_val (r_as) ?_)
     first | refine l_end ?_ | refine l_nil ?_
     repeat refine c_seq ?_
     refine c_region ?_
     refine l_op (o_val (r_mv) ?_)
     refine l_op (o_val (r_nilc rfl) ?_)
     refine l_op (o_val (r_fa rfl fo106_1) ?_)
     refine l_op (o_val (r_ld (v := .slice (hd z.a2) z.D.last.length z.c2) H (i := 0) rfl rfl ct49 rfl) ?_)
     refine l_op (o_val (r_mv) ?_)
     refine l_op (o_val (r_isN i rfl rfl el49 ah3 (by omega) (by (try simp only [Sl.cut]); omega)) ?_)
     refine l_op (o_stGV (enc := strD) (off := 0) (V := ([.string ⟨(([] : List UInt8)).toArray⟩] : List Value)) (k := i) ([] : List UInt8) H (i := 2) rfl (fun _ _ => rfl) rfl ah3 rfl (by rfl) cs9 (by rfl) (by simp [Value.oneCell']) he5 (show Cut3 (strD e4) [] (strD e4) [] 0 1 from ⟨rfl, rfl, rfl⟩) rfl (fun w H => ?_))
     replace H : Hp _ w _ ([_, _, .own z.a2 z.D.last.length z.c2 (((rwf z.D i).set i ([] : List UInt8)).flatMap strD) 9 1]) := H
     first | refine l_end ?_ | refine l_nil ?_
     repeat refine c_seq ?_
     refine c_region ?_
     refine l_op (o_val (r_mv) ?_)
     refine l_op (o_val (r_bin (a := (i : Int)) (b := 1) rfl rfl (fun _ => b_add (by omega) (by omega))) ?_)
     refine l_op (o_val (r_as) ?_)
     first | refine l_end ?_ | refine l_nil ?_
     have hws : z.D.wait (i : Int) = some e4 := by rw [hrw_e4]; exact wait_some (by rw [← hrw_e4]; exact of_decide_eq_false (decide_eq_false hc7))
     have hsl := (wp_some hws).2
     have hkt := kp_no (ks := ks.l) hws (by rw [List.getElem?_eq_none (by omega)]; simp)
     rw [rwf_step, ← hkt] at H
     refine round_end (i + 1) ?_ ?_ ?_
     · exact ⟨rfl, rfl, (show (VI (((wp z.D i).length : Int) + 1) : Value) = VI ((wp z.D (i + 1 : Nat)).length : Int) from (congrArg VI (by omega))), show VI ((i : Int) + 1) = VI ((i + 1 : Nat) : Int) from congrArg VI (by omega), trivial⟩
     · refine ⟨?_, ?_⟩
       · try dsimp only
         exact by omega
       · exact H.sub (.cons_cons _ (.cons_cons _ (.cons_cons _ (List.nil_sublist _))))
     · show z.D.last.length - (i + 1 : Nat) < z.D.last.length - i; omega
  ·
   repeat refine c_seq ?_
   refine c_no (by exact congrArg Value.bool (decide_eq_false hc1)) ?_
   refine c_exit ?_
   have hin : i = z.D.last.length := by omega
   subst hin
   rw [wp_all] at H
   replace H : Hp _ w _ ([_, .own z.a1 z.D.last.length z.c1 ((dLast z.D (kp (dWaiting z.D) ks.l)).flatMap strD) 9 1, .own z.a2 z.D.last.length z.c2 ((rwf z.D z.D.last.length).flatMap strD) 9 1]) := H
   have hdle := dLast_len z.D (kp (dWaiting z.D) ks.l)
   repeat refine c_seq ?_
   refine c_region ?_
   refine l_op (o_val (r_mv) ?_)
   refine l_op (o_val (r_nilc rfl) ?_)
   refine l_op (o_val (r_fa rfl fo106_5) ?_)
   refine l_op (o_val (r_ld (v := VI z.D.way) H (i := 0) rfl rfl ct3 rfl) ?_)
   refine l_op (o_val (r_bin (a := z.D.way) (b := 0) rfl rfl (fun _ => b_geq)) ?_)
   first | refine l_end ?_ | refine l_nil ?_
   by_cases hc21 : 0 ≤ z.D.way
   ·
    repeat refine c_seq ?_
    refine c_yes (by exact congrArg Value.bool (decide_eq_true hc21)) ?_
    have hcm := hz.cm (by omega)
    have hcl : z.cm.length ≤ 512 := by rw [hcm]; exact hzf
    repeat refine c_seq ?_
    refine wp_held (fun w => Hp w0 w (keys (rkc rb z)) [.blk rb ([.slice (hd z.a1) z.D.last.length z.c1, .slice (hd z.a2) z.D.last.length z.c2, .bool z.D.off, VI z.D.armed, VI z.D.part, VI z.D.way, .string ⟨(z.cm).toArray⟩, VI z.D.writes, VI z.D.lives]) 106, .own z.a2 z.D.last.length z.c2 ((rwf z.D z.D.last.length).flatMap strD) 9 1]) mixed ?_
    replace H := H.drew
    have HS := H.sub (.cons_cons _ (.cons _ (.cons_cons _ (List.nil_sublist _))))
    refine t_take 0 rfl (by kernel_rfl) (by kernel_rfl) (by kernel_rfl) (fun _ _ _ h => h) (fun w HS => r_mv) HS ?_
    refine t_take 1 rfl (by kernel_rfl) (by kernel_rfl) (by kernel_rfl) (fun _ _ _ h => h) (fun w HS => r_nilc rfl) HS ?_
    refine t_take 2 rfl (by kernel_rfl) (by kernel_rfl) (by kernel_rfl) (fun _ _ _ h => h) (fun w HS => r_fa rfl fo106_0) HS ?_
    refine t_take 3 rfl (by kernel_rfl) (by kernel_rfl) (by kernel_rfl) (fun _ _ _ h => h) (fun w HS => r_ld (v := .slice (hd z.a1) z.D.last.length z.c1) HS (i := 0) rfl rfl ct49 rfl) HS ?_
    refine t_take 4 rfl (by kernel_rfl) (by kernel_rfl) (by kernel_rfl) (fun _ _ _ h => h) (fun w HS => r_mv) HS ?_
    refine t_take 5 rfl (by kernel_rfl) (by kernel_rfl) (by kernel_rfl) (fun _ _ _ h => h) (fun w HS => r_nilc rfl) HS ?_
    refine t_take 6 rfl (by kernel_rfl) (by kernel_rfl) (by kernel_rfl) (fun _ _ _ h => h) (fun w HS => r_fa rfl fo106_5) HS ?_
    refine t_take 7 rfl (by kernel_rfl) (by kernel_rfl) (by kernel_rfl) (fun _ _ _ h => h) (fun w HS => r_ld (v := VI z.D.way) HS (i := 0) rfl rfl ct3 rfl) HS ?_
    refine t_take 8 rfl (by kernel_rfl) (by kernel_rfl) (by kernel_rfl) (fun _ _ _ h => h) (fun w HS => r_mv) HS ?_
    refine t_take 9 rfl (by kernel_rfl) (by kernel_rfl) (by kernel_rfl) (fun _ _ _ h => h) (fun w HS => r_nilc rfl) HS ?_
    refine t_take 10 rfl (by kernel_rfl) (by kernel_rfl) (by kernel_rfl) (fun _ _ _ h => h) (fun w HS => r_fa rfl fo106_6) HS ?_
    refine t_take 11 rfl (by kernel_rfl) (by kernel_rfl) (by kernel_rfl) (fun _ _ _ h => h) (fun w HS => r_ld (v := .string ⟨(z.cm).toArray⟩) HS (i := 0) rfl rfl ct9 rfl) HS ?_
    refine t_take 12 rfl (by kernel_rfl) (by kernel_rfl) (by kernel_rfl) (fun _ _ _ h => h) (fun w HS => r_mv) HS ?_
    refine t_take 13 rfl (by kernel_rfl) (by kernel_rfl) (by kernel_rfl) (fun _ _ _ h => h) (fun w HS => r_nilc rfl) HS ?_
    refine t_take 14 rfl (by kernel_rfl) (by kernel_rfl) (by kernel_rfl) (fun _ _ _ h => h) (fun w HS => r_fa rfl fo106_0) HS ?_
    refine t_take 15 rfl (by kernel_rfl) (by kernel_rfl) (by kernel_rfl) (fun _ _ _ h => h) (fun w HS => r_ld (v := .slice (hd z.a1) z.D.last.length z.c1) HS (i := 0) rfl rfl ct49 rfl) HS ?_
    refine t_take 16 rfl (by kernel_rfl) (by kernel_rfl) (by kernel_rfl) (fun _ _ _ h => h) (fun w HS => r_mv) HS ?_
    refine t_take 17 rfl (by kernel_rfl) (by kernel_rfl) (by kernel_rfl) (fun _ _ _ h => h) (fun w HS => r_nilc rfl) HS ?_
    refine t_take 18 rfl (by kernel_rfl) (by kernel_rfl) (by kernel_rfl) (fun _ _ _ h => h) (fun w HS => r_fa rfl fo106_5) HS ?_
    refine t_take 19 rfl (by kernel_rfl) (by kernel_rfl) (by kernel_rfl) (fun _ _ _ h => h) (fun w HS => r_ld (v := VI z.D.way) HS (i := 0) rfl rfl ct3 rfl) HS ?_
    refine t_take 22 rfl (by kernel_rfl) (by kernel_rfl) (by kernel_rfl) (fun _ _ _ h => h) (fun w HS => r_mv) HS ?_
    refine t_take 23 rfl (by kernel_rfl) (by kernel_rfl) (by kernel_rfl) (fun _ _ _ h => h) (fun w HS => r_nilc rfl) HS ?_
    refine t_take 24 rfl (by kernel_rfl) (by kernel_rfl) (by kernel_rfl) (fun _ _ _ h => h) (fun w HS => r_fa rfl fo106_6) HS ?_
    refine t_take 25 rfl (by kernel_rfl) (by kernel_rfl) (by kernel_rfl) (fun _ _ _ h => h) (fun w HS => r_ld (v := .string ⟨(z.cm).toArray⟩) HS (i := 0) rfl rfl ct9 rfl) HS ?_
    refine t_take 26 rfl (by kernel_rfl) (by kernel_rfl) (by kernel_rfl) (fun _ _ _ h => h) (fun w HS => r_lenstr (s := ⟨(z.cm).toArray⟩) Try.underlying9 rfl) HS ?_
    have ah23 := H.ownAddr (i := 1) rfl (by omega)
    obtain ⟨ab22, ah23⟩ := ah23
    refine t_step 20 rfl (by kernel_rfl) (o_val (r_isN ((z.D.way).toNat) rfl rfl el49 ah23 (by omega) (by (try simp only [Sl.cut]); omega)) ?_)
    refine ⟨H.sub (.cons_cons _ (.cons _ (.cons_cons _ (List.nil_sublist _)))), ?_⟩
    replace HS := H.sub (.cons_cons _ (.cons _ (.cons_cons _ (List.nil_sublist _))))
    have he25 : ∃ c, (dLast z.D (kp (dWaiting z.D) ks.l))[(z.D.way).toNat]? = some c := ⟨_, List.getElem?_eq_getElem (by have := ((H.glOwn (i := 1) rfl (by decide) (fun _ _ => rfl))).ln; (try dsimp only at this ⊢); omega)⟩
    obtain ⟨e24, he25⟩ := he25
    have hez26 := ((H.glOwn (i := 1) rfl (by decide) (fun _ _ => rfl))).sz e24 (List.mem_of_getElem? he25)
    have hrl_e24 : e24.length = 512 := dLast_512 hz.D _ _ (List.mem_of_getElem? he25)
    have hrd_e24 : (e24.drop z.cm.length).length ≤ 512 := by rw [List.length_drop]; omega
    refine t_step 21 rfl (by kernel_rfl) (o_val (r_gc (v := .string ⟨(e24).toArray⟩) (s := (⟨hd z.a1, z.D.last.length, z.c1, dLast z.D (kp (dWaiting z.D) ks.l)⟩ : Gl (List UInt8))) (j := (z.D.way).toNat) (H.glOwn (i := 1) rfl (by decide) (fun _ _ => rfl)) ah23 rfl ct9 he25 rfl) ?_)
    refine ⟨H.sub (.cons_cons _ (.cons _ (.cons_cons _ (List.nil_sublist _)))), ?_⟩
    replace HS := H.sub (.cons_cons _ (.cons _ (.cons_cons _ (List.nil_sublist _))))
    refine t_take 27 rfl (by kernel_rfl) (by kernel_rfl) (by kernel_rfl) (fun _ _ _ h => h) (fun w HS => r_slstrL (l := e24) (a := ((z.cm).length)) (j := ((z.cm).length : Int)) Try.underlying9 rfl rfl (by omega) (by omega)) HS ?_
    refine t_take 28 rfl (by kernel_rfl) (by kernel_rfl) (by kernel_rfl) (fun _ _ _ h => h) (fun w HS => r_stradd (a := z.cm) (b := (e24).drop ((z.cm).length)) rfl rfl (by (try simp only [List.length_cons, List.length_nil]); omega)) HS ?_
    refine t_take 29 rfl (by kernel_rfl) (by kernel_rfl) (by kernel_rfl) (fun _ _ _ h => h) (fun w HS => r_isN ((z.D.way).toNat) rfl rfl el49 ah23 (by omega) (by (try simp only [Sl.cut]); omega)) HS ?_
    refine t_step 30 rfl (by kernel_rfl) (o_stGV (enc := strD) (off := 0) (V := ([.string ⟨(z.cm ++ ((e24).drop ((z.cm).length))).toArray⟩] : List Value)) (k := (z.D.way).toNat) (z.cm ++ ((e24).drop ((z.cm).length))) H (i := 1) rfl (fun _ _ => rfl) rfl ah23 rfl (by rfl) cs9 (by rfl) (by simp [Value.oneCell']) he25 (show Cut3 (strD e24) [] (strD e24) [] 0 1 from ⟨rfl, rfl, rfl⟩) rfl (fun w H => ?_))
    replace H : Hp _ w _ ([_, .own z.a1 z.D.last.length z.c1 (((dLast z.D (kp (dWaiting z.D) ks.l)).set ((z.D.way).toNat) (z.cm ++ ((e24).drop ((z.cm).length)))).flatMap strD) 9 1, _]) := H
    refine ⟨H.sub (.cons_cons _ (.cons _ (.cons_cons _ (List.nil_sublist _)))), ?_⟩
    replace HS := H.sub (.cons_cons _ (.cons _ (.cons_cons _ (List.nil_sublist _))))
    refine t_done (by kernel_rfl) ?_
    clear HS
    repeat refine c_seq ?_
    refine c_region ?_
    refine l_op (o_val (r_mv) ?_)
    refine l_op (o_val (r_mv) ?_)
    refine l_op (o_val (r_mv) ?_)
    refine l_op (o_val (r_nilc rfl) ?_)
    refine l_op (o_val (r_fa rfl fo106_2) ?_)
    refine l_op (o_st (v := .bool false) H (i := 0) rfl rfl rfl cs4 rfl (by simp only [List.length_cons, List.length_nil]; omega) (fun w H => ?_))
    replace H : Hp _ w _ ([.blk rb ([.slice (hd z.a1) z.D.last.length z.c1, .slice (hd z.a2) z.D.last.length z.c2, .bool false, VI z.D.armed, VI z.D.part, VI z.D.way, .string ⟨(z.cm).toArray⟩, VI z.D.writes, VI z.D.lives]) 106, _, _]) := H
    refine l_op (o_val (r_nilc rfl) ?_)
    refine l_op (o_val (r_fa rfl fo106_3) ?_)
    refine l_op (o_st (v := VI (-1)) H (i := 0) rfl rfl rfl cs3 rfl (by simp only [List.length_cons, List.length_nil]; omega) (fun w H => ?_))
    replace H : Hp _ w _ ([.blk rb ([.slice (hd z.a1) z.D.last.length z.c1, .slice (hd z.a2) z.D.last.length z.c2, .bool false, VI (-1), VI z.D.part, VI z.D.way, .string ⟨(z.cm).toArray⟩, VI z.D.writes, VI z.D.lives]) 106, _, _]) := H
    refine l_op (o_val (r_nilc rfl) ?_)
    refine l_op (o_val (r_fa rfl fo106_5) ?_)
    refine l_op (o_st (v := VI (-1)) H (i := 0) rfl rfl rfl cs3 rfl (by simp only [List.length_cons, List.length_nil]; omega) (fun w H => ?_))
    replace H : Hp _ w _ ([.blk rb ([.slice (hd z.a1) z.D.last.length z.c1, .slice (hd z.a2) z.D.last.length z.c2, .bool false, VI (-1), VI z.D.part, VI (-1), .string ⟨(z.cm).toArray⟩, VI z.D.writes, VI z.D.lives]) 106, _, _]) := H
    first | refine l_end ?_ | refine l_nil ?_
    repeat refine c_seq ?_
    refine c_region ?_
    refine l_op (o_val (r_mv) ?_)
    refine l_op (o_val (r_nilc rfl) ?_)
    refine l_op (o_val (r_fa rfl fo106_8) ?_)
    refine l_op (o_val (r_ld (v := VI z.D.lives) H (i := 0) rfl rfl ct3 rfl) ?_)
    refine l_op (o_val (r_bin (a := z.D.lives) (b := 1) rfl rfl (fun _ => b_add (by omega) (by omega))) ?_)
    refine l_op (o_val (r_nilc rfl) ?_)
    refine l_op (o_val (r_fa rfl fo106_8) ?_)
    refine l_op (o_st (v := VI (z.D.lives + 1)) H (i := 0) rfl rfl rfl cs3 rfl (by simp only [List.length_cons, List.length_nil]; omega) (fun w H => ?_))
    replace H : Hp _ w _ ([.blk rb ([.slice (hd z.a1) z.D.last.length z.c1, .slice (hd z.a2) z.D.last.length z.c2, .bool false, VI (-1), VI z.D.part, VI (-1), .string ⟨(z.cm).toArray⟩, VI z.D.writes, VI (z.D.lives + 1)]) 106, _, _]) := H
    first | refine l_end ?_ | refine l_nil ?_
    try simp only [Exit.then, Exit.inBlock, ↓reduceIte]
    refine e_norm ?_
    refine e_ret0 Try.results42 ?_
    refine ⟨_, rfl, ?_⟩
    have H2 := H.sub (.cons_cons _ (.cons_cons _ (.cons_cons _ (List.nil_sublist _))))
    rw [dPow_set (by omega) he25 hcm] at H2
    have hpl := dPow_len z.D ks.l
    rw [(fli_end (D := z.D) (D' := dPower z.D ks.l) (i := z.D.last.length) (Nat.le_refl _) hpl (fun _ => rfl)).2, ← hpl] at H2
    exact ⟨rfl, { z with D := dPower z.D ks.l }, rfl, ⟨dP_ok hz.D _, fun h => by have h' : (0 : Int) ≤ -1 := h; omega⟩, H2⟩
   ·
    repeat refine c_seq ?_
    refine c_no (by exact congrArg Value.bool (decide_eq_false hc21)) ?_
    refine c_skip ?_
    repeat refine c_seq ?_
    refine c_region ?_
    refine l_op (o_val (r_mv) ?_)
    refine l_op (o_val (r_mv) ?_)
    refine l_op (o_val (r_mv) ?_)
    refine l_op (o_val (r_nilc rfl) ?_)
    refine l_op (o_val (r_fa rfl fo106_2) ?_)
    refine l_op (o_st (v := .bool false) H (i := 0) rfl rfl rfl cs4 rfl (by simp only [List.length_cons, List.length_nil]; omega) (fun w H => ?_))
    replace H : Hp _ w _ ([.blk rb ([.slice (hd z.a1) z.D.last.length z.c1, .slice (hd z.a2) z.D.last.length z.c2, .bool false, VI z.D.armed, VI z.D.part, VI z.D.way, .string ⟨(z.cm).toArray⟩, VI z.D.writes, VI z.D.lives]) 106, _, _]) := H
    refine l_op (o_val (r_nilc rfl) ?_)
    refine l_op (o_val (r_fa rfl fo106_3) ?_)
    refine l_op (o_st (v := VI (-1)) H (i := 0) rfl rfl rfl cs3 rfl (by simp only [List.length_cons, List.length_nil]; omega) (fun w H => ?_))
    replace H : Hp _ w _ ([.blk rb ([.slice (hd z.a1) z.D.last.length z.c1, .slice (hd z.a2) z.D.last.length z.c2, .bool false, VI (-1), VI z.D.part, VI z.D.way, .string ⟨(z.cm).toArray⟩, VI z.D.writes, VI z.D.lives]) 106, _, _]) := H
    refine l_op (o_val (r_nilc rfl) ?_)
    refine l_op (o_val (r_fa rfl fo106_5) ?_)
    refine l_op (o_st (v := VI (-1)) H (i := 0) rfl rfl rfl cs3 rfl (by simp only [List.length_cons, List.length_nil]; omega) (fun w H => ?_))
    replace H : Hp _ w _ ([.blk rb ([.slice (hd z.a1) z.D.last.length z.c1, .slice (hd z.a2) z.D.last.length z.c2, .bool false, VI (-1), VI z.D.part, VI (-1), .string ⟨(z.cm).toArray⟩, VI z.D.writes, VI z.D.lives]) 106, _, _]) := H
    first | refine l_end ?_ | refine l_nil ?_
    repeat refine c_seq ?_
    refine c_region ?_
    refine l_op (o_val (r_mv) ?_)
    refine l_op (o_val (r_nilc rfl) ?_)
    refine l_op (o_val (r_fa rfl fo106_8) ?_)
    refine l_op (o_val (r_ld (v := VI z.D.lives) H (i := 0) rfl rfl ct3 rfl) ?_)
    refine l_op (o_val (r_bin (a := z.D.lives) (b := 1) rfl rfl (fun _ => b_add (by omega) (by omega))) ?_)
    refine l_op (o_val (r_nilc rfl) ?_)
    refine l_op (o_val (r_fa rfl fo106_8) ?_)
    refine l_op (o_st (v := VI (z.D.lives + 1)) H (i := 0) rfl rfl rfl cs3 rfl (by simp only [List.length_cons, List.length_nil]; omega) (fun w H => ?_))
    replace H : Hp _ w _ ([.blk rb ([.slice (hd z.a1) z.D.last.length z.c1, .slice (hd z.a2) z.D.last.length z.c2, .bool false, VI (-1), VI z.D.part, VI (-1), .string ⟨(z.cm).toArray⟩, VI z.D.writes, VI (z.D.lives + 1)]) 106, _, _]) := H
    first | refine l_end ?_ | refine l_nil ?_
    try simp only [Exit.then, Exit.inBlock, ↓reduceIte]
    refine e_norm ?_
    refine e_ret0 Try.results42 ?_
    refine ⟨_, rfl, ?_⟩
    have H2 := H.sub (.cons_cons _ (.cons_cons _ (.cons_cons _ (List.nil_sublist _))))
    rw [show dLast z.D (kp (dWaiting z.D) ks.l) = dPow z.D ks.l from by rw [dPow, if_pos (by omega)]] at H2
    have hpl := dPow_len z.D ks.l
    rw [(fli_end (D := z.D) (D' := dPower z.D ks.l) (i := z.D.last.length) (Nat.le_refl _) hpl (fun _ => rfl)).2, ← hpl] at H2
    exact ⟨rfl, { z with D := dPower z.D ks.l }, rfl, ⟨dP_ok hz.D _, fun h => by have h' : (0 : Int) ≤ -1 := h; omega⟩, H2⟩
end Go.Proofs.Ytncmcgcilijfkaa
namespace Go.Proofs.Ytncmcgcilijfkaa
open Go
set_option maxRecDepth 100000
theorem twin_ret (w0 : World) (s : Sl) (hs : s.ok w0) (hm : s.len ≤ 1048576) : Ret Try.prog 61 [s.v] w0 fun v w' => ∃ b, v = .slice (some ⟨b, 0, none⟩) s.len (s.len + 3) ∧ Hp w0 w' [] [.blk b (tw s.l 3) 5] := by
  refine ret_mk Try.func61 rfl Try.ntmps61 (by simp) ?_
  have H := Hp.refl w0 []
  repeat refine c_seq ?_
  refine c_region ?_
  refine l_op (o_as ?_)
  first | refine l_end ?_ | refine l_nil ?_
  repeat refine c_seq ?_
  refine c_region ?_
  refine l_op (o_mv ?_)
  refine l_op (o_lens el57 rfl ?_)
  refine l_op (o_bin rfl rfl (fun _ => b_add (by omega) (by omega)) ?_)
  refine l_op (o_make (l := s.len + 3) (c := s.len + 3) H sl57 zc5 rfl rfl (by omega) (by omega) (Nat.le_refl _) (by omega) (Nat.le_trans (by omega : s.len + 3 ≤ 2000000) (by decide)) (fun b w H hb => ?_))
  refine l_op (o_as ?_)
  first | refine l_end ?_ | refine l_nil ?_
  repeat refine c_seq ?_
  refine c_region ?_
  refine l_op (o_mv ?_)
  refine l_op (o_mv ?_)
  refine l_op (o_copy H (i := 0) (vs := s.l.map V8) rfl Try.underlying57 Try.underlying57 cs5 (by decide) rfl rfl (H.rd hs.rd (apart_nil _)) (by simp [hs.ln]) (by simp [Value.oneCell']) (by simp) (fun w H => ?_))
  first | refine l_end ?_ | refine l_nil ?_
  have hmin : min s.len (s.len + 3) = s.len := by omega
  have e0 : (List.replicate (s.len + 3) (Value.int .u8 0)).take 0 ++ (s.l.map V8).take (s.len * 1) ++ (List.replicate (s.len + 3) (Value.int .u8 0)).drop (0 + s.len * 1) = tw s.l 0 := by
    have ea : (s.l.map V8).take (s.len * 1) = s.l.map V8 := List.take_of_length_le (by simp [hs.ln])
    have eb : s.len + 3 - (0 + s.len * 1) = 3 := by omega
    rw [ea, List.take_zero, List.nil_append, List.drop_replicate, eb]
    rfl
  rw [hmin] at H
  replace H : Hp w0 w [] [.blk b (tw s.l 0) 5] := by rw [← e0]; exact H
  repeat refine c_seq ?_
  refine c_region ?_
  refine l_op (o_mv ?_)
  refine l_op (o_lens el57 rfl ?_)
  refine l_op (o_as ?_)
  first | refine l_end ?_ | refine l_nil ?_
  repeat refine c_seq ?_
  refine c_block ?_
  refine c_loop (ι := Nat) (fun j => [(4, VI ((s.len + j : Nat) : Int)), (3, .slice (some ⟨b, 0, none⟩) (s.len + 3) (s.len + 3)), (0, s.v)])
    (fun j w => j ≤ 3 ∧ Hp w0 w [] [.blk b (tw s.l j) 5])
    (fun j => 3 - j) 0 ⟨rfl, rfl, rfl, trivial⟩ ⟨by omega, H⟩ ?_
  clear H e0
  rintro j τ w ⟨hj, H⟩
  have hlen := hs.ln
  have htl := tw_length s.l j hj
  repeat refine c_seq ?_
  refine c_region ?_
  refine l_op (o_mv ?_)
  refine l_op (o_mv ?_)
  refine l_op (o_lens el57 rfl ?_)
  refine l_op (o_bin rfl rfl (fun _ => b_lss) ?_)
  first | refine l_end ?_ | refine l_nil ?_
  repeat refine c_seq ?_
  refine c_ifD rfl (fun hlt => ?_) (fun hlt => ?_)
  · have hlt' : j < 3 := by omega
    have x1 : 0 + ((s.len + j : Nat) : Int).toNat * 1 = s.l.length + j := by omega
    refine c_skip ?_
    repeat refine c_seq ?_
    refine c_block ?_
    repeat refine c_seq ?_
    refine c_region ?_
    refine l_op (o_mv ?_)
    refine l_op (o_mv ?_)
    refine l_op (o_is (a := some ⟨b, 0, none⟩) rfl rfl el57 (by omega) (by omega) (by decide) (Ch.rd_all (H.has _ List.mem_cons_self)) (by omega) (fun b' o' ha => ?_))
    cases ha
    refine l_op (o_st H (i := 0) (v := V8 229) rfl rfl rfl cs5 rfl (by rw [x1]; omega) (fun w H => ?_))
    first | refine l_end ?_ | refine l_nil ?_
    have e1 := tw_set s.l j hlt'
    rw [← x1] at e1
    simp only [List.set_cons_zero] at H
    rw [e1] at H
    repeat refine c_seq ?_
    refine c_region ?_
    refine l_op (o_mv ?_)
    refine l_op (o_bin rfl rfl (fun _ => b_add (by omega) (by omega)) ?_)
    refine l_op (o_as ?_)
    first | refine l_end ?_ | refine l_nil ?_
    refine round_end (j + 1) ?_ ?_ ?_
    · exact ⟨rfl, rfl, rfl, trivial⟩
    · exact ⟨by omega, H⟩
    · show 3 - (j + 1) < 3 - j; omega
  · have hj3 : j = 3 := by omega
    subst hj3
    refine c_exit ?_
    repeat refine c_seq ?_
    refine c_region ?_
    refine l_op (o_mv ?_)
    refine l_op (o_mv ?_)
    refine l_op (o_lens el57 rfl ?_)
    refine l_op (o_sl (a := some ⟨b, 0, none⟩) (len := s.len + 3) (cap := s.len + 3) rfl el57 rfl rfl rfl (fun w => by exact sb_h (by omega) (by omega) w) ?_)
    refine l_op (o_as ?_)
    first | refine l_end ?_ | refine l_nil ?_
    rw [sa_zero]
    exact c_ret (e_ret1 Try.results61 rfl ⟨_, rfl, b, rfl, H⟩)
def sp (C : List Value) (i : Nat) : List Value := List.replicate i (V8 90) ++ C.drop i
theorem sp_set (C : List Value) (i : Nat) (h : i < C.length) : (sp C i).set i (V8 90) = sp C (i + 1) := by
  unfold sp
  rw [List.set_append_right _ _ (by simp), List.length_replicate, Nat.sub_self, List.drop_eq_getElem_cons h, List.set_cons_zero, List.replicate_succ']
  simp
theorem sp_length (C : List Value) (i : Nat) (h : i ≤ C.length) : (sp C i).length = C.length := by simp [sp]; omega
end Go.Proofs.Ytncmcgcilijfkaa
namespace Go.Proofs.Ytncmcgcilijfkaa
open Go
set_option maxRecDepth 100000
theorem spoilN_ret (w0 : World) (b len cap : Nat) (C : List Value) (hH : w0.heap[b]? = some (.cells C.toArray 5 (0, 0))) (hC : C.length = cap) (hlc : len ≤ cap) (hm : cap ≤ maxLen) :
    Ret Try.prog 63 [.slice (some ⟨b, 0, none⟩) len cap] w0 fun v w' => v = .tuple #[] ∧ Hp w0 w' [b] [.blk b (List.replicate cap (V8 90)) 5] := by
  refine ret_mk Try.func63 rfl Try.ntmps63 (by simp) ?_
  have hmL : maxLen = 9223372036854775807 := rfl
  have H := Hp.start w0 (.blk b C 5) b hH rfl
  repeat refine c_seq ?_
  refine c_region ?_
  refine l_op (o_mv ?_)
  refine l_op (o_mv ?_)
  refine l_op (o_caps el57 rfl ?_)
  refine l_op (o_sl (a := some ⟨b, 0, none⟩) (len := len) (cap := cap) rfl el57 rfl rfl rfl (fun w => by exact sb_h (by omega) (by omega) w) ?_)
  refine l_op (o_as ?_)
  first | refine l_end ?_ | refine l_nil ?_
  rw [sa_zero]
  repeat refine c_seq ?_
  refine c_region ?_
  refine l_op (o_as ?_)
  first | refine l_end ?_ | refine l_nil ?_
  repeat refine c_seq ?_
  refine c_block ?_
  have hcap : ((cap : Int).toNat - 0) = cap := by omega
  rw [hcap]
  refine c_loop (ι := Nat) (fun i => [(3, VI i), (2, .slice (some ⟨b, 0, none⟩) cap cap)])
    (fun i w => i ≤ cap ∧ Hp w0 w [b] [.blk b (sp C i) 5])
    (fun i => cap - i) 0 ⟨rfl, rfl, trivial⟩ ⟨by omega, H⟩ ?_
  clear H
  rintro i τ w ⟨hi, H⟩
  have hsl := sp_length C i (by omega)
  repeat refine c_seq ?_
  refine c_region ?_
  refine l_op (o_mv ?_)
  refine l_op (o_mv ?_)
  refine l_op (o_lens el57 rfl ?_)
  refine l_op (o_bin rfl rfl (fun _ => b_lss) ?_)
  first | refine l_end ?_ | refine l_nil ?_
  repeat refine c_seq ?_
  refine c_ifD rfl (fun hlt => ?_) (fun hlt => ?_)
  · have hlt' : i < cap := by omega
    have x1 : 0 + (i : Int).toNat * 1 = i := by omega
    refine c_skip ?_
    repeat refine c_seq ?_
    refine c_block ?_
    repeat refine c_seq ?_
    refine c_region ?_
    refine l_op (o_mv ?_)
    refine l_op (o_mv ?_)
    refine l_op (o_is (a := some ⟨b, 0, none⟩) rfl rfl el57 (by omega) (by omega) (by decide) (Ch.rd_all (H.has _ List.mem_cons_self)) (by omega) (fun b' o' ha => ?_))
    cases ha
    refine l_op (o_st H (i := 0) (v := V8 90) rfl rfl rfl cs5 rfl (by rw [x1]; omega) (fun w H => ?_))
    first | refine l_end ?_ | refine l_nil ?_
    have e1 := sp_set C i (by omega)
    simp only [List.set_cons_zero] at H
    rw [x1, e1] at H
    repeat refine c_seq ?_
    refine c_region ?_
    refine l_op (o_mv ?_)
    refine l_op (o_bin rfl rfl (fun _ => b_add (by omega) (by omega)) ?_)
    refine l_op (o_as ?_)
    first | refine l_end ?_ | refine l_nil ?_
    refine round_end (i + 1) ?_ ?_ ?_
    · exact ⟨rfl, rfl, trivial⟩
    · exact ⟨hlt', H⟩
    · show cap - (i + 1) < cap - i; omega
  · have hi' : i = cap := by omega
    subst hi'
    have e1 : sp C i = List.replicate i (V8 90) := by rw [sp, List.drop_of_length_le (by omega), List.append_nil]
    rw [e1] at H
    refine c_exit ?_
    simp only [Exit.then, Exit.inBlock, ↓reduceIte]
    refine e_norm (e_ret0 Try.results63 ?_)
    exact ⟨_, rfl, rfl, H⟩
end Go.Proofs.Ytncmcgcilijfkaa
