/- Lemmas for the statement DiskCopies, part 2: rules of operations, walks through functions, plain laws. -/
import Derived.Test.YtncmcgcilijfkaaDiskCopiesG1
namespace Go.Proofs.Ytncmcgcilijfkaa
open Go
set_option maxRecDepth 100000
theorem Hp.callA {w0 w w' : World} {S : List Nat} {L : List Ch} (h : Hp w0 w S L) {i b : Nat} {c c' : Ch} (hi : L[i]? = some c) (hk : c.key = some b) (hk' : c'.key = some b) (hc : Hp w w' [b] [c']) : Hp w0 w' S (L.set i c') := by
  have := h.callAt hi hk hk' (L' := []) hc
  rwa [List.append_nil] at this
abbrev nilS : Sl := ⟨none, 0, 0, []⟩
/-- a sector of its own with some bytes at its beginning. -/
def wh (l : List UInt8) : List UInt8 := l.take (min l.length 512) ++ (List.replicate 512 (0 : UInt8)).drop (min l.length 512)
theorem wh_len (l : List UInt8) : (wh l).length = 512 := by simp [wh]; omega
theorem wh_of {l : List UInt8} (h : l.length = 512) : wh l = l := by
  rw [wh, h, Nat.min_self, List.take_of_length_le (by omega), List.drop_of_length_le (by simp), List.append_nil]
theorem wh_wh (l : List UInt8) : wh (wh l) = wh l := wh_of (wh_len l)
theorem wh_nil : wh [] = List.replicate 512 0 := by simp [wh]
/-- a slice is none, or a sector that is kept. -/
def Sec (T : List Ch) (s : Sl) : Prop := s = nilS ∨ ∃ b, s = ⟨some ⟨b, 0, none⟩, 512, 512, s.l⟩ ∧ s.l.length = 512 ∧ .own (some b) 512 512 (s.l.map V8) 5 1 ∈ T
theorem sec_ok {w0 w : World} {S : List Nat} {L T : List Ch} (H : Hp w0 w S L) (hsub : ∀ c ∈ T, c ∈ L) {s : Sl} (h : Sec T s) : s.ok w := by
  rcases h with rfl | ⟨b, e, hl, hm⟩
  · exact Sl.ok_nil _
  · obtain ⟨j, hj⟩ := List.getElem?_of_mem (hsub _ hm)
    have := H.slOwn hj
    rw [e]; exact this
theorem sec_mono {T T' : List Ch} (h : ∀ c ∈ T, c ∈ T') {s : Sl} (hs : Sec T s) : Sec T' s := by
  rcases hs with e | ⟨b, e, hl, hm⟩
  · exact .inl e
  · exact .inr ⟨b, e, hl, h _ hm⟩
theorem sec_getD {T : List Ch} {o : Option Sl} (h : ∀ s, o = some s → Sec T s) : Sec T (o.getD nilS) := by
  cases o with
  | none => exact .inl rfl
  | some s => exact h s rfl
structure DW where
  a1 : Nat
  c1 : Nat
  ls : List Sl
  mb : Nat
  M : List (Int × Value × Nat)
  mc : Nat
  F : Int → Option Sl
  off : Bool
  armed : Int
  part : Int
  way : Int
  fa : Option Nat
  fc : Nat
  fl : List UInt8
  writes : Int
  lives : Int
  T : List Ch
def kch (db : Nat) (z : DW) : List Ch := [.blk db [.slice (hd (some z.a1)) z.ls.length z.c1, .map (some z.mb), .bool z.off, VI z.armed, VI z.part, VI z.way, .slice (hd z.fa) z.fl.length z.fc, VI z.writes, VI z.lives] 86,
  .own (some z.a1) z.ls.length z.c1 (z.ls.flatMap slE) 57 1, .obj z.mb (mobj kI z.M z.mc), .own z.fa z.fl.length z.fc (z.fl.map V8) 5 1] ++ z.T
structure DW.ok (z : DW) : Prop where
  n : 32 ≤ z.ls.length ∧ z.ls.length ≤ 4096
  hl : ∀ s ∈ z.ls, Sec z.T s
  hF : MIs Sl.v z.M z.F
  hM : MOk z.M z.mc
  hw : ∀ i s, z.F i = some s → 0 ≤ i ∧ i < (z.ls.length : Int) ∧ Sec z.T s
  armed : -1 ≤ z.armed ∧ z.armed ≤ 9223372036854775807
  part : 0 ≤ z.part ∧ z.part ≤ 512
  way : -1 ≤ z.way ∧ z.way < (z.ls.length : Int)
  fl : z.fl.length ≤ 512
/-- a disk as data. -/
structure DD where
  last : List (List UInt8)
  wait : Int → Option (List UInt8)
  off : Bool
  armed : Int
  part : Int
  way : Int
  front : List UInt8
  writes : Int
  lives : Int
def DW.abs (z : DW) : DD := ⟨z.ls.map (fun s => wh s.l), fun i => (z.F i).map (fun s => wh s.l), z.off, z.armed, z.part, z.way, z.fl, z.writes, z.lives⟩
theorem DW.alen (z : DW) : z.abs.last.length = z.ls.length := List.length_map ..
theorem apart_own {w0 w : World} {S : List Nat} {L L1 Lr T : List Ch} (H : Hp w0 w S (L ++ T)) (hp : L.Perm (L1 ++ Lr)) {a : Option Nat} {n c sz : Nat} {xs : List Value} {e : TypeId} (hc : .own a n c xs e sz ∈ Lr) : Apart (hd a) (keys (L1 ++ T)) := by
  have h1 := (H.permT hp).permL (L' := (L1 ++ T) ++ Lr) (by
    rw [List.append_assoc, List.append_assoc]
    exact List.Perm.append_left _ List.perm_append_comm)
  intro x hx hm
  obtain ⟨d, hd1, hd2⟩ := mem_keys.1 hm
  cases a with
  | none => cases hx
  | some b =>
    cases hx
    exact (List.pairwise_append.1 h1.nd).2.2 d hd1 _ hc b hd2 rfl
def dMay (D : DD) (i : Int) : Int := if D.off then 8 else if i < 0 ∨ (D.last.length : Int) ≤ i then 1 else 0
def dRead (D : DD) (i : Int) : List UInt8 := (D.wait i).getD (D.last.getD i.toNat [])
def dDec (a : Int) : Int := if 0 < a then a - 1 else a
def dWriteE (D : DD) (i : Int) (l : List UInt8) : Int := if dMay D i ≠ 0 then dMay D i else if l.length ≠ 512 then 9 else if D.armed = 0 then 8 else 0
def dWrite (D : DD) (i : Int) (l : List UInt8) : DD := if dMay D i ≠ 0 then D else if l.length ≠ 512 then D else if D.armed = 0 then { D with off := true, way := i, front := l.take D.part.toNat } else { D with armed := dDec D.armed, wait := fput D.wait i l, writes := D.writes + 1 }
def dNew (n : Nat) : DD := ⟨List.replicate n (List.replicate 512 0), fun _ => none, false, -1, 0, -1, [], 0, 0⟩
/-- what a call leaves of a disk. -/
def DLeft (w0 w' : World) (db : Nat) (z : DW) (D : DD) : Prop := ∃ y : DW, y.abs = D ∧ y.ok ∧ (∀ c ∈ z.T, c ∈ y.T) ∧ Hp w0 w' (keys (kch db z)) (kch db y)
theorem dRead_eq {z : DW} (_hz : z.ok) {i : Int} (_h0 : 0 ≤ i) (_h1 : i < (z.ls.length : Int)) {e : Sl} (he : z.ls[i.toNat]? = some e) : dRead z.abs i = (match z.F i with | some s => wh s.l | none => wh e.l) := by
  have : z.abs.last.getD i.toNat [] = wh e.l := by
    rw [DW.abs, List.getD_eq_getElem?_getD, List.getElem?_map, he]; rfl
  rw [dRead, this]
  show ((z.F i).map fun s => wh s.l).getD _ = _
  cases z.F i <;> rfl
end Go.Proofs.Ytncmcgcilijfkaa
namespace Go.Proofs.Ytncmcgcilijfkaa
open Go
set_option maxRecDepth 100000
theorem zv_sl (w : World) : (zeroValue 57).run Try.prog w = .ok (nilS.v) w := by
  have h : (Try.prog.info? 57).map (·.zero) = some (some (nilS.v)) := by kernel_rfl
  cases hi : Try.prog.info? 57 with
  | none => rw [hi] at h; cases h
  | some i =>
    rw [hi] at h
    have hz : i.zero = some (nilS.v) := by simpa using h
    simp [zeroValue, typeInfo, hi, hz]
def mayE (off : Bool) (n : Nat) (i : Int) : Int := if off then 8 else if i < 0 ∨ (n : Int) ≤ i then 1 else 0
theorem mayE_abs (z : DW) (i : Int) : mayE z.off z.ls.length i = dMay z.abs i := by rw [mayE, dMay, z.alen]; rfl
theorem whole_ret (w0 : World) (s : Sl) (hs : s.ok w0) :
    Ret Try.prog 55 [s.v] w0 fun v w' => ∃ b, v = .slice (some ⟨b, 0, none⟩) 512 512 ∧ Hp w0 w' [] [.own (some b) 512 512 ((wh s.l).map V8) 5 1] := by
  refine ret_mk Try.func55 rfl Try.ntmps55 (by simp) ?_
  have H := Hp.refl w0 []
  have hsl0 := hs.ln
  have hsm := hs.le
  have hsx := hs.mx
  have hmL : maxLen = 9223372036854775807 := rfl
  repeat refine c_seq ?_
  refine c_region ?_
  refine l_op (o_val (r_as) ?_)
  first | refine l_end ?_ | refine l_nil ?_
  repeat refine c_seq ?_
  refine c_region ?_
  refine l_op (o_makeB 512 H sl57 zc5 rfl rfl (by omega) (by omega) (by omega) (fun b1 w H hb1 => ?_))
  replace H : Hp _ w _ ([.own (some b1) 512 512 ((List.replicate 512 (0 : UInt8)).map V8) 5 1]) := H
  refine l_op (o_val (r_as) ?_)
  first | refine l_end ?_ | refine l_nil ?_
  repeat refine c_seq ?_
  refine c_region ?_
  refine l_op (o_val (r_mv) ?_)
  refine l_op (o_val (r_mv) ?_)
  refine l_op (o_copyB (s := s) H (i := 0) rfl Try.underlying57 Try.underlying57 cs5 rfl rfl (hs.up H (fun _ => apart_nil _)) (by omega) (fun w H => ?_))
  replace H : Hp _ w _ ([.own (some b1) 512 512 (((s.l).take (min s.len 512) ++ (List.replicate 512 (0 : UInt8)).drop (min s.len 512)).map V8) 5 1]) := H
  first | refine l_end ?_ | refine l_nil ?_
  repeat refine c_seq ?_
  refine c_region ?_
  refine l_op (o_val (r_mv) ?_)
  refine l_op (o_val (r_as) ?_)
  first | refine l_end ?_ | refine l_nil ?_
  refine c_ret ?_
  try dsimp only [Exit.then, Exit.inBlock]
  refine e_ret1 (v := .slice (hd (some b1)) 512 512) Try.results55 rfl ?_
  refine ⟨_, rfl, ?_⟩
  have hsl := hs.ln
  have e : (s.l).take (min s.len 512) ++ (List.replicate 512 (0 : UInt8)).drop (min s.len 512) = wh s.l := by rw [wh, hsl]
  rw [e] at H
  exact ⟨_, rfl, H.sub (.cons_cons _ (List.nil_sublist _))⟩
theorem dlen_ret (w0 : World) (db n c fn fc : Nat) (a fa : Option Addr) (m : Option Nat) (off : Bool) (armed part way writes lives : Int) (hdb : (Ch.blk db [.slice a n c, .map m, .bool off, VI armed, VI part, VI way, .slice fa fn fc, VI writes, VI lives] 86).ok w0) :
    Ret Try.prog 30 [.pointer (some ⟨db, 0, none⟩)] w0 fun v w' => v = VI (n : Int) ∧ Hp w0 w' [db] [.blk db [.slice a n c, .map m, .bool off, VI armed, VI part, VI way, .slice fa fn fc, VI writes, VI lives] 86] := by
  refine ret_mk Try.func30 rfl Try.ntmps30 (by simp) ?_
  have H := Hp.start w0 (.blk db ([.slice a n c, .map m, .bool off, VI armed, VI part, VI way, .slice fa fn fc, VI writes, VI lives]) 86) db hdb rfl
  repeat refine c_seq ?_
  refine c_region ?_
  refine l_op (o_val (r_as) ?_)
  first | refine l_end ?_ | refine l_nil ?_
  repeat refine c_seq ?_
  refine c_region ?_
  refine l_op (o_val (r_mv) ?_)
  refine l_op (o_val (r_nilp Try.underlying55 (by kernel_rfl) rfl rfl) ?_)
  first | refine l_end ?_ | refine l_nil ?_
  repeat refine c_seq ?_
  refine c_no rfl ?_
  refine c_skip ?_
  repeat refine c_seq ?_
  refine c_region ?_
  refine l_op (o_val (r_mv) ?_)
  refine l_op (o_val (r_nilc rfl) ?_)
  refine l_op (o_val (r_fa rfl fo86_0) ?_)
  refine l_op (o_val (r_ld (v := .slice a n c) H (i := 0) rfl rfl ct83 rfl) ?_)
  refine l_op (o_val (r_lens el83 rfl) ?_)
  refine l_op (o_val (r_as) ?_)
  first | refine l_end ?_ | refine l_nil ?_
  refine c_ret ?_
  try dsimp only [Exit.then, Exit.inBlock]
  refine e_ret1 (v := VI (n : Int)) Try.results30 rfl ?_
  refine ⟨_, rfl, ?_⟩
  exact ⟨rfl, H.sub (.cons_cons _ (List.nil_sublist _))⟩
theorem dmay_ret (w0 : World) (db n c fn fc : Nat) (a fa : Option Addr) (m : Option Nat) (off : Bool) (armed part way writes lives : Int) (i : Int) (hn : 0 < n) (hdb : (Ch.blk db [.slice a n c, .map m, .bool off, VI armed, VI part, VI way, .slice fa fn fc, VI writes, VI lives] 86).ok w0) :
    Ret Try.prog 54 [.pointer (some ⟨db, 0, none⟩), VI i] w0 fun v w' => v = VI (mayE off n i) ∧ Hp w0 w' [db] [.blk db [.slice a n c, .map m, .bool off, VI armed, VI part, VI way, .slice fa fn fc, VI writes, VI lives] 86] := by
  refine ret_mk Try.func54 rfl Try.ntmps54 (by simp) ?_
  have H := Hp.start w0 (.blk db ([.slice a n c, .map m, .bool off, VI armed, VI part, VI way, .slice fa fn fc, VI writes, VI lives]) 86) db hdb rfl
  repeat refine c_seq ?_
  refine c_region ?_
  refine l_op (o_val (r_as) ?_)
  first | refine l_end ?_ | refine l_nil ?_
  repeat refine c_seq ?_
  refine c_block ?_
  repeat refine c_seq ?_
  refine c_region ?_
  refine l_op (o_val (r_mv) ?_)
  refine l_op (o_callR Try.func30 rfl rfl rfl (dlen_ret _ _ n c fn fc a fa m off armed part way writes lives (H.has _ (List.mem_of_getElem? (i := 0) rfl))) ?_)
  rintro _ w ⟨rfl, Hc⟩
  replace H := (H.callA (i := 0) rfl rfl rfl Hc)
  clear Hc
  replace H : Hp _ w _ ([.blk db ([.slice a n c, .map m, .bool off, VI armed, VI part, VI way, .slice fa fn fc, VI writes, VI lives]) 86]) := H
  refine l_op (o_val (r_bin (a := (n : Int)) (b := 0) rfl rfl (fun _ => b_eqlB false (decide_eq_false (by omega)))) ?_)
  refine l_op (o_val (r_as) ?_)
  first | refine l_end ?_ | refine l_nil ?_
  repeat refine c_seq ?_
  refine c_no rfl ?_
  repeat refine c_seq ?_
  refine c_region ?_
  refine l_op (o_val (r_mv) ?_)
  refine l_op (o_val (r_nilc rfl) ?_)
  refine l_op (o_val (r_fa rfl fo86_2) ?_)
  refine l_op (o_val (r_ld (v := .bool off) H (i := 0) rfl rfl ct4 rfl) ?_)
  refine l_op (o_val (r_as) ?_)
  first | refine l_end ?_ | refine l_nil ?_
  have hc10 := Bool.eq_false_or_eq_true (off)
  rcases hc10 with hc1 | hc1
  ·
   repeat refine c_seq ?_
   refine c_yes (by exact congrArg Value.bool hc1) ?_
   repeat refine c_seq ?_
   refine c_region ?_
   refine l_op (o_val (r_as) ?_)
   first | refine l_end ?_ | refine l_nil ?_
   refine c_ret ?_
   try dsimp only [Exit.then, Exit.inBlock]
   refine e_ret1 (v := VI 8) Try.results54 rfl ?_
   refine ⟨_, rfl, ?_⟩
   refine ⟨?_, H.sub (.cons_cons _ (List.nil_sublist _))⟩
   rw [mayE, if_pos hc1]
  ·
   repeat refine c_seq ?_
   refine c_no (by exact congrArg Value.bool hc1) ?_
   repeat refine c_seq ?_
   refine c_region ?_
   refine l_op (o_val (r_mv) ?_)
   refine l_op (o_val (r_bin (a := i) (b := 0) rfl rfl (fun _ => b_lss)) ?_)
   refine l_op (o_val (r_mv) ?_)
   by_cases hc2 : i < 0
   ·
    refine l_no rfl rfl (by exact congrArg Value.bool (decide_eq_true hc2)) rfl ?_
    refine l_no rfl rfl (by exact congrArg Value.bool (decide_eq_true hc2)) rfl ?_
    refine l_no rfl rfl (by exact congrArg Value.bool (decide_eq_true hc2)) rfl ?_
    refine l_no rfl rfl (by exact congrArg Value.bool (decide_eq_true hc2)) rfl ?_
    refine l_no rfl rfl (by exact congrArg Value.bool (decide_eq_true hc2)) rfl ?_
    refine l_no rfl rfl (by exact congrArg Value.bool (decide_eq_true hc2)) rfl ?_
    refine l_no rfl rfl (by exact congrArg Value.bool (decide_eq_true hc2)) rfl ?_
    refine l_op (o_val (r_pick (b := true) (congrArg Value.bool (decide_eq_true hc2))) ?_)
    refine l_op (o_val (r_as) ?_)
    first | refine l_end ?_ | refine l_nil ?_
    repeat refine c_seq ?_
    refine c_yes rfl ?_
    repeat refine c_seq ?_
    refine c_region ?_
    refine l_op (o_val (r_as) ?_)
    first | refine l_end ?_ | refine l_nil ?_
    refine c_ret ?_
    try dsimp only [Exit.then, Exit.inBlock]
    refine e_ret1 (v := VI 1) Try.results54 rfl ?_
    refine ⟨_, rfl, ?_⟩
    refine ⟨?_, H.sub (.cons_cons _ (List.nil_sublist _))⟩
    rw [mayE, if_neg (by rw [hc1]; decide), if_pos (by omega)]
   ·
    refine l_yes rfl rfl (by exact congrArg Value.bool (decide_eq_false hc2)) (o_val (r_mv) ?_)
    refine l_yes rfl rfl (by exact congrArg Value.bool (decide_eq_false hc2)) (o_val (r_mv) ?_)
    refine l_yes rfl rfl (by exact congrArg Value.bool (decide_eq_false hc2)) (o_val (r_nilc rfl) ?_)
    refine l_yes rfl rfl (by exact congrArg Value.bool (decide_eq_false hc2)) (o_val (r_fa rfl fo86_0) ?_)
    refine l_yes rfl rfl (by exact congrArg Value.bool (decide_eq_false hc2)) (o_val (r_ld (v := .slice a n c) H (i := 0) rfl rfl ct83 rfl) ?_)
    refine l_yes rfl rfl (by exact congrArg Value.bool (decide_eq_false hc2)) (o_val (r_lens el83 rfl) ?_)
    refine l_yes rfl rfl (by exact congrArg Value.bool (decide_eq_false hc2)) (o_val (r_bin (a := i) (b := (n : Int)) rfl rfl (fun _ => b_geq)) ?_)
    refine l_op (o_val (r_pick (b := false) (congrArg Value.bool (decide_eq_false hc2))) ?_)
    refine l_op (o_val (r_as) ?_)
    first | refine l_end ?_ | refine l_nil ?_
    by_cases hc3 : (n : Int) ≤ i
    ·
     repeat refine c_seq ?_
     refine c_yes (by exact congrArg Value.bool (decide_eq_true hc3)) ?_
     repeat refine c_seq ?_
     refine c_region ?_
     refine l_op (o_val (r_as) ?_)
     first | refine l_end ?_ | refine l_nil ?_
     refine c_ret ?_
     try dsimp only [Exit.then, Exit.inBlock]
     refine e_ret1 (v := VI 1) Try.results54 rfl ?_
     refine ⟨_, rfl, ?_⟩
     refine ⟨?_, H.sub (.cons_cons _ (List.nil_sublist _))⟩
     rw [mayE, if_neg (by rw [hc1]; decide), if_pos (by omega)]
    ·
     repeat refine c_seq ?_
     refine c_no (by exact congrArg Value.bool (decide_eq_false hc3)) ?_
     refine c_skip ?_
     repeat refine c_seq ?_
     refine c_region ?_
     refine l_op (o_val (r_as) ?_)
     first | refine l_end ?_ | refine l_nil ?_
     refine c_ret ?_
     try dsimp only [Exit.then, Exit.inBlock]
     refine e_ret1 (v := VI 0) Try.results54 rfl ?_
     refine ⟨_, rfl, ?_⟩
     refine ⟨?_, H.sub (.cons_cons _ (List.nil_sublist _))⟩
     rw [mayE, if_neg (by rw [hc1]; decide), if_neg (by omega)]
theorem dgo0_ret (w0 : World) (db n c fn fc : Nat) (a fa : Option Addr) (m : Option Nat) (off : Bool) (armed part way writes lives : Int) (h0 : armed = 0) (hdb : (Ch.blk db [.slice a n c, .map m, .bool off, VI armed, VI part, VI way, .slice fa fn fc, VI writes, VI lives] 86).ok w0) :
    Ret Try.prog 58 [.pointer (some ⟨db, 0, none⟩)] w0 fun v w' => v = .bool false ∧ Hp w0 w' [db] [.blk db [.slice a n c, .map m, .bool true, VI armed, VI part, VI way, .slice fa fn fc, VI writes, VI lives] 86] := by
  refine ret_mk Try.func58 rfl Try.ntmps58 (by simp) ?_
  have H := Hp.start w0 (.blk db ([.slice a n c, .map m, .bool off, VI armed, VI part, VI way, .slice fa fn fc, VI writes, VI lives]) 86) db hdb rfl
  repeat refine c_seq ?_
  refine c_region ?_
  refine l_op (o_val (r_as) ?_)
  first | refine l_end ?_ | refine l_nil ?_
  repeat refine c_seq ?_
  refine c_region ?_
  refine l_op (o_val (r_mv) ?_)
  refine l_op (o_val (r_nilc rfl) ?_)
  refine l_op (o_val (r_fa rfl fo86_3) ?_)
  refine l_op (o_val (r_ld (v := VI armed) H (i := 0) rfl rfl ct3 rfl) ?_)
  refine l_op (o_val (r_bin (a := armed) (b := 0) rfl rfl (fun _ => b_eqlB true (decide_eq_true h0))) ?_)
  first | refine l_end ?_ | refine l_nil ?_
  repeat refine c_seq ?_
  refine c_yes rfl ?_
  repeat refine c_seq ?_
  refine c_region ?_
  refine l_op (o_val (r_mv) ?_)
  refine l_op (o_val (r_nilc rfl) ?_)
  refine l_op (o_val (r_fa rfl fo86_2) ?_)
  refine l_op (o_st (v := .bool true) H (i := 0) rfl rfl rfl cs4 rfl (by simp only [List.length_cons, List.length_nil]; omega) (fun w H => ?_))
  replace H : Hp _ w _ ([.blk db ([.slice a n c, .map m, .bool true, VI armed, VI part, VI way, .slice fa fn fc, VI writes, VI lives]) 86]) := H
  first | refine l_end ?_ | refine l_nil ?_
  repeat refine c_seq ?_
  refine c_region ?_
  refine l_op (o_val (r_as) ?_)
  first | refine l_end ?_ | refine l_nil ?_
  refine c_ret ?_
  try dsimp only [Exit.then, Exit.inBlock]
  refine e_ret1 (v := .bool false) Try.results58 rfl ?_
  refine ⟨_, rfl, ?_⟩
  exact ⟨rfl, H.sub (.cons_cons _ (List.nil_sublist _))⟩
theorem dgo1_ret (w0 : World) (db n c fn fc : Nat) (a fa : Option Addr) (m : Option Nat) (off : Bool) (armed part way writes lives : Int) (h0 : ¬ armed = 0) (h1 : armed ≤ 9223372036854775807) (hdb : (Ch.blk db [.slice a n c, .map m, .bool off, VI armed, VI part, VI way, .slice fa fn fc, VI writes, VI lives] 86).ok w0) :
    Ret Try.prog 58 [.pointer (some ⟨db, 0, none⟩)] w0 fun v w' => v = .bool true ∧ Hp w0 w' [db] [.blk db [.slice a n c, .map m, .bool off, VI (dDec armed), VI part, VI way, .slice fa fn fc, VI writes, VI lives] 86] := by
  refine ret_mk Try.func58 rfl Try.ntmps58 (by simp) ?_
  have H := Hp.start w0 (.blk db ([.slice a n c, .map m, .bool off, VI armed, VI part, VI way, .slice fa fn fc, VI writes, VI lives]) 86) db hdb rfl
  repeat refine c_seq ?_
  refine c_region ?_
  refine l_op (o_val (r_as) ?_)
  first | refine l_end ?_ | refine l_nil ?_
  repeat refine c_seq ?_
  refine c_region ?_
  refine l_op (o_val (r_mv) ?_)
  refine l_op (o_val (r_nilc rfl) ?_)
  refine l_op (o_val (r_fa rfl fo86_3) ?_)
  refine l_op (o_val (r_ld (v := VI armed) H (i := 0) rfl rfl ct3 rfl) ?_)
  refine l_op (o_val (r_bin (a := armed) (b := 0) rfl rfl (fun _ => b_eqlB false (decide_eq_false h0))) ?_)
  first | refine l_end ?_ | refine l_nil ?_
  repeat refine c_seq ?_
  refine c_no rfl ?_
  refine c_skip ?_
  repeat refine c_seq ?_
  refine c_region ?_
  refine l_op (o_val (r_mv) ?_)
  refine l_op (o_val (r_nilc rfl) ?_)
  refine l_op (o_val (r_fa rfl fo86_3) ?_)
  refine l_op (o_val (r_ld (v := VI armed) H (i := 0) rfl rfl ct3 rfl) ?_)
  refine l_op (o_val (r_bin (a := armed) (b := 0) rfl rfl (fun _ => b_gtr)) ?_)
  first | refine l_end ?_ | refine l_nil ?_
  by_cases hc1 : 0 < armed
  ·
   repeat refine c_seq ?_
   refine c_yes (by exact congrArg Value.bool (decide_eq_true hc1)) ?_
   repeat refine c_seq ?_
   refine c_region ?_
   refine l_op (o_val (r_mv) ?_)
   refine l_op (o_val (r_nilc rfl) ?_)
   refine l_op (o_val (r_fa rfl fo86_3) ?_)
   refine l_op (o_val (r_ld (v := VI armed) H (i := 0) rfl rfl ct3 rfl) ?_)
   refine l_op (o_val (r_bin (a := armed) (b := 1) rfl rfl (fun _ => b_sub (by omega) (by omega))) ?_)
   refine l_op (o_val (r_nilc rfl) ?_)
   refine l_op (o_val (r_fa rfl fo86_3) ?_)
   refine l_op (o_st (v := VI (armed - 1)) H (i := 0) rfl rfl rfl cs3 rfl (by simp only [List.length_cons, List.length_nil]; omega) (fun w H => ?_))
   replace H : Hp _ w _ ([.blk db ([.slice a n c, .map m, .bool off, VI (armed - 1), VI part, VI way, .slice fa fn fc, VI writes, VI lives]) 86]) := H
   first | refine l_end ?_ | refine l_nil ?_
   repeat refine c_seq ?_
   refine c_region ?_
   refine l_op (o_val (r_as) ?_)
   first | refine l_end ?_ | refine l_nil ?_
   refine c_ret ?_
   try dsimp only [Exit.then, Exit.inBlock]
   refine e_ret1 (v := .bool true) Try.results58 rfl ?_
   refine ⟨_, rfl, ?_⟩
   have e : dDec armed = armed - 1 := by rw [dDec, if_pos (by omega)]
   refine ⟨rfl, ?_⟩
   rw [e]
   exact H.sub (.cons_cons _ (List.nil_sublist _))
  ·
   repeat refine c_seq ?_
   refine c_no (by exact congrArg Value.bool (decide_eq_false hc1)) ?_
   refine c_skip ?_
   repeat refine c_seq ?_
   refine c_region ?_
   refine l_op (o_val (r_as) ?_)
   first | refine l_end ?_ | refine l_nil ?_
   refine c_ret ?_
   try dsimp only [Exit.then, Exit.inBlock]
   refine e_ret1 (v := .bool true) Try.results58 rfl ?_
   refine ⟨_, rfl, ?_⟩
   have e : dDec armed = armed := by rw [dDec, if_neg (by omega)]
   refine ⟨rfl, ?_⟩
   rw [e]
   exact H.sub (.cons_cons _ (List.nil_sublist _))
end Go.Proofs.Ytncmcgcilijfkaa
namespace Go.Proofs.Ytncmcgcilijfkaa
open Go
set_option maxRecDepth 100000
theorem may0 {off : Bool} {n : Nat} {i : Int} (h : mayE off n i = 0) : off = false ∧ 0 ≤ i ∧ i < (n : Int) := by
  rw [mayE] at h
  cases off with
  | true => simp at h
  | false =>
    rw [if_neg (by decide)] at h
    refine ⟨rfl, ?_⟩
    by_cases hc : i < 0 ∨ (n : Int) ≤ i
    · rw [if_pos hc] at h; cases h
    · omega
theorem dleft_same {w0 w' : World} {db : Nat} {z : DW} {D : DD} (hz : z.ok) (hD : z.abs = D) (H : Hp w0 w' (keys (kch db z)) (kch db z)) : DLeft w0 w' db z D := ⟨z, hD, hz, fun _ h => h, H⟩
theorem dWrite_may {z : DW} {i : Int} {l : List UInt8} (h : ¬ mayE z.off z.ls.length i = 0) : dWriteE z.abs i l = mayE z.off z.ls.length i ∧ dWrite z.abs i l = z.abs := by
  rw [mayE_abs] at h ⊢
  exact ⟨by rw [dWriteE, if_pos h], by rw [dWrite, if_pos h]⟩
theorem dWrite_len {z : DW} {i : Int} {l : List UInt8} (h : mayE z.off z.ls.length i = 0) (hl : l.length ≠ 512) : dWriteE z.abs i l = 9 ∧ dWrite z.abs i l = z.abs := by
  rw [mayE_abs] at h
  exact ⟨by rw [dWriteE, if_neg (fun e => e h), if_pos hl], by rw [dWrite, if_neg (fun e => e h), if_pos hl]⟩
theorem dWrite_dead {z : DW} {i : Int} {l : List UInt8} (h : mayE z.off z.ls.length i = 0) (hl : l.length = 512) (ha : z.armed = 0) : dWriteE z.abs i l = 8 ∧ dWrite z.abs i l = { z.abs with off := true, way := i, front := l.take z.part.toNat } := by
  rw [mayE_abs] at h
  exact ⟨by rw [dWriteE, if_neg (fun e => e h), if_neg (fun e => e hl), if_pos (show z.abs.armed = 0 from ha)], by rw [dWrite, if_neg (fun e => e h), if_neg (fun e => e hl), if_pos (show z.abs.armed = 0 from ha)]; rfl⟩
theorem dWrite_goes {z : DW} {i : Int} {l : List UInt8} (h : mayE z.off z.ls.length i = 0) (hl : l.length = 512) (ha : ¬ z.armed = 0) : dWriteE z.abs i l = 0 ∧ dWrite z.abs i l = { z.abs with armed := dDec z.armed, wait := fput z.abs.wait i l, writes := z.writes + 1 } := by
  rw [mayE_abs] at h
  exact ⟨by rw [dWriteE, if_neg (fun e => e h), if_neg (fun e => e hl), if_neg (show ¬ z.abs.armed = 0 from ha)], by rw [dWrite, if_neg (fun e => e h), if_neg (fun e => e hl), if_neg (show ¬ z.abs.armed = 0 from ha)]; rfl⟩
theorem dDec_bd {a : Int} (h : -1 ≤ a ∧ a ≤ 9223372036854775807) : -1 ≤ dDec a ∧ dDec a ≤ 9223372036854775807 := by rw [dDec]; split <;> omega
theorem bclone_ret (w0 : World) (s : Sl) (hs : s.ok w0) (hm : s.len ≤ 1048576) :
    Ret Try.prog 59 [s.v] w0 fun v w' => ∃ a c, v = .slice (hd a) s.len c ∧ Hp w0 w' [] [.own a s.len c (s.l.map V8) 5 1] := by
  refine ret_mk Try.func59 rfl Try.ntmps59 (by simp) ?_
  have H := Hp.refl w0 []
  have hsl0 := hs.ln
  have hsm := hs.le
  have hsx := hs.mx
  repeat refine c_seq ?_
  refine c_region ?_
  refine l_op (o_val (r_as) ?_)
  first | refine l_end ?_ | refine l_nil ?_
  repeat refine c_seq ?_
  refine c_region ?_
  refine l_op (o_val (r_mv) ?_)
  refine l_op (o_val (r_slnil Try.underlying57 (by kernel_rfl) rfl rfl) ?_)
  first | refine l_end ?_ | refine l_nil ?_
  have hc10 := Bool.eq_false_or_eq_true (s.a.isNone)
  rcases hc10 with hc1 | hc1
  ·
   repeat refine c_seq ?_
   refine c_yes (by exact congrArg Value.bool hc1) ?_
   repeat refine c_seq ?_
   refine c_region ?_
   refine l_op (o_val (r_as) ?_)
   first | refine l_end ?_ | refine l_nil ?_
   refine c_ret ?_
   try dsimp only [Exit.then, Exit.inBlock]
   refine e_ret1 (v := .slice none 0 0) Try.results59 rfl ?_
   refine ⟨_, rfl, ?_⟩
   have hl0 : s.l = [] := by
     rcases hs.rd with h | ⟨b, o, C, T, fr, ha, _⟩
     · simpa using h
     · rw [ha] at hc1; cases hc1
   have hn0 : s.len = 0 := by rw [← hs.ln, hl0]; rfl
   rw [hl0, hn0]
   exact ⟨none, 0, rfl, H.nilEnd 5 1⟩
  ·
   repeat refine c_seq ?_
   refine c_no (by exact congrArg Value.bool hc1) ?_
   refine c_skip ?_
   repeat refine c_seq ?_
   refine c_region ?_
   refine l_op (o_bslB (([] : List UInt8)) H sl57 zc5 rfl rfl (by decide) (fun b2 w H hb2 => ?_))
   replace H : Hp _ w _ ([.own (some b2) 0 0 ((([] : List UInt8)).map V8) 5 1]) := H
   refine l_op (o_val (r_mv) ?_)
   refine l_op (o_appB (s := s) (l' := s.l) (len' := s.len) rfl (Nat.zero_add _) H (i := 0) rfl sl57 Try.underlying57 rfl rfl (hs.up H (fun _ => apart_nil _)) (by omega) (fun a3 c4 w H => ?_))
   replace H : Hp _ w _ ([.own a3 s.len c4 ((s.l).map V8) 5 1]) := H
   refine l_op (o_val (r_as) ?_)
   first | refine l_end ?_ | refine l_nil ?_
   refine c_ret ?_
   try dsimp only [Exit.then, Exit.inBlock]
   refine e_ret1 (v := .slice (hd a3) s.len c4) Try.results59 rfl ?_
   refine ⟨_, rfl, ?_⟩
   exact ⟨_, _, rfl, H.sub (.cons_cons _ (List.nil_sublist _))⟩
theorem dread_ret (w0 : World) (db : Nat) (z : DW) (hO : Own w0 (kch db z)) (hz : z.ok) (i : Int) :
    Ret Try.prog 29 [.pointer (some ⟨db, 0, none⟩), VI i] w0 fun v w' => ∃ a n c l, v = .tuple #[.slice (hd a) n c, VI (dMay z.abs i)] ∧ n = l.length ∧ (dMay z.abs i = 0 → l = dRead z.abs i) ∧ (dMay z.abs i ≠ 0 → l = []) ∧ Hp w0 w' (keys (kch db z)) (.own a n c (l.map V8) 5 1 :: kch db z) := by
  refine ret_mk Try.func29 rfl Try.ntmps29 (by simp) ?_
  have H : Hp w0 w0 (keys (kch db z)) (Ch.blk db ([.slice (hd (some z.a1)) z.ls.length z.c1, .map (some z.mb), .bool z.off, VI z.armed, VI z.part, VI z.way, .slice (hd z.fa) z.fl.length z.fc, VI z.writes, VI z.lives]) 86 :: Ch.own (some z.a1) z.ls.length z.c1 ((z.ls).flatMap slE) 57 1 :: Ch.obj z.mb (mobj kI z.M z.mc) :: Ch.own z.fa z.fl.length z.fc ((z.fl).map V8) 5 1 :: z.T) := hO.start
  have hzn := hz.n
  have hza := hz.armed
  have hzp := hz.part
  have hzw := hz.way
  have hzf := hz.fl
  have hzl := z.alen
  have hmL : maxLen = 9223372036854775807 := rfl
  repeat refine c_seq ?_
  refine c_region ?_
  refine l_op (o_val (r_as) ?_)
  refine l_op (o_val (r_as) ?_)
  first | refine l_end ?_ | refine l_nil ?_
  repeat refine c_seq ?_
  refine c_region ?_
  refine l_op (o_val (r_mv) ?_)
  refine l_op (o_val (r_mv) ?_)
  refine l_op (o_callR Try.func54 rfl rfl rfl (dmay_ret _ _ z.ls.length z.c1 z.fl.length z.fc (hd (some z.a1)) (hd z.fa) (some z.mb) z.off z.armed z.part z.way z.writes z.lives i (by omega) (H.has _ (List.mem_of_getElem? (i := 0) rfl))) ?_)
  rintro _ w ⟨rfl, Hc⟩
  replace H := (H.callA (i := 0) rfl rfl rfl Hc)
  clear Hc
  replace H : Hp _ w _ (Ch.blk db ([.slice (hd (some z.a1)) z.ls.length z.c1, .map (some z.mb), .bool z.off, VI z.armed, VI z.part, VI z.way, .slice (hd z.fa) z.fl.length z.fc, VI z.writes, VI z.lives]) 86 :: Ch.own (some z.a1) z.ls.length z.c1 ((z.ls).flatMap slE) 57 1 :: Ch.obj z.mb (mobj kI z.M z.mc) :: Ch.own z.fa z.fl.length z.fc ((z.fl).map V8) 5 1 :: z.T) := H
  refine l_op (o_val (r_as) ?_)
  first | refine l_end ?_ | refine l_nil ?_
  repeat refine c_seq ?_
  refine c_region ?_
  refine l_op (o_val (r_mv) ?_)
  refine l_op (o_val (r_bin (a := mayE z.off z.ls.length i) (b := 0) rfl rfl (fun _ => b_neq)) ?_)
  first | refine l_end ?_ | refine l_nil ?_
  by_cases hc1 : mayE z.off z.ls.length i ≠ 0
  ·
   repeat refine c_seq ?_
   refine c_yes (by exact congrArg Value.bool (decide_eq_true hc1)) ?_
   repeat refine c_seq ?_
   refine c_region ?_
   refine l_op (o_val (r_mv) ?_)
   refine l_op (o_val (r_as) ?_)
   refine l_op (o_val (r_as) ?_)
   first | refine l_end ?_ | refine l_nil ?_
   refine c_ret ?_
   try dsimp only [Exit.then, Exit.inBlock]
   refine e_retN (vs := [.slice none 0 0, VI (mayE z.off z.ls.length i)]) _ Try.results29 rfl (resT (v := .slice none 0 0) rfl (resT (v := VI (mayE z.off z.ls.length i)) rfl (resZ))) ?_
   refine ⟨_, rfl, ?_⟩
   have hme := mayE_abs z i
   refine ⟨none, 0, 0, [], ?_, rfl, fun h => by omega, fun _ => rfl, (H.sub (.cons_cons _ (.cons_cons _ (.cons_cons _ (.cons_cons _ (List.Sublist.refl _)))))).nilOwn 5 1⟩
   rw [← hme]; rfl
  ·
   repeat refine c_seq ?_
   refine c_no (by exact congrArg Value.bool (decide_eq_false hc1)) ?_
   refine c_skip ?_
   have hm4 := may0 (show mayE z.off z.ls.length i = 0 by omega)
   repeat refine c_seq ?_
   refine c_region ?_
   refine l_op (o_val (r_mv) ?_)
   refine l_op (o_val (r_nilc rfl) ?_)
   refine l_op (o_val (r_fa rfl fo86_1) ?_)
   refine l_op (o_val (r_ld (v := .map (some z.mb)) H (i := 0) rfl rfl ct84 rfl) ?_)
   refine l_op (o_val (r_mv) ?_)
   refine l_op (o_val (r_lookT (k := i) nilS hz.hF H (i := 2) rfl Try.underlying84 (keyI (by kernel_rfl)) zv_sl rfl rfl) ?_)
   refine l_op (o_val (r_mv) ?_)
   refine l_op (o_val (r_ext rfl rfl) ?_)
   refine l_op (o_val (r_ext rfl rfl) ?_)
   refine l_op (o_val (r_as) ?_)
   refine l_op (o_val (r_as) ?_)
   first | refine l_end ?_ | refine l_nil ?_
   repeat refine c_seq ?_
   refine c_region ?_
   refine l_op (o_val (r_mv) ?_)
   first | refine l_end ?_ | refine l_nil ?_
   have hc20 := Bool.eq_false_or_eq_true ((z.F i).isSome)
   rcases hc20 with hc2 | hc2
   ·
    repeat refine c_seq ?_
    refine c_yes (by exact congrArg Value.bool hc2) ?_
    repeat refine c_seq ?_
    refine c_region ?_
    refine l_op (o_val (r_mv) ?_)
    refine l_op (o_callR Try.func55 rfl rfl rfl (whole_ret _ ((z.F i).getD nilS) (sec_ok (T := z.T) H (by intro q hq; repeat (first | exact hq | apply List.mem_cons_of_mem)) (by first | exact sec_getD (fun s hs => (hz.hw _ s hs).2.2) | exact (hz.hw _ _ (by assumption)).2.2))) ?_)
    rintro _ w ⟨sb3, rfl, Hc⟩
    replace H : Hp _ w _ (Ch.own (some sb3) 512 512 ((wh (((z.F i).getD nilS).l)).map V8) 5 1 :: Ch.blk db ([.slice (hd (some z.a1)) z.ls.length z.c1, .map (some z.mb), .bool z.off, VI z.armed, VI z.part, VI z.way, .slice (hd z.fa) z.fl.length z.fc, VI z.writes, VI z.lives]) 86 :: Ch.own (some z.a1) z.ls.length z.c1 ((z.ls).flatMap slE) 57 1 :: Ch.obj z.mb (mobj kI z.M z.mc) :: Ch.own z.fa z.fl.length z.fc ((z.fl).map V8) 5 1 :: z.T) := (H.call Hc).rot
    clear Hc
    refine l_op (o_val (r_as) ?_)
    refine l_op (o_val (r_as) ?_)
    first | refine l_end ?_ | refine l_nil ?_
    refine c_ret ?_
    try dsimp only [Exit.then, Exit.inBlock]
    refine e_retN (vs := [.slice (hd (some sb3)) 512 512, VI 0]) _ Try.results29 rfl (resT (v := .slice (hd (some sb3)) 512 512) rfl (resT (v := VI 0) rfl (resZ))) ?_
    refine ⟨_, rfl, ?_⟩
    have hme := mayE_abs z i
    have hm0 : mayE z.off z.ls.length i = 0 := by omega
    obtain ⟨hm1, hm2, hm3⟩ := may0 hm0
    have hget : ∃ e, z.ls[i.toNat]? = some e := ⟨_, List.getElem?_eq_getElem (by omega)⟩
    obtain ⟨eg, heg⟩ := hget
    have hrd := dRead_eq hz hm2 hm3 heg
    obtain ⟨sg, hsg⟩ := Option.isSome_iff_exists.1 hc2
    rw [hsg] at hrd
    have hl : wh (((z.F i).getD nilS).l) = dRead z.abs i := by rw [hrd, hsg]; rfl
    refine ⟨(some sb3), 512, 512, wh (((z.F i).getD nilS).l), ?_, (wh_len _).symm, fun _ => hl, fun h => absurd (by omega) h, ?_⟩
    · rw [← hme, hm0]
    · exact (Hp.permT (L := [.own (some sb3) 512 512 ((wh (((z.F i).getD nilS).l)).map V8) 5 1, .blk db ([.slice (hd (some z.a1)) z.ls.length z.c1, .map (some z.mb), .bool z.off, VI z.armed, VI z.part, VI z.way, .slice (hd z.fa) z.fl.length z.fc, VI z.writes, VI z.lives]) 86, .own (some z.a1) z.ls.length z.c1 ((z.ls).flatMap slE) 57 1, .obj z.mb (mobj kI z.M z.mc), .own z.fa z.fl.length z.fc ((z.fl).map V8) 5 1]) (T := z.T) H (.refl _)).sub (.cons_cons _ (.cons_cons _ (.cons_cons _ (.cons_cons _ (.cons_cons _ ((List.Sublist.refl _)))))))
   ·
    repeat refine c_seq ?_
    refine c_no (by exact congrArg Value.bool hc2) ?_
    refine c_skip ?_
    repeat refine c_seq ?_
    refine c_region ?_
    refine l_op (o_val (r_mv) ?_)
    refine l_op (o_val (r_nilc rfl) ?_)
    refine l_op (o_val (r_fa rfl fo86_0) ?_)
    refine l_op (o_val (r_ld (v := .slice (hd (some z.a1)) z.ls.length z.c1) H (i := 0) rfl rfl ct83 rfl) ?_)
    refine l_op (o_val (r_mv) ?_)
    have ah5 := H.ownAddr (i := 1) rfl (by omega)
    obtain ⟨ab4, ah5⟩ := ah5
    refine l_op (o_val (r_isN ((i).toNat) rfl rfl el83 ah5 (by omega) (by (try simp only [Sl.cut]); omega)) ?_)
    have he7 : ∃ c, (z.ls)[(i).toNat]? = some c := ⟨_, List.getElem?_eq_getElem (by have := ((H.glOwn (i := 1) rfl (by decide) (fun _ _ => rfl))).ln; (try dsimp only at this ⊢); omega)⟩
    obtain ⟨e6, he7⟩ := he7
    have hez8 := ((H.glOwn (i := 1) rfl (by decide) (fun _ _ => rfl))).sz e6 (List.mem_of_getElem? he7)
    have hsc_e6 : Sec z.T e6 := hz.hl _ (List.mem_of_getElem? he7)
    refine l_op (o_val (r_gc (v := e6.v) (s := (⟨hd (some z.a1), z.ls.length, z.c1, z.ls⟩ : Gl Sl)) (j := (i).toNat) (H.glOwn (i := 1) rfl (by decide) (fun _ _ => rfl)) ah5 rfl ct57 he7 rfl) ?_)
    refine l_op (o_callR Try.func55 rfl rfl rfl (whole_ret _ e6 (sec_ok (T := z.T) H (by intro q hq; repeat (first | exact hq | apply List.mem_cons_of_mem)) hsc_e6)) ?_)
    rintro _ w ⟨sb9, rfl, Hc⟩
    replace H : Hp _ w _ (Ch.own (some sb9) 512 512 ((wh e6.l).map V8) 5 1 :: Ch.blk db ([.slice (hd (some z.a1)) z.ls.length z.c1, .map (some z.mb), .bool z.off, VI z.armed, VI z.part, VI z.way, .slice (hd z.fa) z.fl.length z.fc, VI z.writes, VI z.lives]) 86 :: Ch.own (some z.a1) z.ls.length z.c1 ((z.ls).flatMap slE) 57 1 :: Ch.obj z.mb (mobj kI z.M z.mc) :: Ch.own z.fa z.fl.length z.fc ((z.fl).map V8) 5 1 :: z.T) := (H.call Hc).rot
    clear Hc
    refine l_op (o_val (r_as) ?_)
    refine l_op (o_val (r_as) ?_)
    first | refine l_end ?_ | refine l_nil ?_
    refine c_ret ?_
    try dsimp only [Exit.then, Exit.inBlock]
    refine e_retN (vs := [.slice (hd (some sb9)) 512 512, VI 0]) _ Try.results29 rfl (resT (v := .slice (hd (some sb9)) 512 512) rfl (resT (v := VI 0) rfl (resZ))) ?_
    refine ⟨_, rfl, ?_⟩
    have hme := mayE_abs z i
    have hm0 : mayE z.off z.ls.length i = 0 := by omega
    obtain ⟨hm1, hm2, hm3⟩ := may0 hm0
    have hget : ∃ e, z.ls[i.toNat]? = some e := ⟨_, List.getElem?_eq_getElem (by omega)⟩
    obtain ⟨eg, heg⟩ := hget
    have hrd := dRead_eq hz hm2 hm3 heg
    have hsg : z.F i = none := by
      cases h : z.F i with
      | none => rfl
      | some _ => rw [h] at hc2; cases hc2
    rw [hsg] at hrd
    have hee : eg = e6 := Option.some.inj (heg.symm.trans he7)
    have hl : wh e6.l = dRead z.abs i := by rw [hrd, hee]
    refine ⟨(some sb9), 512, 512, wh e6.l, ?_, (wh_len _).symm, fun _ => hl, fun h => absurd (by omega) h, ?_⟩
    · rw [← hme, hm0]
    · exact (Hp.permT (L := [.own (some sb9) 512 512 ((wh e6.l).map V8) 5 1, .blk db ([.slice (hd (some z.a1)) z.ls.length z.c1, .map (some z.mb), .bool z.off, VI z.armed, VI z.part, VI z.way, .slice (hd z.fa) z.fl.length z.fc, VI z.writes, VI z.lives]) 86, .own (some z.a1) z.ls.length z.c1 ((z.ls).flatMap slE) 57 1, .obj z.mb (mobj kI z.M z.mc), .own z.fa z.fl.length z.fc ((z.fl).map V8) 5 1]) (T := z.T) H (.refl _)).sub (.cons_cons _ (.cons_cons _ (.cons_cons _ (.cons_cons _ (.cons_cons _ ((List.Sublist.refl _)))))))
theorem dwrite_ret (w0 : World) (db : Nat) (z : DW) (hO : Own w0 (kch db z)) (hz : z.ok) (i : Int) (b : Sl) (hb : b.ok w0) (hap : b.l ≠ [] → Apart b.a (keys (kch db z))) (hwr : 0 ≤ z.writes ∧ z.writes ≤ 4611686018427387904) :
    Ret Try.prog 34 [.pointer (some ⟨db, 0, none⟩), VI i, b.v] w0 fun v w' => v = VI (dWriteE z.abs i b.l) ∧ DLeft w0 w' db z (dWrite z.abs i b.l) := by
  refine ret_mk Try.func34 rfl Try.ntmps34 (by simp) ?_
  have H : Hp w0 w0 (keys (kch db z)) (Ch.blk db ([.slice (hd (some z.a1)) z.ls.length z.c1, .map (some z.mb), .bool z.off, VI z.armed, VI z.part, VI z.way, .slice (hd z.fa) z.fl.length z.fc, VI z.writes, VI z.lives]) 86 :: Ch.own (some z.a1) z.ls.length z.c1 ((z.ls).flatMap slE) 57 1 :: Ch.obj z.mb (mobj kI z.M z.mc) :: Ch.own z.fa z.fl.length z.fc ((z.fl).map V8) 5 1 :: z.T) := hO.start
  have hzn := hz.n
  have hza := hz.armed
  have hzp := hz.part
  have hzw := hz.way
  have hzf := hz.fl
  have hzl := z.alen
  have hmL : maxLen = 9223372036854775807 := rfl
  have hbl := hb.ln
  have hbe := hb.le
  have hbx := hb.mx
  repeat refine c_seq ?_
  refine c_region ?_
  refine l_op (o_val (r_as) ?_)
  first | refine l_end ?_ | refine l_nil ?_
  repeat refine c_seq ?_
  refine c_region ?_
  refine l_op (o_val (r_mv) ?_)
  refine l_op (o_val (r_mv) ?_)
  refine l_op (o_callR Try.func54 rfl rfl rfl (dmay_ret _ _ z.ls.length z.c1 z.fl.length z.fc (hd (some z.a1)) (hd z.fa) (some z.mb) z.off z.armed z.part z.way z.writes z.lives i (by omega) (H.has _ (List.mem_of_getElem? (i := 0) rfl))) ?_)
  rintro _ w ⟨rfl, Hc⟩
  replace H := (H.callA (i := 0) rfl rfl rfl Hc)
  clear Hc
  replace H : Hp _ w _ (Ch.blk db ([.slice (hd (some z.a1)) z.ls.length z.c1, .map (some z.mb), .bool z.off, VI z.armed, VI z.part, VI z.way, .slice (hd z.fa) z.fl.length z.fc, VI z.writes, VI z.lives]) 86 :: Ch.own (some z.a1) z.ls.length z.c1 ((z.ls).flatMap slE) 57 1 :: Ch.obj z.mb (mobj kI z.M z.mc) :: Ch.own z.fa z.fl.length z.fc ((z.fl).map V8) 5 1 :: z.T) := H
  refine l_op (o_val (r_as) ?_)
  first | refine l_end ?_ | refine l_nil ?_
  repeat refine c_seq ?_
  refine c_region ?_
  refine l_op (o_val (r_mv) ?_)
  refine l_op (o_val (r_bin (a := mayE z.off z.ls.length i) (b := 0) rfl rfl (fun _ => b_neq)) ?_)
  first | refine l_end ?_ | refine l_nil ?_
  by_cases hc1 : mayE z.off z.ls.length i ≠ 0
  ·
   repeat refine c_seq ?_
   refine c_yes (by exact congrArg Value.bool (decide_eq_true hc1)) ?_
   repeat refine c_seq ?_
   refine c_region ?_
   refine l_op (o_val (r_mv) ?_)
   refine l_op (o_val (r_as) ?_)
   first | refine l_end ?_ | refine l_nil ?_
   refine c_ret ?_
   try dsimp only [Exit.then, Exit.inBlock]
   refine e_ret1 (v := VI (mayE z.off z.ls.length i)) Try.results34 rfl ?_
   refine ⟨_, rfl, ?_⟩
   obtain ⟨e1, e2⟩ := dWrite_may (l := b.l) (show ¬ mayE z.off z.ls.length i = 0 by omega)
   rw [e1, e2]
   exact ⟨rfl, dleft_same hz rfl (H.sub (.cons_cons _ (.cons_cons _ (.cons_cons _ (.cons_cons _ (List.Sublist.refl _))))))⟩
  ·
   repeat refine c_seq ?_
   refine c_no (by exact congrArg Value.bool (decide_eq_false hc1)) ?_
   refine c_skip ?_
   repeat refine c_seq ?_
   refine c_region ?_
   refine l_op (o_val (r_mv) ?_)
   refine l_op (o_val (r_lens el57 rfl) ?_)
   refine l_op (o_val (r_bin (a := (b.len : Int)) (b := 512) rfl rfl (fun _ => b_neq)) ?_)
   first | refine l_end ?_ | refine l_nil ?_
   by_cases hc2 : (b.len : Int) ≠ 512
   ·
    repeat refine c_seq ?_
    refine c_yes (by exact congrArg Value.bool (decide_eq_true hc2)) ?_
    repeat refine c_seq ?_
    refine c_region ?_
    refine l_op (o_val (r_as) ?_)
    first | refine l_end ?_ | refine l_nil ?_
    refine c_ret ?_
    try dsimp only [Exit.then, Exit.inBlock]
    refine e_ret1 (v := VI 9) Try.results34 rfl ?_
    refine ⟨_, rfl, ?_⟩
    obtain ⟨e1, e2⟩ := dWrite_len (l := b.l) (show mayE z.off z.ls.length i = 0 by omega) (by omega)
    rw [e1, e2]
    exact ⟨rfl, dleft_same hz rfl (H.sub (.cons_cons _ (.cons_cons _ (.cons_cons _ (.cons_cons _ (List.Sublist.refl _))))))⟩
   ·
    repeat refine c_seq ?_
    refine c_no (by exact congrArg Value.bool (decide_eq_false hc2)) ?_
    refine c_skip ?_
    repeat refine c_seq ?_
    refine c_region ?_
    refine l_op (o_val (r_mv) ?_)
    by_cases hc3 : z.armed = 0
    ·
     refine l_op (o_callR Try.func58 rfl rfl rfl (dgo0_ret _ _ z.ls.length z.c1 z.fl.length z.fc (hd (some z.a1)) (hd z.fa) (some z.mb) z.off z.armed z.part z.way z.writes z.lives (of_decide_eq_true (decide_eq_true hc3)) (H.has _ (List.mem_of_getElem? (i := 0) rfl))) ?_)
     rintro _ w ⟨rfl, Hc⟩
     replace H := (H.callA (i := 0) rfl rfl rfl Hc)
     clear Hc
     replace H : Hp _ w _ (Ch.blk db ([.slice (hd (some z.a1)) z.ls.length z.c1, .map (some z.mb), .bool true, VI z.armed, VI z.part, VI z.way, .slice (hd z.fa) z.fl.length z.fc, VI z.writes, VI z.lives]) 86 :: Ch.own (some z.a1) z.ls.length z.c1 ((z.ls).flatMap slE) 57 1 :: Ch.obj z.mb (mobj kI z.M z.mc) :: Ch.own z.fa z.fl.length z.fc ((z.fl).map V8) 5 1 :: z.T) := H
     refine l_op (o_val (r_not rfl) ?_)
     first | refine l_end ?_ | refine l_nil ?_
     repeat refine c_seq ?_
     refine c_yes rfl ?_
     have hm4 := may0 (show mayE z.off z.ls.length i = 0 by omega)
     repeat refine c_seq ?_
     refine c_region ?_
     refine l_op (o_val (r_mv) ?_)
     refine l_op (o_val (r_mv) ?_)
     refine l_op (o_val (r_mv) ?_)
     refine l_op (o_val (r_mv) ?_)
     refine l_op (o_val (r_mv) ?_)
     refine l_op (o_val (r_nilc rfl) ?_)
     refine l_op (o_val (r_fa rfl fo86_4) ?_)
     refine l_op (o_val (r_ld (v := VI z.part) H (i := 0) rfl rfl ct3 rfl) ?_)
     refine l_op (o_val (r_slS (s := b) 0 ((z.part).toNat) b.cap (lv := none) (hv := some (VI z.part)) (mv := none) rfl el57 rfl rfl rfl (fun w => by exact sbh ((z.part).toNat) (by omega) (by (try simp only [Sl.cut]); omega) w)) ?_)
     refine l_op (o_callR Try.func59 rfl rfl rfl (bclone_ret _ (Sl.cut b 0 ((z.part).toNat) b.cap) ((hb.up H hap).cut (l := 0) (h := (z.part).toNat) (m := b.cap) (by omega) (by (try simp only [Sl.cut]); omega) (by omega) (by (try simp only [Sl.cut]); omega)) (by (try dsimp only [Sl.cut]); omega)) ?_)
     rintro _ w ⟨a4, c5, rfl, Hc⟩
     replace H : Hp _ w _ (Ch.own a4 ((z.part).toNat) c5 ((((b.l).drop 0).take ((z.part).toNat)).map V8) 5 1 :: Ch.blk db ([.slice (hd (some z.a1)) z.ls.length z.c1, .map (some z.mb), .bool true, VI z.armed, VI z.part, VI z.way, .slice (hd z.fa) z.fl.length z.fc, VI z.writes, VI z.lives]) 86 :: Ch.own (some z.a1) z.ls.length z.c1 ((z.ls).flatMap slE) 57 1 :: Ch.obj z.mb (mobj kI z.M z.mc) :: Ch.own z.fa z.fl.length z.fc ((z.fl).map V8) 5 1 :: z.T) := (H.call Hc).rot
     clear Hc
     refine l_op (o_val (r_nilc rfl) ?_)
     refine l_op (o_val (r_fa rfl fo86_5) ?_)
     refine l_op (o_st (v := VI i) H (i := 1) rfl rfl rfl cs3 rfl (by simp only [List.length_cons, List.length_nil]; omega) (fun w H => ?_))
     replace H : Hp _ w _ (Ch.own a4 ((z.part).toNat) c5 ((((b.l).drop 0).take ((z.part).toNat)).map V8) 5 1 :: Ch.blk db ([.slice (hd (some z.a1)) z.ls.length z.c1, .map (some z.mb), .bool true, VI z.armed, VI z.part, VI i, .slice (hd z.fa) z.fl.length z.fc, VI z.writes, VI z.lives]) 86 :: Ch.own (some z.a1) z.ls.length z.c1 ((z.ls).flatMap slE) 57 1 :: Ch.obj z.mb (mobj kI z.M z.mc) :: Ch.own z.fa z.fl.length z.fc ((z.fl).map V8) 5 1 :: z.T) := H
     refine l_op (o_val (r_nilc rfl) ?_)
     refine l_op (o_val (r_fa rfl fo86_6) ?_)
     refine l_op (o_st (v := .slice (hd a4) ((z.part).toNat) c5) H (i := 1) rfl rfl rfl cs57 rfl (by simp only [List.length_cons, List.length_nil]; omega) (fun w H => ?_))
     replace H : Hp _ w _ (Ch.own a4 ((z.part).toNat) c5 ((((b.l).drop 0).take ((z.part).toNat)).map V8) 5 1 :: Ch.blk db ([.slice (hd (some z.a1)) z.ls.length z.c1, .map (some z.mb), .bool true, VI z.armed, VI z.part, VI i, .slice (hd a4) ((z.part).toNat) c5, VI z.writes, VI z.lives]) 86 :: Ch.own (some z.a1) z.ls.length z.c1 ((z.ls).flatMap slE) 57 1 :: Ch.obj z.mb (mobj kI z.M z.mc) :: Ch.own z.fa z.fl.length z.fc ((z.fl).map V8) 5 1 :: z.T) := H
     first | refine l_end ?_ | refine l_nil ?_
     repeat refine c_seq ?_
     refine c_region ?_
     refine l_op (o_val (r_as) ?_)
     first | refine l_end ?_ | refine l_nil ?_
     refine c_ret ?_
     try dsimp only [Exit.then, Exit.inBlock]
     refine e_ret1 (v := VI 8) Try.results34 rfl ?_
     refine ⟨_, rfl, ?_⟩
     obtain ⟨e1, e2⟩ := dWrite_dead (l := b.l) (show mayE z.off z.ls.length i = 0 by omega) (by omega) (by omega)
     rw [e1, e2]
     have hfl : (b.l.take z.part.toNat).length = z.part.toNat := by rw [List.length_take]; omega
     have H2 := (Hp.permT (L := [.own a4 ((z.part).toNat) c5 ((((b.l).drop 0).take ((z.part).toNat)).map V8) 5 1, .blk db ([.slice (hd (some z.a1)) z.ls.length z.c1, .map (some z.mb), .bool true, VI z.armed, VI z.part, VI i, .slice (hd a4) ((z.part).toNat) c5, VI z.writes, VI z.lives]) 86, .own (some z.a1) z.ls.length z.c1 ((z.ls).flatMap slE) 57 1, .obj z.mb (mobj kI z.M z.mc), .own z.fa z.fl.length z.fc ((z.fl).map V8) 5 1]) (T := z.T) H ((perm_front (j := 1) rfl).trans (.cons _ ((perm_front (j := 1) rfl).trans (.cons _ ((perm_front (j := 1) rfl).trans (.cons _ (.refl _)))))))).sub (.cons_cons _ (.cons_cons _ (.cons_cons _ (.cons_cons _ (.cons _ ((List.Sublist.refl _)))))))
     rw [show ((b.l).drop 0).take ((z.part).toNat) = b.l.take z.part.toNat from by simp] at H2
     obtain ⟨q, hq⟩ : ∃ q, b.l.take z.part.toNat = q := ⟨_, rfl⟩
     rw [hq] at hfl H2 ⊢
     rw [← hfl] at H2
     have hm4 := may0 (show mayE z.off z.ls.length i = 0 by omega)
     exact ⟨rfl, ({ z with off := true, way := i, fa := a4, fc := c5, fl := q } : DW), rfl, ⟨hz.n, hz.hl, hz.hF, hz.hM, hz.hw, hz.armed, hz.part, (by show -1 ≤ i ∧ i < (z.ls.length : Int); omega), (by show q.length ≤ 512; omega)⟩, fun _ h => h, H2⟩
    ·
     refine l_op (o_callR Try.func58 rfl rfl rfl (dgo1_ret _ _ z.ls.length z.c1 z.fl.length z.fc (hd (some z.a1)) (hd z.fa) (some z.mb) z.off z.armed z.part z.way z.writes z.lives (of_decide_eq_false (decide_eq_false hc3)) (by omega) (H.has _ (List.mem_of_getElem? (i := 0) rfl))) ?_)
     rintro _ w ⟨rfl, Hc⟩
     replace H := (H.callA (i := 0) rfl rfl rfl Hc)
     clear Hc
     replace H : Hp _ w _ (Ch.blk db ([.slice (hd (some z.a1)) z.ls.length z.c1, .map (some z.mb), .bool z.off, VI (dDec z.armed), VI z.part, VI z.way, .slice (hd z.fa) z.fl.length z.fc, VI z.writes, VI z.lives]) 86 :: Ch.own (some z.a1) z.ls.length z.c1 ((z.ls).flatMap slE) 57 1 :: Ch.obj z.mb (mobj kI z.M z.mc) :: Ch.own z.fa z.fl.length z.fc ((z.fl).map V8) 5 1 :: z.T) := H
     refine l_op (o_val (r_not rfl) ?_)
     first | refine l_end ?_ | refine l_nil ?_
     repeat refine c_seq ?_
     refine c_no rfl ?_
     refine c_skip ?_
     have hm4 := may0 (show mayE z.off z.ls.length i = 0 by omega)
     repeat refine c_seq ?_
     refine wp_held (fun w => Hp w0 w (keys (kch db z)) [.blk db ([.slice (hd (some z.a1)) z.ls.length z.c1, .map (some z.mb), .bool z.off, VI (dDec z.armed), VI z.part, VI z.way, .slice (hd z.fa) z.fl.length z.fc, VI z.writes, VI z.lives]) 86, .own (some z.a1) z.ls.length z.c1 ((z.ls).flatMap slE) 57 1, .own z.fa z.fl.length z.fc ((z.fl).map V8) 5 1]) mixed ?_
     replace H := H.drew
     have HS := H.sub (.cons_cons _ (.cons_cons _ (.cons _ (.cons_cons _ (List.nil_sublist _)))))
     refine t_take 0 rfl (by kernel_rfl) (by kernel_rfl) (by kernel_rfl) (fun _ _ _ h => h) (fun w HS => r_mv) HS ?_
     refine t_take 1 rfl (by kernel_rfl) (by kernel_rfl) (by kernel_rfl) (fun _ _ _ h => h) (fun w HS => r_nilc rfl) HS ?_
     refine t_take 2 rfl (by kernel_rfl) (by kernel_rfl) (by kernel_rfl) (fun _ _ _ h => h) (fun w HS => r_fa rfl fo86_1) HS ?_
     refine t_take 3 rfl (by kernel_rfl) (by kernel_rfl) (by kernel_rfl) (fun _ _ _ h => h) (fun w HS => r_ld (v := .map (some z.mb)) HS (i := 0) rfl rfl ct84 rfl) HS ?_
     refine t_take 4 rfl (by kernel_rfl) (by kernel_rfl) (by kernel_rfl) (fun _ _ _ h => h) (fun w HS => r_mv) HS ?_
     refine t_take 5 rfl (by kernel_rfl) (by kernel_rfl) (by kernel_rfl) (fun _ _ _ h => h) (fun w HS => r_mv) HS ?_
     refine t_step 6 rfl (by kernel_rfl) (o_callR Try.func55 rfl rfl rfl (whole_ret _ b (hb.up H hap)) ?_)
     rintro _ w ⟨sb6, rfl, Hc⟩
     replace H : Hp _ w _ (Ch.own (some sb6) 512 512 ((wh b.l).map V8) 5 1 :: Ch.blk db ([.slice (hd (some z.a1)) z.ls.length z.c1, .map (some z.mb), .bool z.off, VI (dDec z.armed), VI z.part, VI z.way, .slice (hd z.fa) z.fl.length z.fc, VI z.writes, VI z.lives]) 86 :: Ch.own (some z.a1) z.ls.length z.c1 ((z.ls).flatMap slE) 57 1 :: Ch.obj z.mb (mobj kI z.M z.mc) :: Ch.own z.fa z.fl.length z.fc ((z.fl).map V8) 5 1 :: z.T) := (H.call Hc).rot
     clear Hc
     refine ⟨H.sub (.cons _ (.cons_cons _ (.cons_cons _ (.cons _ (.cons_cons _ (List.nil_sublist _)))))), ?_⟩
     replace HS := H.sub (.cons _ (.cons_cons _ (.cons_cons _ (.cons _ (.cons_cons _ (List.nil_sublist _))))))
     refine t_step 7 rfl (by kernel_rfl) (o_mput (kv := kI) (k := i) (v := Sl.v (⟨hd (some sb6), 512, 512, wh b.l⟩)) H (i := 3) rfl Try.underlying84 (keyI (by kernel_rfl)) rfl rfl rfl (fun w H => ?_))
     replace H : Hp _ w _ (Ch.own (some sb6) 512 512 ((wh b.l).map V8) 5 1 :: Ch.blk db ([.slice (hd (some z.a1)) z.ls.length z.c1, .map (some z.mb), .bool z.off, VI (dDec z.armed), VI z.part, VI z.way, .slice (hd z.fa) z.fl.length z.fc, VI z.writes, VI z.lives]) 86 :: Ch.own (some z.a1) z.ls.length z.c1 ((z.ls).flatMap slE) 57 1 :: Ch.obj z.mb (mobj kI (mput i (Sl.v (⟨hd (some sb6), 512, 512, wh b.l⟩)) z.mc z.M) (mclk z.M i z.mc)) :: Ch.own z.fa z.fl.length z.fc ((z.fl).map V8) 5 1 :: z.T) := H
     refine ⟨H.sub (.cons _ (.cons_cons _ (.cons_cons _ (.cons _ (.cons_cons _ (List.nil_sublist _)))))), ?_⟩
     replace HS := H.sub (.cons _ (.cons_cons _ (.cons_cons _ (.cons _ (.cons_cons _ (List.nil_sublist _))))))
     refine t_done (by kernel_rfl) ?_
     clear HS
     repeat refine c_seq ?_
     refine c_region ?_
     refine l_op (o_val (r_mv) ?_)
     refine l_op (o_val (r_nilc rfl) ?_)
     refine l_op (o_val (r_fa rfl fo86_7) ?_)
     refine l_op (o_val (r_ld (v := VI z.writes) H (i := 1) rfl rfl ct3 rfl) ?_)
     refine l_op (o_val (r_bin (a := z.writes) (b := 1) rfl rfl (fun _ => b_add (by omega) (by omega))) ?_)
     refine l_op (o_val (r_nilc rfl) ?_)
     refine l_op (o_val (r_fa rfl fo86_7) ?_)
     refine l_op (o_st (v := VI (z.writes + 1)) H (i := 1) rfl rfl rfl cs3 rfl (by simp only [List.length_cons, List.length_nil]; omega) (fun w H => ?_))
     replace H : Hp _ w _ (Ch.own (some sb6) 512 512 ((wh b.l).map V8) 5 1 :: Ch.blk db ([.slice (hd (some z.a1)) z.ls.length z.c1, .map (some z.mb), .bool z.off, VI (dDec z.armed), VI z.part, VI z.way, .slice (hd z.fa) z.fl.length z.fc, VI (z.writes + 1), VI z.lives]) 86 :: Ch.own (some z.a1) z.ls.length z.c1 ((z.ls).flatMap slE) 57 1 :: Ch.obj z.mb (mobj kI (mput i (Sl.v (⟨hd (some sb6), 512, 512, wh b.l⟩)) z.mc z.M) (mclk z.M i z.mc)) :: Ch.own z.fa z.fl.length z.fc ((z.fl).map V8) 5 1 :: z.T) := H
     first | refine l_end ?_ | refine l_nil ?_
     repeat refine c_seq ?_
     refine c_region ?_
     refine l_op (o_val (r_as) ?_)
     first | refine l_end ?_ | refine l_nil ?_
     refine c_ret ?_
     try dsimp only [Exit.then, Exit.inBlock]
     refine e_ret1 (v := VI 0) Try.results34 rfl ?_
     refine ⟨_, rfl, ?_⟩
     obtain ⟨e1, e2⟩ := dWrite_goes (l := b.l) (show mayE z.off z.ls.length i = 0 by omega) (by omega) (by omega)
     rw [e1, e2]
     have hm4 := may0 (show mayE z.off z.ls.length i = 0 by omega)
     have hnew : Sec (.own (some sb6) 512 512 ((wh b.l).map V8) 5 1 :: z.T) (⟨hd (some sb6), 512, 512, wh b.l⟩ : Sl) := .inr ⟨_, rfl, wh_len _, List.mem_cons_self ..⟩
     have hmono : ∀ c ∈ z.T, c ∈ (.own (some sb6) 512 512 ((wh b.l).map V8) 5 1 :: z.T) := fun c hc => List.mem_cons_of_mem _ hc
     have habs : (fun j => ((fput z.F i (⟨hd (some sb6), 512, 512, wh b.l⟩ : Sl)) j).map (fun s => wh s.l)) = fput z.abs.wait i b.l := by
       funext j
       simp only [fput]
       by_cases hj : j = i
       · rw [if_pos hj, if_pos hj]
         show some (wh (wh b.l)) = some b.l
         rw [wh_wh, wh_of (by omega)]
       · rw [if_neg hj, if_neg hj]; rfl
     refine ⟨rfl, ({ z with armed := dDec z.armed, M := mput i (Sl.v (⟨hd (some sb6), 512, 512, wh b.l⟩)) z.mc z.M, mc := mclk z.M i z.mc, F := fput z.F i (⟨hd (some sb6), 512, 512, wh b.l⟩ : Sl), writes := z.writes + 1, T := .own (some sb6) 512 512 ((wh b.l).map V8) 5 1 :: z.T } : DW), ?_, ⟨hz.n, fun s hs => sec_mono hmono (hz.hl s hs), (hz.hF.put i (⟨hd (some sb6), 512, 512, wh b.l⟩) z.mc), (hz.hM.put i (Sl.v (⟨hd (some sb6), 512, 512, wh b.l⟩))), fun j s hj => ?_, dDec_bd hz.armed, hz.part, hz.way, hz.fl⟩, hmono, (Hp.permT (L := [.own (some sb6) 512 512 ((wh b.l).map V8) 5 1, .blk db ([.slice (hd (some z.a1)) z.ls.length z.c1, .map (some z.mb), .bool z.off, VI (dDec z.armed), VI z.part, VI z.way, .slice (hd z.fa) z.fl.length z.fc, VI (z.writes + 1), VI z.lives]) 86, .own (some z.a1) z.ls.length z.c1 ((z.ls).flatMap slE) 57 1, .obj z.mb (mobj kI (mput i (Sl.v (⟨hd (some sb6), 512, 512, wh b.l⟩)) z.mc z.M) (mclk z.M i z.mc)), .own z.fa z.fl.length z.fc ((z.fl).map V8) 5 1]) (T := z.T) H ((perm_front (j := 1) rfl).trans (.cons _ ((perm_front (j := 1) rfl).trans (.cons _ ((perm_front (j := 1) rfl).trans (.cons _ ((perm_front (j := 1) rfl).trans (.cons _ (.refl _)))))))))).sub (.cons_cons _ (.cons_cons _ (.cons_cons _ (.cons_cons _ (.cons_cons _ ((List.Sublist.refl _)))))))⟩
     · show (⟨_, fun j => ((fput z.F i (⟨hd (some sb6), 512, 512, wh b.l⟩ : Sl)) j).map (fun s => wh s.l), _, _, _, _, _, _, _⟩ : DD) = _
       rw [habs]; rfl
     · simp only [fput] at hj
       by_cases hji : j = i
       · rw [if_pos hji] at hj
         cases hj
         exact ⟨by omega, by show j < (z.ls.length : Int); omega, hnew⟩
       · rw [if_neg hji] at hj
         obtain ⟨g1, g2, g3⟩ := hz.hw j s hj
         exact ⟨g1, g2, sec_mono hmono g3⟩
end Go.Proofs.Ytncmcgcilijfkaa
namespace Go.Proofs.Ytncmcgcilijfkaa
open Go
set_option maxRecDepth 100000
def RisingI (l : List Int) : Prop := l.Pairwise fun x y => x < y
theorem risingI_eq : ∀ {l m : List Int}, RisingI l → RisingI m → (∀ x, x ∈ l ↔ x ∈ m) → l = m
  | [], [], _, _, _ => rfl
  | [], y :: m, _, _, h => by cases (h y).2 (List.mem_cons_self ..)
  | x :: l, [], _, _, h => by cases (h x).1 (List.mem_cons_self ..)
  | x :: l, y :: m, h1, h2, h => by
    obtain ⟨a1, a2⟩ := List.pairwise_cons.1 h1
    obtain ⟨b1, b2⟩ := List.pairwise_cons.1 h2
    have e : x = y := by
      rcases List.mem_cons.1 ((h x).1 (List.mem_cons_self ..)) with e | hx
      · exact e
      · rcases List.mem_cons.1 ((h y).2 (List.mem_cons_self ..)) with e | hy
        · exact e.symm
        · have p := a1 y hy
          have q := b1 x hx
          omega
    subst e
    rw [risingI_eq (l := l) (m := m) a2 b2 fun z => ⟨fun hz => by
      rcases List.mem_cons.1 ((h z).1 (List.mem_cons_of_mem _ hz)) with e | hm
      · have := a1 z hz; omega
      · exact hm, fun hz => by
      rcases List.mem_cons.1 ((h z).2 (List.mem_cons_of_mem _ hz)) with e | hm
      · have := b1 z hz; omega
      · exact hm⟩]
theorem sortedI_rising {l : List Int} (hn : l.Nodup) : RisingI (sortedI l) ∧ ∀ x, x ∈ sortedI l ↔ x ∈ l := by
  have hp := List.mergeSort_perm l (fun x y => decide (x ≤ y))
  have hs := List.pairwise_mergeSort (le := fun x y : Int => decide (x ≤ y)) (fun a b c h1 h2 => by
    simp only [decide_eq_true_eq] at h1 h2 ⊢; omega) (fun a b => by simp; omega) l
  refine ⟨?_, fun x => hp.mem_iff⟩
  have hn2 : (sortedI l).Nodup := hp.nodup_iff.2 hn
  have hs2 : (sortedI l).Pairwise fun x y => decide (x ≤ y) = true := hs
  refine (hs2.and hn2).imp fun {x y} ⟨h1, h2⟩ => ?_
  simp only [decide_eq_true_eq] at h1
  omega
def dWaiting (D : DD) : List Int := ((List.range D.last.length).filter (fun i : Nat => (D.wait (i : Int)).isSome)).map (fun i : Nat => (i : Int))
theorem dWaiting_rising (D : DD) : RisingI (dWaiting D) := by
  have h1 : ((List.range D.last.length).filter (fun i : Nat => (D.wait (i : Int)).isSome)).Pairwise (fun a b => a < b) := List.Pairwise.filter _ List.pairwise_lt_range
  exact List.pairwise_map.2 (h1.imp fun h => by omega)
theorem dWaiting_mem (D : DD) (x : Int) : x ∈ dWaiting D ↔ 0 ≤ x ∧ x < (D.last.length : Int) ∧ (D.wait x).isSome = true := by
  simp only [dWaiting, List.mem_map, List.mem_filter, List.mem_range]
  constructor
  · rintro ⟨i, ⟨h1, h2⟩, rfl⟩; exact ⟨by omega, by omega, h2⟩
  · rintro ⟨h1, h2, h3⟩
    exact ⟨x.toNat, ⟨by omega, by rw [show ((x.toNat : Nat) : Int) = x by omega]; exact h3⟩, by omega⟩
theorem wf_i64 {n : Int} (h1 : -9223372036854775808 ≤ n) (h2 : n ≤ 9223372036854775807) : (Lit.int .i64 n).wf = true := by
  have a : IntKind.i64.min = -9223372036854775808 := rfl
  have b : IntKind.i64.max = 9223372036854775807 := rfl
  simp only [Lit.wf, a, b]
  simp; omega
theorem wait_key {z : DW} (hz : z.ok) {x : Int × Value × Nat} (hx : x ∈ z.M) : ∃ s, z.F x.1 = some s := by
  have h := (mget_of hz.hM.keys hx).1
  have h2 := hz.hF x.1
  rw [h] at h2
  cases hf : z.F x.1 with
  | none => rw [hf] at h2; cases h2
  | some s => exact ⟨s, rfl⟩
theorem wait_wf {z : DW} (hz : z.ok) : ∀ x ∈ z.M, (Lit.int .i64 x.1).wf = true := fun x hx => by
  obtain ⟨s, hs⟩ := wait_key hz hx
  have h1 := hz.hw _ _ hs
  have h2 := hz.n
  exact wf_i64 (by omega) (by omega)
theorem wait_len {z : DW} (hz : z.ok) : z.M.length ≤ 4096 := by
  have h2 := hz.n
  have := nd_le (l := z.M.map (·.1)) (m := (List.range z.ls.length).map (fun i : Nat => (i : Int))) hz.hM.keys (fun k hk => by
    obtain ⟨x, hx, rfl⟩ := List.mem_map.1 hk
    obtain ⟨s, hs⟩ := wait_key hz hx
    have h1 := hz.hw _ _ hs
    exact List.mem_map.2 ⟨x.1.toNat, List.mem_range.2 (by omega), by omega⟩)
  rw [List.length_map, List.length_map, List.length_range] at this
  omega
theorem wait_sorted {z : DW} (hz : z.ok) {zs : List Int} (hp : zs.Perm (z.M.map (·.1))) : sortedI zs = dWaiting z.abs := by
  obtain ⟨a1, a2⟩ := sortedI_rising (hp.nodup_iff.2 hz.hM.keys)
  refine risingI_eq a1 (dWaiting_rising _) fun x => ?_
  rw [a2 x, dWaiting_mem, hp.mem_iff, z.alen]
  constructor
  · intro hx
    obtain ⟨y, hy, rfl⟩ := List.mem_map.1 hx
    obtain ⟨s, hs⟩ := wait_key hz hy
    have h1 := hz.hw _ _ hs
    exact ⟨h1.1, h1.2.1, by show ((z.F y.1).map _).isSome = true; rw [hs]; rfl⟩
  · rintro ⟨_, _, h3⟩
    have h4 : (z.F x).isSome = true := by
      have : ((z.F x).map fun s => wh s.l).isSome = true := h3
      simpa using this
    rw [← hz.hF.isSome] at h4
    obtain ⟨v, hv⟩ := Option.isSome_iff_exists.1 h4
    obtain ⟨y, hy, e, _⟩ := mget_mem hv
    exact List.mem_map.2 ⟨y, hy, e⟩
/-- numbers as elements. -/
def intE (i : Int) : List Value := [VI i]
theorem flatI (l : List Int) : l.flatMap intE = l.map VI := flat_one _ l
end Go.Proofs.Ytncmcgcilijfkaa
namespace Go.Proofs.Ytncmcgcilijfkaa
open Go
set_option maxRecDepth 100000
theorem msortedG_ret {w0 w : World} {S : List Nat} {L : List Ch} {M : List (Int × Value × Nat)} {c i j b bb : Nat} (H : Hp w0 w S L) (hi : L[i]? = some (.obj b (mobj kI M c))) (hj : L[j]? = some (.blk bb [.map (some b)] 84)) (hM : MOk M c) (hk : ∀ x ∈ M, (Lit.int .i64 x.1).wf = true) (hl : M.length ≤ 1048576) :
    Ret Try.prog 56 [.func (.func 75) #[] #[.pointer (some ⟨bb, 0, none⟩)]] w fun v w' => ∃ zs a n c', zs.Perm (M.map (·.1)) ∧ n = (sortedI zs).length ∧ v = .slice (hd a) n c' ∧ Hp w0 w' S (L ++ [.own a n c' ((sortedI zs).flatMap intE) 3 1]) := by
  refine (msorted_ret H hi hj hM hk hl).mono fun v w' ⟨zs, a, n, c', h1, h2, h3, h4⟩ => ⟨zs, a, n, c', h1, h2, h3, ?_⟩
  rw [flatI]; exact h4
def dArm (D : DD) (n part : Int) : DD := { D with armed := if n < -1 then -1 else n, part := if 512 < (if part < 0 then 0 else part) then 512 else if part < 0 then 0 else part }
theorem dwrites_ret (w0 : World) (db n c fn fc : Nat) (a fa : Option Addr) (m : Option Nat) (off : Bool) (armed part way writes lives : Int) (hdb : (Ch.blk db [.slice a n c, .map m, .bool off, VI armed, VI part, VI way, .slice fa fn fc, VI writes, VI lives] 86).ok w0) :
    Ret Try.prog 46 [.pointer (some ⟨db, 0, none⟩)] w0 fun v w' => v = VI writes ∧ Hp w0 w' [db] [.blk db [.slice a n c, .map m, .bool off, VI armed, VI part, VI way, .slice fa fn fc, VI writes, VI lives] 86] := by
  refine ret_mk Try.func46 rfl Try.ntmps46 (by simp) ?_
  have H := Hp.start w0 (.blk db ([.slice a n c, .map m, .bool off, VI armed, VI part, VI way, .slice fa fn fc, VI writes, VI lives]) 86) db hdb rfl
  repeat refine c_seq ?_
  refine c_region ?_
  refine l_op (o_val (r_as) ?_)
  first | refine l_end ?_ | refine l_nil ?_
  repeat refine c_seq ?_
  refine c_region ?_
  refine l_op (o_val (r_mv) ?_)
  refine l_op (o_val (r_nilp Try.underlying55 (by kernel_rfl) rfl rfl) ?_)
  first | refine l_end ?_ | refine l_nil ?_
  repeat refine c_seq ?_
  refine c_no rfl ?_
  refine c_skip ?_
  repeat refine c_seq ?_
  refine c_region ?_
  refine l_op (o_val (r_mv) ?_)
  refine l_op (o_val (r_nilc rfl) ?_)
  refine l_op (o_val (r_fa rfl fo86_7) ?_)
  refine l_op (o_val (r_ld (v := VI writes) H (i := 0) rfl rfl ct3 rfl) ?_)
  refine l_op (o_val (r_as) ?_)
  first | refine l_end ?_ | refine l_nil ?_
  refine c_ret ?_
  try dsimp only [Exit.then, Exit.inBlock]
  refine e_ret1 (v := VI writes) Try.results46 rfl ?_
  refine ⟨_, rfl, ?_⟩
  exact ⟨rfl, H.sub (.cons_cons _ (List.nil_sublist _))⟩
theorem dlives_ret (w0 : World) (db n c fn fc : Nat) (a fa : Option Addr) (m : Option Nat) (off : Bool) (armed part way writes lives : Int) (hdb : (Ch.blk db [.slice a n c, .map m, .bool off, VI armed, VI part, VI way, .slice fa fn fc, VI writes, VI lives] 86).ok w0) :
    Ret Try.prog 43 [.pointer (some ⟨db, 0, none⟩)] w0 fun v w' => v = VI lives ∧ Hp w0 w' [db] [.blk db [.slice a n c, .map m, .bool off, VI armed, VI part, VI way, .slice fa fn fc, VI writes, VI lives] 86] := by
  refine ret_mk Try.func43 rfl Try.ntmps43 (by simp) ?_
  have H := Hp.start w0 (.blk db ([.slice a n c, .map m, .bool off, VI armed, VI part, VI way, .slice fa fn fc, VI writes, VI lives]) 86) db hdb rfl
  repeat refine c_seq ?_
  refine c_region ?_
  refine l_op (o_val (r_as) ?_)
  first | refine l_end ?_ | refine l_nil ?_
  repeat refine c_seq ?_
  refine c_region ?_
  refine l_op (o_val (r_mv) ?_)
  refine l_op (o_val (r_nilp Try.underlying55 (by kernel_rfl) rfl rfl) ?_)
  first | refine l_end ?_ | refine l_nil ?_
  repeat refine c_seq ?_
  refine c_no rfl ?_
  refine c_skip ?_
  repeat refine c_seq ?_
  refine c_region ?_
  refine l_op (o_val (r_mv) ?_)
  refine l_op (o_val (r_nilc rfl) ?_)
  refine l_op (o_val (r_fa rfl fo86_8) ?_)
  refine l_op (o_val (r_ld (v := VI lives) H (i := 0) rfl rfl ct3 rfl) ?_)
  refine l_op (o_val (r_as) ?_)
  first | refine l_end ?_ | refine l_nil ?_
  refine c_ret ?_
  try dsimp only [Exit.then, Exit.inBlock]
  refine e_ret1 (v := VI lives) Try.results43 rfl ?_
  refine ⟨_, rfl, ?_⟩
  exact ⟨rfl, H.sub (.cons_cons _ (List.nil_sublist _))⟩
theorem ddead_ret (w0 : World) (db n c fn fc : Nat) (a fa : Option Addr) (m : Option Nat) (off : Bool) (armed part way writes lives : Int) (hn : 0 < n) (hdb : (Ch.blk db [.slice a n c, .map m, .bool off, VI armed, VI part, VI way, .slice fa fn fc, VI writes, VI lives] 86).ok w0) :
    Ret Try.prog 32 [.pointer (some ⟨db, 0, none⟩)] w0 fun v w' => v = .bool off ∧ Hp w0 w' [db] [.blk db [.slice a n c, .map m, .bool off, VI armed, VI part, VI way, .slice fa fn fc, VI writes, VI lives] 86] := by
  refine ret_mk Try.func32 rfl Try.ntmps32 (by simp) ?_
  have H := Hp.start w0 (.blk db ([.slice a n c, .map m, .bool off, VI armed, VI part, VI way, .slice fa fn fc, VI writes, VI lives]) 86) db hdb rfl
  repeat refine c_seq ?_
  refine c_region ?_
  refine l_op (o_val (r_as) ?_)
  first | refine l_end ?_ | refine l_nil ?_
  repeat refine c_seq ?_
  refine c_region ?_
  refine l_op (o_val (r_mv) ?_)
  refine l_op (o_callR Try.func30 rfl rfl rfl (dlen_ret _ _ n c fn fc a fa m off armed part way writes lives (H.has _ (List.mem_of_getElem? (i := 0) rfl))) ?_)
  rintro _ w ⟨rfl, Hc⟩
  replace H := (H.callA (i := 0) rfl rfl rfl Hc)
  clear Hc
  replace H : Hp _ w _ ([.blk db ([.slice a n c, .map m, .bool off, VI armed, VI part, VI way, .slice fa fn fc, VI writes, VI lives]) 86]) := H
  refine l_op (o_val (r_bin (a := (n : Int)) (b := 0) rfl rfl (fun _ => b_eqlB false (decide_eq_false (by omega)))) ?_)
  refine l_op (o_val (r_mv) ?_)
  refine l_yes rfl rfl rfl (o_val (r_mv) ?_)
  refine l_yes rfl rfl rfl (o_val (r_nilc rfl) ?_)
  refine l_yes rfl rfl rfl (o_val (r_fa rfl fo86_2) ?_)
  refine l_yes rfl rfl rfl (o_val (r_ld (v := .bool off) H (i := 0) rfl rfl ct4 rfl) ?_)
  refine l_op (o_val (r_pick rfl) ?_)
  refine l_op (o_val (r_as) ?_)
  first | refine l_end ?_ | refine l_nil ?_
  refine c_ret ?_
  try dsimp only [Exit.then, Exit.inBlock]
  refine e_ret1 (v := .bool off) Try.results32 rfl ?_
  refine ⟨_, rfl, ?_⟩
  exact ⟨rfl, H.sub (.cons_cons _ (List.nil_sublist _))⟩
theorem dnew_no (w0 : World) (n : Int) (h : n < 32 ∨ 4096 < n) :
    Ret Try.prog 28 [VI n] w0 fun v w' => v = .pointer none ∧ Hp w0 w' [] [] := by
  refine ret_mk Try.func28 rfl Try.ntmps28 (by simp) ?_
  have H := Hp.refl w0 []
  repeat refine c_seq ?_
  refine c_region ?_
  refine l_op (o_val (r_as) ?_)
  first | refine l_end ?_ | refine l_nil ?_
  repeat refine c_seq ?_
  refine c_region ?_
  refine l_op (o_val (r_mv) ?_)
  refine l_op (o_val (r_bin (a := n) (b := 32) rfl rfl (fun _ => b_lss)) ?_)
  refine l_op (o_val (r_mv) ?_)
  by_cases hc1 : n < 32
  ·
   refine l_no rfl rfl (by exact congrArg Value.bool (decide_eq_true hc1)) rfl ?_
   refine l_no rfl rfl (by exact congrArg Value.bool (decide_eq_true hc1)) rfl ?_
   refine l_op (o_val (r_pick (b := true) (congrArg Value.bool (decide_eq_true hc1))) ?_)
   first | refine l_end ?_ | refine l_nil ?_
   repeat refine c_seq ?_
   refine c_yes rfl ?_
   repeat refine c_seq ?_
   refine c_region ?_
   refine l_op (o_val (r_as) ?_)
   first | refine l_end ?_ | refine l_nil ?_
   refine c_ret ?_
   try dsimp only [Exit.then, Exit.inBlock]
   refine e_ret1 (v := .pointer none) Try.results28 rfl ?_
   refine ⟨_, rfl, ?_⟩
   first | exact ⟨rfl, H⟩ | (exfalso; omega)
  ·
   refine l_yes rfl rfl (by exact congrArg Value.bool (decide_eq_false hc1)) (o_val (r_mv) ?_)
   refine l_yes rfl rfl (by exact congrArg Value.bool (decide_eq_false hc1)) (o_val (r_bin (a := n) (b := 4096) rfl rfl (fun _ => b_gtr)) ?_)
   refine l_op (o_val (r_pick (b := false) (congrArg Value.bool (decide_eq_false hc1))) ?_)
   first | refine l_end ?_ | refine l_nil ?_
   by_cases hc2 : 4096 < n
   ·
    repeat refine c_seq ?_
    refine c_yes (by exact congrArg Value.bool (decide_eq_true hc2)) ?_
    repeat refine c_seq ?_
    refine c_region ?_
    refine l_op (o_val (r_as) ?_)
    first | refine l_end ?_ | refine l_nil ?_
    refine c_ret ?_
    try dsimp only [Exit.then, Exit.inBlock]
    refine e_ret1 (v := .pointer none) Try.results28 rfl ?_
    refine ⟨_, rfl, ?_⟩
    first | exact ⟨rfl, H⟩ | (exfalso; omega)
   ·
    repeat refine c_seq ?_
    refine c_no (by exact congrArg Value.bool (decide_eq_false hc2)) ?_
    refine c_skip ?_
    repeat refine c_seq ?_
    refine c_region ?_
    refine l_op (o_val (r_mv) ?_)
    refine l_op (o_makeS ((n).toNat) H sl83 zc57 rfl rfl (by omega) (by omega) (by omega) (by omega) (fun b3 w H hb3 => ?_))
    replace H : Hp _ w _ ([.own (some b3) ((n).toNat) ((n).toNat) ((List.replicate ((n).toNat) nilS).flatMap slE) 57 1]) := H
    refine l_op (o_mmake kI H (fun b4 w H hb4 => ?_))
    replace H : Hp _ w _ ([_, .obj b4 (mobj kI ([] : List (Int × Value × Nat)) 0)]) := H
    refine l_op (o_val (r_bld' (cells := ([.slice (hd (some b3)) ((n).toNat) ((n).toNat), .map (some b4), .bool false, VI (-1), VI 0, VI (-1), .slice none 0 0, VI 0, VI 0]).toArray) (pv := [(0, .slice (hd (some b3)) ((n).toNat) ((n).toNat)), (1, .map (some b4)), (3, VI (-1)), (5, VI (-1))]) bd86 rfl rfl) ?_)
    refine l_op (o_box (v := .agg ([.slice (hd (some b3)) ((n).toNat) ((n).toNat), .map (some b4), .bool false, VI (-1), VI 0, VI (-1), .slice none 0 0, VI 0, VI 0]).toArray) H rfl (fun b5 w H hb5 => ?_))
    replace H : Hp _ w _ ([_, _, .blk b5 ([.slice (hd (some b3)) ((n).toNat) ((n).toNat), .map (some b4), .bool false, VI (-1), VI 0, VI (-1), .slice none 0 0, VI 0, VI 0]) 86]) := H
    refine l_op (o_val (r_as) ?_)
    first | refine l_end ?_ | refine l_nil ?_
    refine c_ret ?_
    try dsimp only [Exit.then, Exit.inBlock]
    refine e_ret1 (v := .pointer (some ⟨b5, 0, none⟩)) Try.results28 rfl ?_
    refine ⟨_, rfl, ?_⟩
    first | exact ⟨rfl, H⟩ | (exfalso; omega)
theorem dnew_ret (w0 : World) (n : Nat) (hn : 32 ≤ n ∧ n ≤ 4096) :
    Ret Try.prog 28 [VI (n : Int)] w0 fun v w' => ∃ db z, v = .pointer (some ⟨db, 0, none⟩) ∧ z.abs = dNew n ∧ z.ok ∧ z.T = [] ∧ Hp w0 w' [] (kch db z) := by
  refine ret_mk Try.func28 rfl Try.ntmps28 (by simp) ?_
  have H := Hp.refl w0 []
  repeat refine c_seq ?_
  refine c_region ?_
  refine l_op (o_val (r_as) ?_)
  first | refine l_end ?_ | refine l_nil ?_
  repeat refine c_seq ?_
  refine c_region ?_
  refine l_op (o_val (r_mv) ?_)
  refine l_op (o_val (r_bin (a := (n : Int)) (b := 32) rfl rfl (fun _ => b_lss)) ?_)
  refine l_op (o_val (r_mv) ?_)
  by_cases hc1 : (n : Int) < 32
  ·
   refine l_no rfl rfl (by exact congrArg Value.bool (decide_eq_true hc1)) rfl ?_
   refine l_no rfl rfl (by exact congrArg Value.bool (decide_eq_true hc1)) rfl ?_
   refine l_op (o_val (r_pick (b := true) (congrArg Value.bool (decide_eq_true hc1))) ?_)
   first | refine l_end ?_ | refine l_nil ?_
   repeat refine c_seq ?_
   refine c_yes rfl ?_
   repeat refine c_seq ?_
   refine c_region ?_
   refine l_op (o_val (r_as) ?_)
   first | refine l_end ?_ | refine l_nil ?_
   refine c_ret ?_
   try dsimp only [Exit.then, Exit.inBlock]
   refine e_ret1 (v := .pointer none) Try.results28 rfl ?_
   refine ⟨_, rfl, ?_⟩
   exfalso; omega
  ·
   refine l_yes rfl rfl (by exact congrArg Value.bool (decide_eq_false hc1)) (o_val (r_mv) ?_)
   refine l_yes rfl rfl (by exact congrArg Value.bool (decide_eq_false hc1)) (o_val (r_bin (a := (n : Int)) (b := 4096) rfl rfl (fun _ => b_gtr)) ?_)
   refine l_op (o_val (r_pick (b := false) (congrArg Value.bool (decide_eq_false hc1))) ?_)
   first | refine l_end ?_ | refine l_nil ?_
   by_cases hc2 : 4096 < (n : Int)
   ·
    repeat refine c_seq ?_
    refine c_yes (by exact congrArg Value.bool (decide_eq_true hc2)) ?_
    repeat refine c_seq ?_
    refine c_region ?_
    refine l_op (o_val (r_as) ?_)
    first | refine l_end ?_ | refine l_nil ?_
    refine c_ret ?_
    try dsimp only [Exit.then, Exit.inBlock]
    refine e_ret1 (v := .pointer none) Try.results28 rfl ?_
    refine ⟨_, rfl, ?_⟩
    exfalso; omega
   ·
    repeat refine c_seq ?_
    refine c_no (by exact congrArg Value.bool (decide_eq_false hc2)) ?_
    refine c_skip ?_
    repeat refine c_seq ?_
    refine c_region ?_
    refine l_op (o_val (r_mv) ?_)
    refine l_op (o_makeS n H sl83 zc57 rfl rfl (by omega) (by omega) (by omega) (by omega) (fun b3 w H hb3 => ?_))
    replace H : Hp _ w _ ([.own (some b3) n n ((List.replicate n nilS).flatMap slE) 57 1]) := H
    refine l_op (o_mmake kI H (fun b4 w H hb4 => ?_))
    replace H : Hp _ w _ ([_, .obj b4 (mobj kI ([] : List (Int × Value × Nat)) 0)]) := H
    refine l_op (o_val (r_bld' (cells := ([.slice (hd (some b3)) n n, .map (some b4), .bool false, VI (-1), VI 0, VI (-1), .slice none 0 0, VI 0, VI 0]).toArray) (pv := [(0, .slice (hd (some b3)) n n), (1, .map (some b4)), (3, VI (-1)), (5, VI (-1))]) bd86 rfl rfl) ?_)
    refine l_op (o_box (v := .agg ([.slice (hd (some b3)) n n, .map (some b4), .bool false, VI (-1), VI 0, VI (-1), .slice none 0 0, VI 0, VI 0]).toArray) H rfl (fun b5 w H hb5 => ?_))
    replace H : Hp _ w _ ([_, _, .blk b5 ([.slice (hd (some b3)) n n, .map (some b4), .bool false, VI (-1), VI 0, VI (-1), .slice none 0 0, VI 0, VI 0]) 86]) := H
    refine l_op (o_val (r_as) ?_)
    first | refine l_end ?_ | refine l_nil ?_
    refine c_ret ?_
    try dsimp only [Exit.then, Exit.inBlock]
    refine e_ret1 (v := .pointer (some ⟨b5, 0, none⟩)) Try.results28 rfl ?_
    refine ⟨_, rfl, ?_⟩
    replace H := H.nilEnd 5 1
    have H2 := (H.permL ((perm_front (j := 2) rfl).trans (.cons _ (.refl _)))).sub (.cons_cons _ (.cons_cons _ (.cons_cons _ (.cons_cons _ (List.nil_sublist _)))))
    refine ⟨b5, ({ a1 := b3, c1 := n, ls := List.replicate n nilS, mb := b4, M := [], mc := 0, F := fun _ => none, off := false, armed := -1, part := 0, way := -1, fa := none, fc := 0, fl := [], writes := 0, lives := 0, T := [] } : DW), rfl, ?_, ⟨by simp; omega, fun s hs => .inl (List.eq_of_mem_replicate hs), MIs.nil, MOk.nil, fun i s h => (by cases h), (by simp), (by simp), (by simp; omega), (by simp)⟩, rfl, ?_⟩
    · simp [DW.abs, dNew, wh_nil]
    · rw [kch]
      simp only [List.length_replicate]
      exact H2
theorem dnewI_ret (w0 : World) (n : Int) (hn : 32 ≤ n ∧ n ≤ 4096) : Ret Try.prog 28 [VI n] w0 fun v w' => ∃ db z, v = .pointer (some ⟨db, 0, none⟩) ∧ z.abs = dNew n.toNat ∧ z.ok ∧ z.T = [] ∧ Hp w0 w' [] (kch db z) := by
  obtain ⟨m, rfl⟩ := Int.eq_ofNat_of_zero_le (show 0 ≤ n by omega)
  exact dnew_ret w0 m (by omega)
theorem darm_ret (w0 : World) (db : Nat) (z : DW) (hO : Own w0 (kch db z)) (hz : z.ok) (n part : Int) (hn : n ≤ 9223372036854775807) :
    Ret Try.prog 36 [.pointer (some ⟨db, 0, none⟩), VI n, VI part] w0 fun v w' => v = .tuple #[] ∧ DLeft w0 w' db z (dArm z.abs n part) := by
  refine ret_mk Try.func36 rfl Try.ntmps36 (by simp) ?_
  have H : Hp w0 w0 (keys (kch db z)) (Ch.blk db ([.slice (hd (some z.a1)) z.ls.length z.c1, .map (some z.mb), .bool z.off, VI z.armed, VI z.part, VI z.way, .slice (hd z.fa) z.fl.length z.fc, VI z.writes, VI z.lives]) 86 :: Ch.own (some z.a1) z.ls.length z.c1 ((z.ls).flatMap slE) 57 1 :: Ch.obj z.mb (mobj kI z.M z.mc) :: Ch.own z.fa z.fl.length z.fc ((z.fl).map V8) 5 1 :: z.T) := hO.start
  have hzn := hz.n
  have hza := hz.armed
  have hzp := hz.part
  have hzw := hz.way
  have hzf := hz.fl
  have hzl := z.alen
  have hmL : maxLen = 9223372036854775807 := rfl
  repeat refine c_seq ?_
  refine c_region ?_
  refine l_op (o_val (r_mv) ?_)
  refine l_op (o_callR Try.func30 rfl rfl rfl (dlen_ret _ _ z.ls.length z.c1 z.fl.length z.fc (hd (some z.a1)) (hd z.fa) (some z.mb) z.off z.armed z.part z.way z.writes z.lives (H.has _ (List.mem_of_getElem? (i := 0) rfl))) ?_)
  rintro _ w ⟨rfl, Hc⟩
  replace H := (H.callA (i := 0) rfl rfl rfl Hc)
  clear Hc
  replace H : Hp _ w _ (Ch.blk db ([.slice (hd (some z.a1)) z.ls.length z.c1, .map (some z.mb), .bool z.off, VI z.armed, VI z.part, VI z.way, .slice (hd z.fa) z.fl.length z.fc, VI z.writes, VI z.lives]) 86 :: Ch.own (some z.a1) z.ls.length z.c1 ((z.ls).flatMap slE) 57 1 :: Ch.obj z.mb (mobj kI z.M z.mc) :: Ch.own z.fa z.fl.length z.fc ((z.fl).map V8) 5 1 :: z.T) := H
  refine l_op (o_val (r_bin (a := (z.ls.length : Int)) (b := 0) rfl rfl (fun _ => b_eql)) ?_)
  first | refine l_end ?_ | refine l_nil ?_
  by_cases hc1 : (z.ls.length : Int) = 0
  ·
   repeat refine c_seq ?_
   refine c_yes (by exact congrArg Value.bool (decide_eq_true hc1)) ?_
   refine c_ret ?_
   try dsimp only [Exit.then, Exit.inBlock]
   refine e_ret0 Try.results36 ?_
   refine ⟨_, rfl, ?_⟩
   have e1 : z.armed = (if n < -1 then -1 else n) := by (repeat' split) <;> omega
   have e2 : z.part = (if 512 < (if part < 0 then 0 else part) then 512 else if part < 0 then 0 else part) := by (repeat' split) <;> omega
   rw [e1, e2] at H
   exact ⟨rfl, { z with armed := if n < -1 then -1 else n, part := if 512 < (if part < 0 then 0 else part) then 512 else if part < 0 then 0 else part }, rfl, ⟨hz.n, hz.hl, hz.hF, hz.hM, hz.hw, (by dsimp only; split <;> omega), (by dsimp only; (repeat' split) <;> omega), hz.way, hz.fl⟩, fun _ h => h, H.sub (.cons_cons _ (.cons_cons _ (.cons_cons _ (.cons_cons _ (List.Sublist.refl _)))))⟩
  ·
   repeat refine c_seq ?_
   refine c_no (by exact congrArg Value.bool (decide_eq_false hc1)) ?_
   refine c_skip ?_
   repeat refine c_seq ?_
   refine c_region ?_
   refine l_op (o_val (r_mv) ?_)
   refine l_op (o_val (r_mv) ?_)
   refine l_op (o_val (r_mv) ?_)
   refine l_op (o_val (r_max rfl rfl) ?_)
   refine l_op (o_val (r_mv) ?_)
   refine l_op (o_val (r_max rfl rfl) ?_)
   refine l_op (o_val (r_min rfl rfl) ?_)
   refine l_op (o_val (r_nilc rfl) ?_)
   refine l_op (o_val (r_fa rfl fo86_3) ?_)
   refine l_op (o_st (v := VI (if n < (-1) then (-1) else n)) H (i := 0) rfl rfl rfl cs3 rfl (by simp only [List.length_cons, List.length_nil]; omega) (fun w H => ?_))
   replace H : Hp _ w _ (Ch.blk db ([.slice (hd (some z.a1)) z.ls.length z.c1, .map (some z.mb), .bool z.off, VI (if n < (-1) then (-1) else n), VI z.part, VI z.way, .slice (hd z.fa) z.fl.length z.fc, VI z.writes, VI z.lives]) 86 :: Ch.own (some z.a1) z.ls.length z.c1 ((z.ls).flatMap slE) 57 1 :: Ch.obj z.mb (mobj kI z.M z.mc) :: Ch.own z.fa z.fl.length z.fc ((z.fl).map V8) 5 1 :: z.T) := H
   refine l_op (o_val (r_nilc rfl) ?_)
   refine l_op (o_val (r_fa rfl fo86_4) ?_)
   refine l_op (o_st (v := VI (if 512 < (if part < 0 then 0 else part) then 512 else (if part < 0 then 0 else part))) H (i := 0) rfl rfl rfl cs3 rfl (by simp only [List.length_cons, List.length_nil]; omega) (fun w H => ?_))
   replace H : Hp _ w _ (Ch.blk db ([.slice (hd (some z.a1)) z.ls.length z.c1, .map (some z.mb), .bool z.off, VI (if n < (-1) then (-1) else n), VI (if 512 < (if part < 0 then 0 else part) then 512 else (if part < 0 then 0 else part)), VI z.way, .slice (hd z.fa) z.fl.length z.fc, VI z.writes, VI z.lives]) 86 :: Ch.own (some z.a1) z.ls.length z.c1 ((z.ls).flatMap slE) 57 1 :: Ch.obj z.mb (mobj kI z.M z.mc) :: Ch.own z.fa z.fl.length z.fc ((z.fl).map V8) 5 1 :: z.T) := H
   first | refine l_end ?_ | refine l_nil ?_
   try simp only [Exit.then, Exit.inBlock, ↓reduceIte]
   refine e_norm ?_
   refine e_ret0 Try.results36 ?_
   refine ⟨_, rfl, ?_⟩
   have e1 : (if n < (-1) then (-1) else n) = (if n < -1 then -1 else n) := by (repeat' split) <;> omega
   have e2 : (if 512 < (if part < 0 then 0 else part) then 512 else (if part < 0 then 0 else part)) = (if 512 < (if part < 0 then 0 else part) then 512 else if part < 0 then 0 else part) := by (repeat' split) <;> omega
   rw [e1, e2] at H
   exact ⟨rfl, { z with armed := if n < -1 then -1 else n, part := if 512 < (if part < 0 then 0 else part) then 512 else if part < 0 then 0 else part }, rfl, ⟨hz.n, hz.hl, hz.hF, hz.hM, hz.hw, (by dsimp only; split <;> omega), (by dsimp only; (repeat' split) <;> omega), hz.way, hz.fl⟩, fun _ h => h, H.sub (.cons_cons _ (.cons_cons _ (.cons_cons _ (.cons_cons _ (List.Sublist.refl _)))))⟩
theorem dwaiting_ret (w0 : World) (db : Nat) (z : DW) (hO : Own w0 (kch db z)) (hz : z.ok) :
    Ret Try.prog 33 [.pointer (some ⟨db, 0, none⟩)] w0 fun v w' => ∃ a c, v = .slice (hd a) (dWaiting z.abs).length c ∧ Hp w0 w' (keys (kch db z)) (.own a (dWaiting z.abs).length c ((dWaiting z.abs).flatMap intE) 3 1 :: kch db z) := by
  refine ret_mk Try.func33 rfl Try.ntmps33 (by simp) ?_
  have H : Hp w0 w0 (keys (kch db z)) (Ch.blk db ([.slice (hd (some z.a1)) z.ls.length z.c1, .map (some z.mb), .bool z.off, VI z.armed, VI z.part, VI z.way, .slice (hd z.fa) z.fl.length z.fc, VI z.writes, VI z.lives]) 86 :: Ch.own (some z.a1) z.ls.length z.c1 ((z.ls).flatMap slE) 57 1 :: Ch.obj z.mb (mobj kI z.M z.mc) :: Ch.own z.fa z.fl.length z.fc ((z.fl).map V8) 5 1 :: z.T) := hO.start
  have hzn := hz.n
  have hza := hz.armed
  have hzp := hz.part
  have hzw := hz.way
  have hzf := hz.fl
  have hzl := z.alen
  have hmL : maxLen = 9223372036854775807 := rfl
  repeat refine c_seq ?_
  refine c_region ?_
  refine l_op (o_val (r_as) ?_)
  first | refine l_end ?_ | refine l_nil ?_
  repeat refine c_seq ?_
  refine c_region ?_
  refine l_op (o_val (r_mv) ?_)
  refine l_op (o_callR Try.func30 rfl rfl rfl (dlen_ret _ _ z.ls.length z.c1 z.fl.length z.fc (hd (some z.a1)) (hd z.fa) (some z.mb) z.off z.armed z.part z.way z.writes z.lives (H.has _ (List.mem_of_getElem? (i := 0) rfl))) ?_)
  rintro _ w ⟨rfl, Hc⟩
  replace H := (H.callA (i := 0) rfl rfl rfl Hc)
  clear Hc
  replace H : Hp _ w _ (Ch.blk db ([.slice (hd (some z.a1)) z.ls.length z.c1, .map (some z.mb), .bool z.off, VI z.armed, VI z.part, VI z.way, .slice (hd z.fa) z.fl.length z.fc, VI z.writes, VI z.lives]) 86 :: Ch.own (some z.a1) z.ls.length z.c1 ((z.ls).flatMap slE) 57 1 :: Ch.obj z.mb (mobj kI z.M z.mc) :: Ch.own z.fa z.fl.length z.fc ((z.fl).map V8) 5 1 :: z.T) := H
  refine l_op (o_val (r_bin (a := (z.ls.length : Int)) (b := 0) rfl rfl (fun _ => b_eqlB false (decide_eq_false (by omega)))) ?_)
  first | refine l_end ?_ | refine l_nil ?_
  repeat refine c_seq ?_
  refine c_no rfl ?_
  refine c_skip ?_
  repeat refine c_seq ?_
  refine c_region ?_
  refine l_op (o_val (r_mv) ?_)
  refine l_op (o_val (r_nilc rfl) ?_)
  refine l_op (o_val (r_fa rfl fo86_1) ?_)
  refine l_op (o_val (r_ld (v := .map (some z.mb)) H (i := 0) rfl rfl ct84 rfl) ?_)
  refine l_op (o_callR Try.func57 rfl rfl rfl (mkeys_ret _ z.mb) ?_)
  rintro _ w ⟨kb1, rfl, Hc⟩
  replace H : Hp _ w _ (Ch.blk kb1 [.map (some z.mb)] 84 :: Ch.blk db ([.slice (hd (some z.a1)) z.ls.length z.c1, .map (some z.mb), .bool z.off, VI z.armed, VI z.part, VI z.way, .slice (hd z.fa) z.fl.length z.fc, VI z.writes, VI z.lives]) 86 :: Ch.own (some z.a1) z.ls.length z.c1 ((z.ls).flatMap slE) 57 1 :: Ch.obj z.mb (mobj kI z.M z.mc) :: Ch.own z.fa z.fl.length z.fc ((z.fl).map V8) 5 1 :: z.T) := (H.call Hc).rot
  clear Hc
  refine l_op (o_callR Try.func56 rfl rfl rfl (msortedG_ret H (i := 3) (j := 0) rfl rfl hz.hM (wait_wf hz) (Nat.le_trans (wait_len hz) (by decide))) ?_)
  rintro _ w ⟨zs2, a3, n4, c5, hzp6, hzn7, rfl, Hc⟩
  clear H
  have H := Hc.rot; clear Hc
  replace H : Hp _ w _ (Ch.own a3 n4 c5 ((sortedI zs2).flatMap intE) 3 1 :: Ch.blk kb1 [.map (some z.mb)] 84 :: Ch.blk db ([.slice (hd (some z.a1)) z.ls.length z.c1, .map (some z.mb), .bool z.off, VI z.armed, VI z.part, VI z.way, .slice (hd z.fa) z.fl.length z.fc, VI z.writes, VI z.lives]) 86 :: Ch.own (some z.a1) z.ls.length z.c1 ((z.ls).flatMap slE) 57 1 :: Ch.obj z.mb (mobj kI z.M z.mc) :: Ch.own z.fa z.fl.length z.fc ((z.fl).map V8) 5 1 :: z.T) := H
  refine l_op (o_val (r_as) ?_)
  first | refine l_end ?_ | refine l_nil ?_
  refine c_ret ?_
  try dsimp only [Exit.then, Exit.inBlock]
  refine e_ret1 (v := .slice (hd a3) n4 c5) Try.results33 rfl ?_
  refine ⟨_, rfl, ?_⟩
  have H2 := (Hp.permT (L := [.own a3 n4 c5 ((sortedI zs2).flatMap intE) 3 1, .blk kb1 [.map (some z.mb)] 84, .blk db ([.slice (hd (some z.a1)) z.ls.length z.c1, .map (some z.mb), .bool z.off, VI z.armed, VI z.part, VI z.way, .slice (hd z.fa) z.fl.length z.fc, VI z.writes, VI z.lives]) 86, .own (some z.a1) z.ls.length z.c1 ((z.ls).flatMap slE) 57 1, .obj z.mb (mobj kI z.M z.mc), .own z.fa z.fl.length z.fc ((z.fl).map V8) 5 1]) (T := z.T) H ((perm_front (j := 0) rfl).trans (.cons _ ((perm_front (j := 1) rfl).trans (.cons _ ((perm_front (j := 1) rfl).trans (.cons _ ((perm_front (j := 1) rfl).trans (.cons _ ((perm_front (j := 1) rfl).trans (.cons _ (.refl _)))))))))))).sub (.cons_cons _ (.cons_cons _ (.cons_cons _ (.cons_cons _ (.cons_cons _ (.cons _ ((List.Sublist.refl _))))))))
  have hws := wait_sorted hz hzp6
  rw [hws] at hzn7 H2
  subst hzn7
  exact ⟨_, _, rfl, H2⟩
end Go.Proofs.Ytncmcgcilijfkaa
namespace Go.Proofs.Ytncmcgcilijfkaa
open Go
set_option maxRecDepth 100000
theorem full_ret (w0 : World) (s : Sl) (hs : s.ok w0) :
    Ret Try.prog 31 [s.v] w0 fun v w' => ∃ b, v = .slice (some ⟨b, 0, none⟩) 512 512 ∧ Hp w0 w' [] [.own (some b) 512 512 ((wh s.l).map V8) 5 1] := by
  refine ret_mk Try.func31 rfl Try.ntmps31 (by simp) ?_
  have H := Hp.refl w0 []
  have hsl0 := hs.ln
  have hsm := hs.le
  have hsx := hs.mx
  have hmL : maxLen = 9223372036854775807 := rfl
  repeat refine c_seq ?_
  refine c_region ?_
  refine l_op (o_val (r_as) ?_)
  first | refine l_end ?_ | refine l_nil ?_
  repeat refine c_seq ?_
  refine c_region ?_
  refine l_op (o_makeB 512 H sl57 zc5 rfl rfl (by omega) (by omega) (by omega) (fun b1 w H hb1 => ?_))
  replace H : Hp _ w _ ([.own (some b1) 512 512 ((List.replicate 512 (0 : UInt8)).map V8) 5 1]) := H
  refine l_op (o_val (r_as) ?_)
  first | refine l_end ?_ | refine l_nil ?_
  repeat refine c_seq ?_
  refine c_region ?_
  refine l_op (o_val (r_mv) ?_)
  refine l_op (o_val (r_mv) ?_)
  refine l_op (o_copyB (s := s) H (i := 0) rfl Try.underlying57 Try.underlying57 cs5 rfl rfl (hs.up H (fun _ => apart_nil _)) (by omega) (fun w H => ?_))
  replace H : Hp _ w _ ([.own (some b1) 512 512 (((s.l).take (min s.len 512) ++ (List.replicate 512 (0 : UInt8)).drop (min s.len 512)).map V8) 5 1]) := H
  first | refine l_end ?_ | refine l_nil ?_
  repeat refine c_seq ?_
  refine c_region ?_
  refine l_op (o_val (r_mv) ?_)
  refine l_op (o_val (r_as) ?_)
  first | refine l_end ?_ | refine l_nil ?_
  refine c_ret ?_
  try dsimp only [Exit.then, Exit.inBlock]
  refine e_ret1 (v := .slice (hd (some b1)) 512 512) Try.results31 rfl ?_
  refine ⟨_, rfl, ?_⟩
  have hsl := hs.ln
  have e : (s.l).take (min s.len 512) ++ (List.replicate 512 (0 : UInt8)).drop (min s.len 512) = wh s.l := by rw [wh, hsl]
  rw [e] at H
  exact ⟨_, rfl, H.sub (.cons_cons _ (List.nil_sublist _))⟩
theorem b5w : dWriteE (dNew 32) 3 (wh [7]) = 0 := by decide +kernel
theorem b5m : dMay (dWrite (dNew 32) 3 (wh [7])) 3 = 0 := by decide +kernel
theorem b5r : dRead (dWrite (dNew 32) 3 (wh [7])) 3 = wh [7] := by decide +kernel
theorem b5n : (dWrite (dNew 32) 3 (wh [7])).writes = 1 := by decide +kernel
theorem b5l : (dWrite (dNew 32) 3 (wh [7])).last.length = 32 := by decide +kernel
theorem dNew_writes {z : DW} {n : Nat} (h : z.abs = dNew n) : z.writes = 0 := congrArg DD.writes h
theorem begun5_ret (w0 : World) :
    Ret Try.prog 27 [] w0 fun v w' => v = .bool true ∧ Hp w0 w' [] [] := by
  refine ret_mk Try.func27 rfl Try.ntmps27 (by simp) ?_
  have H := Hp.refl w0 []
  repeat refine c_seq ?_
  refine c_region ?_
  refine l_op (o_val (r_as) ?_)
  first | refine l_end ?_ | refine l_nil ?_
  repeat refine c_seq ?_
  refine c_region ?_
  refine l_op (o_callR Try.func28 rfl rfl rfl (dnewI_ret _ 32 (by omega)) ?_)
  rintro _ w ⟨db1, z2, rfl, hza3, hzo4, hzt5, Hc⟩
  replace H : Hp _ w _ (Ch.blk db1 ([.slice (hd (some z2.a1)) z2.ls.length z2.c1, .map (some z2.mb), .bool z2.off, VI z2.armed, VI z2.part, VI z2.way, .slice (hd z2.fa) z2.fl.length z2.fc, VI z2.writes, VI z2.lives]) 86 :: Ch.own (some z2.a1) z2.ls.length z2.c1 ((z2.ls).flatMap slE) 57 1 :: Ch.obj z2.mb (mobj kI z2.M z2.mc) :: Ch.own z2.fa z2.fl.length z2.fc ((z2.fl).map V8) 5 1 :: z2.T) := H.call Hc
  clear Hc
  refine l_op (o_val (r_as) ?_)
  first | refine l_end ?_ | refine l_nil ?_
  have hw0 := dNew_writes hza3
  have hn32 : (dNew (32 : Int).toNat) = dNew 32 := rfl
  rw [hn32] at hza3
  repeat refine c_seq ?_
  refine c_region ?_
  refine l_op (o_val (r_mv) ?_)
  refine l_op (o_bslB ([(7 : UInt8)]) H sl57 zc5 rfl rfl (by decide) (fun b6 w H hb6 => ?_))
  replace H := H.rot
  replace H : Hp _ w _ (Ch.own (some b6) 1 1 (([(7 : UInt8)]).map V8) 5 1 :: Ch.blk db1 ([.slice (hd (some z2.a1)) z2.ls.length z2.c1, .map (some z2.mb), .bool z2.off, VI z2.armed, VI z2.part, VI z2.way, .slice (hd z2.fa) z2.fl.length z2.fc, VI z2.writes, VI z2.lives]) 86 :: Ch.own (some z2.a1) z2.ls.length z2.c1 ((z2.ls).flatMap slE) 57 1 :: Ch.obj z2.mb (mobj kI z2.M z2.mc) :: Ch.own z2.fa z2.fl.length z2.fc ((z2.fl).map V8) 5 1 :: z2.T) := H
  refine l_op (o_callR Try.func31 rfl rfl rfl (full_ret _ ⟨hd (some b6), 1, 1, [(7 : UInt8)]⟩ (H.slOwn (i := 0) rfl)) ?_)
  rintro _ w ⟨fb7, rfl, Hc⟩
  replace H : Hp _ w _ (Ch.own (some fb7) 512 512 ((wh ([(7 : UInt8)])).map V8) 5 1 :: Ch.own (some b6) 1 1 (([(7 : UInt8)]).map V8) 5 1 :: Ch.blk db1 ([.slice (hd (some z2.a1)) z2.ls.length z2.c1, .map (some z2.mb), .bool z2.off, VI z2.armed, VI z2.part, VI z2.way, .slice (hd z2.fa) z2.fl.length z2.fc, VI z2.writes, VI z2.lives]) 86 :: Ch.own (some z2.a1) z2.ls.length z2.c1 ((z2.ls).flatMap slE) 57 1 :: Ch.obj z2.mb (mobj kI z2.M z2.mc) :: Ch.own z2.fa z2.fl.length z2.fc ((z2.fl).map V8) 5 1 :: z2.T) := (H.call Hc).rot
  clear Hc
  refine l_op (o_callR Try.func34 rfl rfl rfl (dwrite_ret _ db1 z2 (H.ownT (L := [.own (some fb7) 512 512 ((wh ([(7 : UInt8)])).map V8) 5 1, .own (some b6) 1 1 (([(7 : UInt8)]).map V8) 5 1, .blk db1 ([.slice (hd (some z2.a1)) z2.ls.length z2.c1, .map (some z2.mb), .bool z2.off, VI z2.armed, VI z2.part, VI z2.way, .slice (hd z2.fa) z2.fl.length z2.fc, VI z2.writes, VI z2.lives]) 86, .own (some z2.a1) z2.ls.length z2.c1 ((z2.ls).flatMap slE) 57 1, .obj z2.mb (mobj kI z2.M z2.mc), .own z2.fa z2.fl.length z2.fc ((z2.fl).map V8) 5 1]) (L1 := [.blk db1 ([.slice (hd (some z2.a1)) z2.ls.length z2.c1, .map (some z2.mb), .bool z2.off, VI z2.armed, VI z2.part, VI z2.way, .slice (hd z2.fa) z2.fl.length z2.fc, VI z2.writes, VI z2.lives]) 86, .own (some z2.a1) z2.ls.length z2.c1 ((z2.ls).flatMap slE) 57 1, .obj z2.mb (mobj kI z2.M z2.mc), .own z2.fa z2.fl.length z2.fc ((z2.fl).map V8) 5 1]) (Lr := ([.own (some fb7) 512 512 ((wh ([(7 : UInt8)])).map V8) 5 1, .own (some b6) 1 1 (([(7 : UInt8)]).map V8) 5 1] : List Ch)) (T := z2.T) ((perm_front (j := 2) rfl).trans (.cons _ ((perm_front (j := 2) rfl).trans (.cons _ ((perm_front (j := 2) rfl).trans (.cons _ ((perm_front (j := 2) rfl).trans (.cons _ (.refl _)))))))))) hzo4 3 ⟨hd (some fb7), 512, 512, wh ([(7 : UInt8)])⟩ (H.slOwn (i := 0) rfl) (fun _ => apart_own (L := [.own (some fb7) 512 512 ((wh ([(7 : UInt8)])).map V8) 5 1, .own (some b6) 1 1 (([(7 : UInt8)]).map V8) 5 1, .blk db1 ([.slice (hd (some z2.a1)) z2.ls.length z2.c1, .map (some z2.mb), .bool z2.off, VI z2.armed, VI z2.part, VI z2.way, .slice (hd z2.fa) z2.fl.length z2.fc, VI z2.writes, VI z2.lives]) 86, .own (some z2.a1) z2.ls.length z2.c1 ((z2.ls).flatMap slE) 57 1, .obj z2.mb (mobj kI z2.M z2.mc), .own z2.fa z2.fl.length z2.fc ((z2.fl).map V8) 5 1]) (L1 := [.blk db1 ([.slice (hd (some z2.a1)) z2.ls.length z2.c1, .map (some z2.mb), .bool z2.off, VI z2.armed, VI z2.part, VI z2.way, .slice (hd z2.fa) z2.fl.length z2.fc, VI z2.writes, VI z2.lives]) 86, .own (some z2.a1) z2.ls.length z2.c1 ((z2.ls).flatMap slE) 57 1, .obj z2.mb (mobj kI z2.M z2.mc), .own z2.fa z2.fl.length z2.fc ((z2.fl).map V8) 5 1]) (Lr := ([.own (some fb7) 512 512 ((wh ([(7 : UInt8)])).map V8) 5 1, .own (some b6) 1 1 (([(7 : UInt8)]).map V8) 5 1] : List Ch)) (T := z2.T) H ((perm_front (j := 2) rfl).trans (.cons _ ((perm_front (j := 2) rfl).trans (.cons _ ((perm_front (j := 2) rfl).trans (.cons _ ((perm_front (j := 2) rfl).trans (.cons _ (.refl _))))))))) (List.mem_of_getElem? (i := 0) rfl)) (by omega)) ?_)
  rintro _ w ⟨rfl, y8, hya9, hyo10, hyt11, Hc⟩
  replace H := H.callT (L1' := [.blk db1 ([.slice (hd (some y8.a1)) y8.ls.length y8.c1, .map (some y8.mb), .bool y8.off, VI y8.armed, VI y8.part, VI y8.way, .slice (hd y8.fa) y8.fl.length y8.fc, VI y8.writes, VI y8.lives]) 86, .own (some y8.a1) y8.ls.length y8.c1 ((y8.ls).flatMap slE) 57 1, .obj y8.mb (mobj kI y8.M y8.mc), .own y8.fa y8.fl.length y8.fc ((y8.fl).map V8) 5 1]) (T' := y8.T) (L := [.own (some fb7) 512 512 ((wh ([(7 : UInt8)])).map V8) 5 1, .own (some b6) 1 1 (([(7 : UInt8)]).map V8) 5 1, .blk db1 ([.slice (hd (some z2.a1)) z2.ls.length z2.c1, .map (some z2.mb), .bool z2.off, VI z2.armed, VI z2.part, VI z2.way, .slice (hd z2.fa) z2.fl.length z2.fc, VI z2.writes, VI z2.lives]) 86, .own (some z2.a1) z2.ls.length z2.c1 ((z2.ls).flatMap slE) 57 1, .obj z2.mb (mobj kI z2.M z2.mc), .own z2.fa z2.fl.length z2.fc ((z2.fl).map V8) 5 1]) (L1 := [.blk db1 ([.slice (hd (some z2.a1)) z2.ls.length z2.c1, .map (some z2.mb), .bool z2.off, VI z2.armed, VI z2.part, VI z2.way, .slice (hd z2.fa) z2.fl.length z2.fc, VI z2.writes, VI z2.lives]) 86, .own (some z2.a1) z2.ls.length z2.c1 ((z2.ls).flatMap slE) 57 1, .obj z2.mb (mobj kI z2.M z2.mc), .own z2.fa z2.fl.length z2.fc ((z2.fl).map V8) 5 1]) (Lr := ([.own (some fb7) 512 512 ((wh ([(7 : UInt8)])).map V8) 5 1, .own (some b6) 1 1 (([(7 : UInt8)]).map V8) 5 1] : List Ch)) (T := z2.T) ((perm_front (j := 2) rfl).trans (.cons _ ((perm_front (j := 2) rfl).trans (.cons _ ((perm_front (j := 2) rfl).trans (.cons _ ((perm_front (j := 2) rfl).trans (.cons _ (.refl _))))))))) Hc (.refl _)
  clear Hc
  replace H : Hp _ w _ (Ch.own (some fb7) 512 512 ((wh ([(7 : UInt8)])).map V8) 5 1 :: Ch.own (some b6) 1 1 (([(7 : UInt8)]).map V8) 5 1 :: Ch.blk db1 ([.slice (hd (some y8.a1)) y8.ls.length y8.c1, .map (some y8.mb), .bool y8.off, VI y8.armed, VI y8.part, VI y8.way, .slice (hd y8.fa) y8.fl.length y8.fc, VI y8.writes, VI y8.lives]) 86 :: Ch.own (some y8.a1) y8.ls.length y8.c1 ((y8.ls).flatMap slE) 57 1 :: Ch.obj y8.mb (mobj kI y8.M y8.mc) :: Ch.own y8.fa y8.fl.length y8.fc ((y8.fl).map V8) 5 1 :: y8.T) := H
  replace hya9 : y8.abs = dWrite z2.abs 3 (wh ([(7 : UInt8)])) := hya9
  refine l_op (o_val (r_as) ?_)
  first | refine l_end ?_ | refine l_nil ?_
  rw [hza3] at hya9
  have hyl := y8.alen
  rw [hya9, b5l] at hyl
  repeat refine c_seq ?_
  refine c_region ?_
  refine l_op (o_val (r_mv) ?_)
  refine l_op (o_callR Try.func29 rfl rfl rfl (dread_ret _ db1 y8 (H.ownT (L := [.own (some fb7) 512 512 ((wh ([(7 : UInt8)])).map V8) 5 1, .own (some b6) 1 1 (([(7 : UInt8)]).map V8) 5 1, .blk db1 ([.slice (hd (some y8.a1)) y8.ls.length y8.c1, .map (some y8.mb), .bool y8.off, VI y8.armed, VI y8.part, VI y8.way, .slice (hd y8.fa) y8.fl.length y8.fc, VI y8.writes, VI y8.lives]) 86, .own (some y8.a1) y8.ls.length y8.c1 ((y8.ls).flatMap slE) 57 1, .obj y8.mb (mobj kI y8.M y8.mc), .own y8.fa y8.fl.length y8.fc ((y8.fl).map V8) 5 1]) (L1 := [.blk db1 ([.slice (hd (some y8.a1)) y8.ls.length y8.c1, .map (some y8.mb), .bool y8.off, VI y8.armed, VI y8.part, VI y8.way, .slice (hd y8.fa) y8.fl.length y8.fc, VI y8.writes, VI y8.lives]) 86, .own (some y8.a1) y8.ls.length y8.c1 ((y8.ls).flatMap slE) 57 1, .obj y8.mb (mobj kI y8.M y8.mc), .own y8.fa y8.fl.length y8.fc ((y8.fl).map V8) 5 1]) (Lr := ([.own (some fb7) 512 512 ((wh ([(7 : UInt8)])).map V8) 5 1, .own (some b6) 1 1 (([(7 : UInt8)]).map V8) 5 1] : List Ch)) (T := y8.T) ((perm_front (j := 2) rfl).trans (.cons _ ((perm_front (j := 2) rfl).trans (.cons _ ((perm_front (j := 2) rfl).trans (.cons _ ((perm_front (j := 2) rfl).trans (.cons _ (.refl _)))))))))) hyo10 3) ?_)
  rintro _ w ⟨a12, n13, c14, rl15, rfl, hrn16, hr017, hr118, Hc⟩
  replace H := H.callT (L1' := [.own a12 n13 c14 ((rl15).map V8) 5 1, .blk db1 ([.slice (hd (some y8.a1)) y8.ls.length y8.c1, .map (some y8.mb), .bool y8.off, VI y8.armed, VI y8.part, VI y8.way, .slice (hd y8.fa) y8.fl.length y8.fc, VI y8.writes, VI y8.lives]) 86, .own (some y8.a1) y8.ls.length y8.c1 ((y8.ls).flatMap slE) 57 1, .obj y8.mb (mobj kI y8.M y8.mc), .own y8.fa y8.fl.length y8.fc ((y8.fl).map V8) 5 1]) (T' := y8.T) (L := [.own (some fb7) 512 512 ((wh ([(7 : UInt8)])).map V8) 5 1, .own (some b6) 1 1 (([(7 : UInt8)]).map V8) 5 1, .blk db1 ([.slice (hd (some y8.a1)) y8.ls.length y8.c1, .map (some y8.mb), .bool y8.off, VI y8.armed, VI y8.part, VI y8.way, .slice (hd y8.fa) y8.fl.length y8.fc, VI y8.writes, VI y8.lives]) 86, .own (some y8.a1) y8.ls.length y8.c1 ((y8.ls).flatMap slE) 57 1, .obj y8.mb (mobj kI y8.M y8.mc), .own y8.fa y8.fl.length y8.fc ((y8.fl).map V8) 5 1]) (L1 := [.blk db1 ([.slice (hd (some y8.a1)) y8.ls.length y8.c1, .map (some y8.mb), .bool y8.off, VI y8.armed, VI y8.part, VI y8.way, .slice (hd y8.fa) y8.fl.length y8.fc, VI y8.writes, VI y8.lives]) 86, .own (some y8.a1) y8.ls.length y8.c1 ((y8.ls).flatMap slE) 57 1, .obj y8.mb (mobj kI y8.M y8.mc), .own y8.fa y8.fl.length y8.fc ((y8.fl).map V8) 5 1]) (Lr := ([.own (some fb7) 512 512 ((wh ([(7 : UInt8)])).map V8) 5 1, .own (some b6) 1 1 (([(7 : UInt8)]).map V8) 5 1] : List Ch)) (T := y8.T) ((perm_front (j := 2) rfl).trans (.cons _ ((perm_front (j := 2) rfl).trans (.cons _ ((perm_front (j := 2) rfl).trans (.cons _ ((perm_front (j := 2) rfl).trans (.cons _ (.refl _))))))))) Hc ((perm_front (j := 2) rfl).trans (.cons _ (.refl _)))
  clear Hc
  replace H : Hp _ w _ (Ch.own a12 n13 c14 ((rl15).map V8) 5 1 :: Ch.own (some fb7) 512 512 ((wh ([(7 : UInt8)])).map V8) 5 1 :: Ch.own (some b6) 1 1 (([(7 : UInt8)]).map V8) 5 1 :: Ch.blk db1 ([.slice (hd (some y8.a1)) y8.ls.length y8.c1, .map (some y8.mb), .bool y8.off, VI y8.armed, VI y8.part, VI y8.way, .slice (hd y8.fa) y8.fl.length y8.fc, VI y8.writes, VI y8.lives]) 86 :: Ch.own (some y8.a1) y8.ls.length y8.c1 ((y8.ls).flatMap slE) 57 1 :: Ch.obj y8.mb (mobj kI y8.M y8.mc) :: Ch.own y8.fa y8.fl.length y8.fc ((y8.fl).map V8) 5 1 :: y8.T) := H
  refine l_op (o_val (r_mv) ?_)
  refine l_op (o_val (r_ext rfl rfl) ?_)
  refine l_op (o_val (r_ext rfl rfl) ?_)
  refine l_op (o_val (r_as) ?_)
  refine l_op (o_val (r_as) ?_)
  first | refine l_end ?_ | refine l_nil ?_
  have hm0 : dMay y8.abs 3 = 0 := by rw [hya9]; exact b5m
  have hr0 : rl15 = wh [7] := by rw [hr017 hm0, hya9]; exact b5r
  have hr1 : n13 = 512 := by rw [hrn16, hr0]; exact wh_len _
  repeat refine c_seq ?_
  refine c_region ?_
  refine l_op (o_val (r_mv) ?_)
  refine l_op (o_callR Try.func30 rfl rfl rfl (dlen_ret _ _ y8.ls.length y8.c1 y8.fl.length y8.fc (hd (some y8.a1)) (hd y8.fa) (some y8.mb) y8.off y8.armed y8.part y8.way y8.writes y8.lives (H.has _ (List.mem_of_getElem? (i := 3) rfl))) ?_)
  rintro _ w ⟨rfl, Hc⟩
  replace H := (H.callA (i := 3) rfl rfl rfl Hc)
  clear Hc
  replace H : Hp _ w _ (Ch.own a12 n13 c14 ((rl15).map V8) 5 1 :: Ch.own (some fb7) 512 512 ((wh ([(7 : UInt8)])).map V8) 5 1 :: Ch.own (some b6) 1 1 (([(7 : UInt8)]).map V8) 5 1 :: Ch.blk db1 ([.slice (hd (some y8.a1)) y8.ls.length y8.c1, .map (some y8.mb), .bool y8.off, VI y8.armed, VI y8.part, VI y8.way, .slice (hd y8.fa) y8.fl.length y8.fc, VI y8.writes, VI y8.lives]) 86 :: Ch.own (some y8.a1) y8.ls.length y8.c1 ((y8.ls).flatMap slE) 57 1 :: Ch.obj y8.mb (mobj kI y8.M y8.mc) :: Ch.own y8.fa y8.fl.length y8.fc ((y8.fl).map V8) 5 1 :: y8.T) := H
  refine l_op (o_val (r_bin (a := (y8.ls.length : Int)) (b := 32) rfl rfl (fun _ => b_eqlB true (decide_eq_true (by omega)))) ?_)
  refine l_op (o_val (r_mv) ?_)
  refine l_yes rfl rfl rfl (o_val (r_mv) ?_)
  refine l_yes rfl rfl rfl (o_val (r_bin (a := dWriteE z2.abs 3 (wh ([(7 : UInt8)]))) (b := 0) rfl rfl (fun _ => b_eqlB true (decide_eq_true (by rw [hza3]; exact b5w)))) ?_)
  refine l_op (o_val (r_pick rfl) ?_)
  refine l_op (o_val (r_mv) ?_)
  refine l_yes rfl rfl rfl (o_val (r_mv) ?_)
  refine l_yes rfl rfl rfl (o_val (r_bin (a := dMay y8.abs 3) (b := 0) rfl rfl (fun _ => b_eqlB true (decide_eq_true hm0))) ?_)
  refine l_op (o_val (r_pick rfl) ?_)
  refine l_op (o_val (r_mv) ?_)
  refine l_yes rfl rfl rfl (o_val (r_mv) ?_)
  refine l_yes rfl rfl rfl (o_val (r_lens el57 rfl) ?_)
  refine l_yes rfl rfl rfl (o_val (r_bin (a := (n13 : Int)) (b := 512) rfl rfl (fun _ => b_eqlB true (decide_eq_true (by omega)))) ?_)
  refine l_op (o_val (r_pick rfl) ?_)
  refine l_op (o_val (r_mv) ?_)
  refine l_yes rfl rfl rfl (o_val (r_mv) ?_)
  have ah20 := H.ownAddr (i := 0) rfl (by omega)
  obtain ⟨ab19, ah20⟩ := ah20
  refine l_yes rfl rfl rfl (o_val (r_isN 0 rfl rfl el57 ah20 (by omega) (by (try simp only [Sl.cut]); omega)) ?_)
  refine l_yes rfl rfl rfl (o_val (r_ldB (s := ⟨hd a12, n13, c14, rl15⟩) (k := 0) (H.slOwn (i := 0) rfl) ah20 rfl ct5 (by (try simp only []); omega)) ?_)
  refine l_yes rfl rfl rfl (o_val (r_bin (a := (((rl15).getD 0 0).toNat : Int)) (b := 7) rfl rfl (fun _ => b_eqlB true (decide_eq_true (by rw [hr0]; rfl)))) ?_)
  refine l_op (o_val (r_pick rfl) ?_)
  refine l_op (o_val (r_mv) ?_)
  refine l_yes rfl rfl rfl (o_callR Try.func28 rfl rfl rfl (dnew_no _ 31 (by omega)) ?_)
  rintro _ w ⟨rfl, Hc⟩
  replace H : Hp _ w _ (Ch.own a12 n13 c14 ((rl15).map V8) 5 1 :: Ch.own (some fb7) 512 512 ((wh ([(7 : UInt8)])).map V8) 5 1 :: Ch.own (some b6) 1 1 (([(7 : UInt8)]).map V8) 5 1 :: Ch.blk db1 ([.slice (hd (some y8.a1)) y8.ls.length y8.c1, .map (some y8.mb), .bool y8.off, VI y8.armed, VI y8.part, VI y8.way, .slice (hd y8.fa) y8.fl.length y8.fc, VI y8.writes, VI y8.lives]) 86 :: Ch.own (some y8.a1) y8.ls.length y8.c1 ((y8.ls).flatMap slE) 57 1 :: Ch.obj y8.mb (mobj kI y8.M y8.mc) :: Ch.own y8.fa y8.fl.length y8.fc ((y8.fl).map V8) 5 1 :: y8.T) := H.keep1 Hc
  clear Hc
  refine l_yes rfl rfl rfl (o_val (r_nilpp Try.underlying55 (by kernel_rfl) rfl rfl) ?_)
  refine l_op (o_val (r_pick rfl) ?_)
  refine l_op (o_val (r_mv) ?_)
  refine l_yes rfl rfl rfl (o_val (r_mv) ?_)
  refine l_yes rfl rfl rfl (o_callR Try.func46 rfl rfl rfl (dwrites_ret _ _ y8.ls.length y8.c1 y8.fl.length y8.fc (hd (some y8.a1)) (hd y8.fa) (some y8.mb) y8.off y8.armed y8.part y8.way y8.writes y8.lives (H.has _ (List.mem_of_getElem? (i := 3) rfl))) ?_)
  rintro _ w ⟨rfl, Hc⟩
  replace H := (H.callA (i := 3) rfl rfl rfl Hc)
  clear Hc
  replace H : Hp _ w _ (Ch.own a12 n13 c14 ((rl15).map V8) 5 1 :: Ch.own (some fb7) 512 512 ((wh ([(7 : UInt8)])).map V8) 5 1 :: Ch.own (some b6) 1 1 (([(7 : UInt8)]).map V8) 5 1 :: Ch.blk db1 ([.slice (hd (some y8.a1)) y8.ls.length y8.c1, .map (some y8.mb), .bool y8.off, VI y8.armed, VI y8.part, VI y8.way, .slice (hd y8.fa) y8.fl.length y8.fc, VI y8.writes, VI y8.lives]) 86 :: Ch.own (some y8.a1) y8.ls.length y8.c1 ((y8.ls).flatMap slE) 57 1 :: Ch.obj y8.mb (mobj kI y8.M y8.mc) :: Ch.own y8.fa y8.fl.length y8.fc ((y8.fl).map V8) 5 1 :: y8.T) := H
  refine l_yes rfl rfl rfl (o_val (r_bin (a := y8.writes) (b := 1) rfl rfl (fun _ => b_eqlB true (decide_eq_true ((congrArg DD.writes hya9).trans b5n)))) ?_)
  refine l_op (o_val (r_pick rfl) ?_)
  refine l_op (o_val (r_as) ?_)
  first | refine l_end ?_ | refine l_nil ?_
  refine c_ret ?_
  try dsimp only [Exit.then, Exit.inBlock]
  refine e_ret1 (v := .bool true) Try.results27 rfl ?_
  refine ⟨_, rfl, ?_⟩
  exact ⟨rfl, H.sub (List.nil_sublist _)⟩
end Go.Proofs.Ytncmcgcilijfkaa
namespace Go.Proofs.Ytncmcgcilijfkaa
open Go
set_option maxRecDepth 100000
def boolE (b : Bool) : List Value := [.bool b]
theorem Gl.ok.upA {α : Type} {enc : α → List Value} {sz : Nat} {s : Gl α} {w0 w : World} {S : List Nat} {L : List Ch} (hs : s.ok enc sz w0) (H : Hp w0 w S L) (hap : s.l ≠ [] → Apart s.a S) : s.ok enc sz w :=
  ⟨H.rd' hs.rd (fun h => hap (fun e => h (by rw [e]; rfl))), hs.ln, hs.le, hs.mx, hs.sz⟩
theorem Hp.newK {w0 w : World} {L L1 Lr T : List Ch} (H : Hp w0 w [] (L ++ T)) (hp : L.Perm (L1 ++ Lr)) : ∀ b ∈ keys (L1 ++ T), w0.heap.size ≤ b := fun b hb => by
  obtain ⟨c, hc, hk⟩ := mem_keys.1 hb
  have hm : c ∈ L ++ T := by
    rcases List.mem_append.1 hc with h | h
    · exact List.mem_append_left _ (hp.mem_iff.2 (List.mem_append_left _ h))
    · exact List.mem_append_right _ h
  rcases H.fresh c hm b hk with h | h
  · cases h
  · exact h
theorem RdS.apartK {w0 : World} {a : Option Addr} {vs : List Value} {S : List Nat} (hr : RdS w0 a vs) (hv : vs ≠ []) (hS : ∀ b ∈ S, w0.heap.size ≤ b) : Apart a S := by
  intro y hy hm
  rcases hr with h | ⟨b', o, C, T, fr, ha, hh, _⟩
  · exact hv h
  · rw [ha] at hy
    cases hy
    have h1 := (Array.getElem?_eq_some_iff.1 hh).1
    have h2 : w0.heap.size ≤ b' := hS _ hm
    omega
theorem Sl.ok.apartK {w0 : World} {x : Sl} {S : List Nat} (hx : x.ok w0) (hS : ∀ b ∈ S, w0.heap.size ≤ b) : x.l ≠ [] → Apart x.a S := fun hn => hx.rd.apartK (by simpa using hn) hS
theorem Gl.ok.apartK {α : Type} {enc : α → List Value} {sz : Nat} {w0 : World} {s : Gl α} {S : List Nat} (hs : s.ok enc sz w0) (hz : 0 < sz) (hS : ∀ b ∈ S, w0.heap.size ≤ b) : s.l ≠ [] → Apart s.a S := fun hn => hs.rd.apartK (by
  obtain ⟨c, l, e⟩ := List.exists_cons_of_ne_nil hn
  intro h
  have := hs.sz c (by rw [e]; exact List.mem_cons_self ..)
  rw [e, List.flatMap_cons] at h
  rw [(List.append_eq_nil_iff.1 h).1] at this
  simp at this; omega) hS
/-- the sectors, some of them as they wait. -/
def flu (F : Int → Option Sl) (vis : List Int) (ls : List Sl) : List Sl := ls.mapIdx fun j e => if (j : Int) ∈ vis then (F j).getD nilS else e
theorem flu_len (F : Int → Option Sl) (vis : List Int) (ls : List Sl) : (flu F vis ls).length = ls.length := List.length_mapIdx ..
theorem flu_nil (F : Int → Option Sl) (ls : List Sl) : flu F [] ls = ls := by
  apply List.ext_getElem?
  intro j
  rw [flu, List.getElem?_mapIdx]
  cases ls[j]? <;> simp
theorem flu_snoc {F : Int → Option Sl} {vis : List Int} {ls : List Sl} {i : Int} (h0 : 0 ≤ i) : (flu F vis ls).set i.toNat ((F i).getD nilS) = flu F (vis ++ [i]) ls := by
  apply List.ext_getElem?
  intro j
  rw [List.getElem?_set, flu, flu, List.length_mapIdx, List.getElem?_mapIdx, List.getElem?_mapIdx]
  by_cases hj : i.toNat = j
  · rw [if_pos hj]
    have e : i = (j : Int) := by omega
    by_cases hl : i.toNat < ls.length
    · rw [if_pos hl, List.getElem?_eq_getElem (by omega)]
      simp [e]
    · rw [if_neg hl, List.getElem?_eq_none (by omega)]; rfl
  · rw [if_neg hj]
    have e : ¬ (j : Int) = i := by omega
    cases ls[j]? with
    | none => rfl
    | some x => simp [e]
theorem flu_sec {z : DW} (hz : z.ok) (vis : List Int) : ∀ s ∈ flu z.F vis z.ls, Sec z.T s := by
  intro s hs
  obtain ⟨j, hj⟩ := List.getElem?_of_mem hs
  rw [flu, List.getElem?_mapIdx] at hj
  cases he : z.ls[j]? with
  | none => rw [he] at hj; cases hj
  | some x =>
    rw [he] at hj
    simp only [Option.map_some, Option.some.injEq] at hj
    subst hj
    by_cases hm : (j : Int) ∈ vis
    · rw [if_pos hm]
      exact sec_getD fun s hs => (hz.hw _ s hs).2.2
    · rw [if_neg hm]
      exact hz.hl _ (List.mem_of_getElem? he)
/-- what lasts once some of what waits does. -/
def dLast (D : DD) (vis : List Int) : List (List UInt8) := D.last.mapIdx fun j e => if (j : Int) ∈ vis then (D.wait j).getD e else e
theorem dLast_len (D : DD) (vis : List Int) : (dLast D vis).length = D.last.length := List.length_mapIdx ..
theorem flu_abs {z : DW} {vis : List Int} (hv : ∀ k ∈ vis, (z.F k).isSome = true) : (flu z.F vis z.ls).map (fun s => wh s.l) = dLast z.abs vis := by
  apply List.ext_getElem?
  intro j
  rw [dLast, List.getElem?_map, flu, List.getElem?_mapIdx, List.getElem?_mapIdx, DW.abs, List.getElem?_map]
  cases he : z.ls[j]? with
  | none => rfl
  | some x =>
    simp only [Option.map_some, Option.some.injEq]
    by_cases hm : (j : Int) ∈ vis
    · rw [if_pos hm, if_pos hm]
      obtain ⟨s, hs⟩ := Option.isSome_iff_exists.1 (hv _ hm)
      rw [hs]; rfl
    · rw [if_neg hm, if_neg hm]
def dFlushE (D : DD) : Int := if dMay D 0 ≠ 0 then dMay D 0 else if D.armed = 0 then 8 else 0
def dFlush (D : DD) : DD := if dMay D 0 ≠ 0 then D else if D.armed = 0 then { D with off := true } else { D with armed := dDec D.armed, last := D.last.mapIdx (fun j e => (D.wait j).getD e), wait := fun _ => none }
theorem dLast_all {D : DD} {vis : List Int} (h : ∀ k, (D.wait k).isSome = true → k ∈ vis) : dLast D vis = D.last.mapIdx (fun j e => (D.wait j).getD e) := by
  rw [dLast]
  congr 1
  funext j e
  by_cases hm : (j : Int) ∈ vis
  · rw [if_pos hm]
  · rw [if_neg hm]
    cases hw : D.wait j with
    | none => rfl
    | some x => exact absurd (h j (by rw [hw]; rfl)) hm
theorem dFlush_may {z : DW} (h : ¬ mayE z.off z.ls.length 0 = 0) : dFlushE z.abs = mayE z.off z.ls.length 0 ∧ dFlush z.abs = z.abs := by
  rw [mayE_abs] at h ⊢
  exact ⟨by rw [dFlushE, if_pos h], by rw [dFlush, if_pos h]⟩
theorem dFlush_dead {z : DW} (h : mayE z.off z.ls.length 0 = 0) (ha : z.armed = 0) : dFlushE z.abs = 8 ∧ dFlush z.abs = { z.abs with off := true } := by
  rw [mayE_abs] at h
  exact ⟨by rw [dFlushE, if_neg (fun e => e h), if_pos (show z.abs.armed = 0 from ha)], by rw [dFlush, if_neg (fun e => e h), if_pos (show z.abs.armed = 0 from ha)]⟩
theorem dFlush_goes {z : DW} {vis : List Int} (hv : ∀ k ∈ vis, (z.F k).isSome = true) (hall : ∀ k, (z.F k).isSome = true → k ∈ vis) (h : mayE z.off z.ls.length 0 = 0) (ha : ¬ z.armed = 0) :
    dFlushE z.abs = 0 ∧ dFlush z.abs = { z.abs with armed := dDec z.armed, last := (flu z.F vis z.ls).map (fun s => wh s.l), wait := fun _ => none } := by
  rw [mayE_abs] at h
  have e := flu_abs hv
  have e2 := dLast_all (D := z.abs) (vis := vis) fun k hk => hall k (by
    have : ((z.F k).map fun s => wh s.l).isSome = true := hk
    simpa using this)
  exact ⟨by rw [dFlushE, if_neg (fun e => e h), if_neg (show ¬ z.abs.armed = 0 from ha)], by rw [dFlush, if_neg (fun e => e h), if_neg (show ¬ z.abs.armed = 0 from ha), e, e2]; rfl⟩
/-- which of what waits is kept. -/
def kp : List Int → List Bool → List Int
  | [], _ => []
  | _ :: _, [] => []
  | w :: ws, b :: ks => if b then w :: kp ws ks else kp ws ks
theorem kp_mem : ∀ {ws : List Int} {ks : List Bool} {x : Int}, x ∈ kp ws ks → x ∈ ws
  | [], _, _, h => by cases h
  | _ :: _, [], _, h => by cases h
  | w :: ws, b :: ks, x, h => by
    rw [kp] at h
    cases b with
    | true =>
      rw [if_pos rfl] at h
      rcases List.mem_cons.1 h with e | h
      · rw [e]; exact List.mem_cons_self ..
      · exact List.mem_cons_of_mem _ (kp_mem h)
    | false =>
      rw [if_neg (by decide)] at h
      exact List.mem_cons_of_mem _ (kp_mem h)
theorem kp_snoc (w : Int) : ∀ (ws : List Int) (ks : List Bool), kp (ws ++ [w]) ks = kp ws ks ++ (if ks[ws.length]? = some true then [w] else [])
  | [], [] => by simp [kp]
  | [], b :: ks => by cases b <;> simp [kp]
  | x :: ws, [] => by simp [kp]
  | x :: ws, b :: ks => by
    have := kp_snoc w ws ks
    rw [List.cons_append, kp, kp, this, List.length_cons, List.getElem?_cons_succ]
    cases b <;> simp
theorem kp_take {ws : List Int} {ks : List Bool} {i : Nat} {w : Int} (h : ws[i]? = some w) : kp (ws.take (i + 1)) ks = kp (ws.take i) ks ++ (if ks[i]? = some true then [w] else []) := by
  have hl : i < ws.length := (List.getElem?_eq_some_iff.1 h).1
  rw [List.take_add_one, h, Option.toList, kp_snoc, List.length_take, Nat.min_eq_left (by omega)]
/-- the sectors once the power failed. -/
def dPow (D : DD) (ks : List Bool) : List (List UInt8) := if D.way < 0 then dLast D (kp (dWaiting D) ks) else (dLast D (kp (dWaiting D) ks)).set D.way.toNat (D.front ++ ((dLast D (kp (dWaiting D) ks)).getD D.way.toNat []).drop D.front.length)
def dPower (D : DD) (ks : List Bool) : DD := { D with last := dPow D ks, wait := fun _ => none, off := false, armed := -1, way := -1, front := [], lives := D.lives + 1 }
theorem dWait_get {z : DW} {i : Nat} {w : Int} (_hz : z.ok) (h : (dWaiting z.abs)[i]? = some w) : 0 ≤ w ∧ w < (z.ls.length : Int) ∧ (z.F w).isSome = true := by
  obtain ⟨h1, h2, h3⟩ := (dWaiting_mem _ _).1 (List.mem_of_getElem? h)
  rw [z.alen] at h2
  have h4 : ((z.F w).map fun s => wh s.l).isSome = true := h3
  exact ⟨h1, h2, by simpa using h4⟩
theorem kp_some {z : DW} (hz : z.ok) (ks : List Bool) : ∀ k ∈ kp (dWaiting z.abs) ks, (z.F k).isSome = true := fun k hk => by
  obtain ⟨j, hj⟩ := List.getElem?_of_mem (kp_mem hk)
  exact (dWait_get hz hj).2.2
theorem dWait_len {z : DW} (hz : z.ok) : (dWaiting z.abs).length ≤ 4096 := by
  have h2 := hz.n
  have h3 : (dWaiting z.abs).length ≤ (List.range z.abs.last.length).length := by
    rw [dWaiting, List.length_map]; exact List.length_filter_le ..
  rw [List.length_range, z.alen] at h3
  omega
theorem dPow_way {z : DW} {ks : List Bool} {e : Sl} (hz : z.ok) (hw : ¬ z.way < 0) (he : (flu z.F (kp (dWaiting z.abs) ks) z.ls)[z.way.toNat]? = some e) {q : List UInt8} (hq : q = z.fl.take (min z.fl.length 512) ++ (wh e.l).drop (min z.fl.length 512)) (b : Nat) :
    ((flu z.F (kp (dWaiting z.abs) ks) z.ls).set z.way.toNat ⟨hd (some b), 512, 512, q⟩).map (fun s => wh s.l) = dPow z.abs ks ∧ q.length = 512 := by
  have hf := hz.fl
  have hq2 : q = z.fl ++ (wh e.l).drop z.fl.length := by rw [hq, Nat.min_eq_left hf, List.take_length]
  have hl : q.length = 512 := by rw [hq2, List.length_append, List.length_drop, wh_len]; omega
  refine ⟨?_, hl⟩
  have e1 := flu_abs (kp_some hz ks)
  have e2 : (dLast z.abs (kp (dWaiting z.abs) ks)).getD z.way.toNat [] = wh e.l := by
    rw [← e1, List.getD_eq_getElem?_getD, List.getElem?_map, he]; rfl
  rw [dPow, if_neg (show ¬ z.abs.way < 0 from hw), List.map_set, e1]
  show (dLast z.abs _).set _ (wh q) = (dLast z.abs _).set z.way.toNat (z.fl ++ ((dLast z.abs _).getD z.way.toNat []).drop z.fl.length)
  rw [e2, wh_of hl, hq2]
theorem dPow_none {z : DW} {ks : List Bool} (hz : z.ok) (hw : z.way < 0) : (flu z.F (kp (dWaiting z.abs) ks) z.ls).map (fun s => wh s.l) = dPow z.abs ks := by
  rw [dPow, if_pos (show z.abs.way < 0 from hw), flu_abs (kp_some hz ks)]
theorem dWrite_wl {z y : DW} {i : Int} {l : List UInt8} (h : y.abs = dWrite z.abs i l) : z.writes ≤ y.writes ∧ y.writes ≤ z.writes + 1 ∧ y.lives = z.lives := by
  have h1 : y.writes = (dWrite z.abs i l).writes := congrArg DD.writes h
  have h2 : y.lives = (dWrite z.abs i l).lives := congrArg DD.lives h
  have e1 : z.abs.writes = z.writes := rfl
  have e2 : z.abs.lives = z.lives := rfl
  rw [h1, h2, dWrite]
  (repeat' split) <;> (try dsimp only) <;> omega
theorem dFlush_wl {z y : DW} (h : y.abs = dFlush z.abs) : y.writes = z.writes ∧ y.lives = z.lives := by
  have h1 : y.writes = (dFlush z.abs).writes := congrArg DD.writes h
  have h2 : y.lives = (dFlush z.abs).lives := congrArg DD.lives h
  rw [h1, h2, dFlush]
  (repeat' split) <;> exact ⟨rfl, rfl⟩
theorem dArm_wl {z y : DW} {n p : Int} (h : y.abs = dArm z.abs n p) : y.writes = z.writes ∧ y.lives = z.lives := ⟨congrArg DD.writes h, congrArg DD.lives h⟩
theorem dPower_wl {z y : DW} {ks : List Bool} (h : y.abs = dPower z.abs ks) : y.writes = z.writes ∧ y.lives = z.lives + 1 := ⟨congrArg DD.writes h, congrArg DD.lives h⟩
theorem dflush_ret (w0 : World) (db : Nat) (z : DW) (hO : Own w0 (kch db z)) (hz : z.ok) :
    Ret Try.prog 35 [.pointer (some ⟨db, 0, none⟩)] w0 fun v w' => v = VI (dFlushE z.abs) ∧ DLeft w0 w' db z (dFlush z.abs) := by
  refine ret_mk Try.func35 rfl Try.ntmps35 (by simp) ?_
  have H : Hp w0 w0 (keys (kch db z)) (Ch.blk db ([.slice (hd (some z.a1)) z.ls.length z.c1, .map (some z.mb), .bool z.off, VI z.armed, VI z.part, VI z.way, .slice (hd z.fa) z.fl.length z.fc, VI z.writes, VI z.lives]) 86 :: Ch.own (some z.a1) z.ls.length z.c1 ((z.ls).flatMap slE) 57 1 :: Ch.obj z.mb (mobj kI z.M z.mc) :: Ch.own z.fa z.fl.length z.fc ((z.fl).map V8) 5 1 :: z.T) := hO.start
  have hzn := hz.n
  have hza := hz.armed
  have hzp := hz.part
  have hzw := hz.way
  have hzf := hz.fl
  have hzl := z.alen
  have hmL : maxLen = 9223372036854775807 := rfl
  repeat refine c_seq ?_
  refine c_region ?_
  refine l_op (o_val (r_as) ?_)
  first | refine l_end ?_ | refine l_nil ?_
  repeat refine c_seq ?_
  refine c_region ?_
  refine l_op (o_val (r_mv) ?_)
  refine l_op (o_callR Try.func54 rfl rfl rfl (dmay_ret _ _ z.ls.length z.c1 z.fl.length z.fc (hd (some z.a1)) (hd z.fa) (some z.mb) z.off z.armed z.part z.way z.writes z.lives 0 (by omega) (H.has _ (List.mem_of_getElem? (i := 0) rfl))) ?_)
  rintro _ w ⟨rfl, Hc⟩
  replace H := (H.callA (i := 0) rfl rfl rfl Hc)
  clear Hc
  replace H : Hp _ w _ (Ch.blk db ([.slice (hd (some z.a1)) z.ls.length z.c1, .map (some z.mb), .bool z.off, VI z.armed, VI z.part, VI z.way, .slice (hd z.fa) z.fl.length z.fc, VI z.writes, VI z.lives]) 86 :: Ch.own (some z.a1) z.ls.length z.c1 ((z.ls).flatMap slE) 57 1 :: Ch.obj z.mb (mobj kI z.M z.mc) :: Ch.own z.fa z.fl.length z.fc ((z.fl).map V8) 5 1 :: z.T) := H
  refine l_op (o_val (r_as) ?_)
  first | refine l_end ?_ | refine l_nil ?_
  repeat refine c_seq ?_
  refine c_region ?_
  refine l_op (o_val (r_mv) ?_)
  refine l_op (o_val (r_bin (a := mayE z.off z.ls.length 0) (b := 0) rfl rfl (fun _ => b_neq)) ?_)
  first | refine l_end ?_ | refine l_nil ?_
  by_cases hc1 : mayE z.off z.ls.length 0 ≠ 0
  ·
   repeat refine c_seq ?_
   refine c_yes (by exact congrArg Value.bool (decide_eq_true hc1)) ?_
   repeat refine c_seq ?_
   refine c_region ?_
   refine l_op (o_val (r_mv) ?_)
   refine l_op (o_val (r_as) ?_)
   first | refine l_end ?_ | refine l_nil ?_
   refine c_ret ?_
   try dsimp only [Exit.then, Exit.inBlock]
   refine e_ret1 (v := VI (mayE z.off z.ls.length 0)) Try.results35 rfl ?_
   refine ⟨_, rfl, ?_⟩
   obtain ⟨e1, e2⟩ := dFlush_may (show ¬ mayE z.off z.ls.length 0 = 0 by omega)
   rw [e1, e2]
   exact ⟨rfl, dleft_same hz rfl (H.sub (.cons_cons _ (.cons_cons _ (.cons_cons _ (.cons_cons _ (List.Sublist.refl _))))))⟩
  ·
   repeat refine c_seq ?_
   refine c_no (by exact congrArg Value.bool (decide_eq_false hc1)) ?_
   refine c_skip ?_
   repeat refine c_seq ?_
   refine c_region ?_
   refine l_op (o_val (r_mv) ?_)
   by_cases hc2 : z.armed = 0
   ·
    refine l_op (o_callR Try.func58 rfl rfl rfl (dgo0_ret _ _ z.ls.length z.c1 z.fl.length z.fc (hd (some z.a1)) (hd z.fa) (some z.mb) z.off z.armed z.part z.way z.writes z.lives (of_decide_eq_true (decide_eq_true hc2)) (H.has _ (List.mem_of_getElem? (i := 0) rfl))) ?_)
    rintro _ w ⟨rfl, Hc⟩
    replace H := (H.callA (i := 0) rfl rfl rfl Hc)
    clear Hc
    replace H : Hp _ w _ (Ch.blk db ([.slice (hd (some z.a1)) z.ls.length z.c1, .map (some z.mb), .bool true, VI z.armed, VI z.part, VI z.way, .slice (hd z.fa) z.fl.length z.fc, VI z.writes, VI z.lives]) 86 :: Ch.own (some z.a1) z.ls.length z.c1 ((z.ls).flatMap slE) 57 1 :: Ch.obj z.mb (mobj kI z.M z.mc) :: Ch.own z.fa z.fl.length z.fc ((z.fl).map V8) 5 1 :: z.T) := H
    refine l_op (o_val (r_not rfl) ?_)
    first | refine l_end ?_ | refine l_nil ?_
    repeat refine c_seq ?_
    refine c_yes rfl ?_
    repeat refine c_seq ?_
    refine c_region ?_
    refine l_op (o_val (r_as) ?_)
    first | refine l_end ?_ | refine l_nil ?_
    refine c_ret ?_
    try dsimp only [Exit.then, Exit.inBlock]
    refine e_ret1 (v := VI 8) Try.results35 rfl ?_
    refine ⟨_, rfl, ?_⟩
    obtain ⟨e1, e2⟩ := dFlush_dead (show mayE z.off z.ls.length 0 = 0 by omega) (by omega)
    rw [e1, e2]
    exact ⟨rfl, { z with off := true }, rfl, ⟨hz.n, hz.hl, hz.hF, hz.hM, hz.hw, hz.armed, hz.part, hz.way, hz.fl⟩, fun _ h => h, H.sub (.cons_cons _ (.cons_cons _ (.cons_cons _ (.cons_cons _ (List.Sublist.refl _)))))⟩
   ·
    refine l_op (o_callR Try.func58 rfl rfl rfl (dgo1_ret _ _ z.ls.length z.c1 z.fl.length z.fc (hd (some z.a1)) (hd z.fa) (some z.mb) z.off z.armed z.part z.way z.writes z.lives (of_decide_eq_false (decide_eq_false hc2)) (by omega) (H.has _ (List.mem_of_getElem? (i := 0) rfl))) ?_)
    rintro _ w ⟨rfl, Hc⟩
    replace H := (H.callA (i := 0) rfl rfl rfl Hc)
    clear Hc
    replace H : Hp _ w _ (Ch.blk db ([.slice (hd (some z.a1)) z.ls.length z.c1, .map (some z.mb), .bool z.off, VI (dDec z.armed), VI z.part, VI z.way, .slice (hd z.fa) z.fl.length z.fc, VI z.writes, VI z.lives]) 86 :: Ch.own (some z.a1) z.ls.length z.c1 ((z.ls).flatMap slE) 57 1 :: Ch.obj z.mb (mobj kI z.M z.mc) :: Ch.own z.fa z.fl.length z.fc ((z.fl).map V8) 5 1 :: z.T) := H
    refine l_op (o_val (r_not rfl) ?_)
    first | refine l_end ?_ | refine l_nil ?_
    repeat refine c_seq ?_
    refine c_no rfl ?_
    refine c_skip ?_
    repeat refine c_seq ?_
    refine c_region ?_
    refine l_op (o_val (r_mv) ?_)
    refine l_op (o_val (r_nilc rfl) ?_)
    refine l_op (o_val (r_fa rfl fo86_1) ?_)
    refine l_op (o_val (r_ld (v := .map (some z.mb)) H (i := 0) rfl rfl ct84 rfl) ?_)
    refine l_op (o_range (kv := kI) H (i := 2) rfl Try.underlying84 rfl (fun b3 w H hb3 => ?_))
    replace H := H.rot
    replace H : Hp _ w _ (Ch.obj b3 (itO z.mb z.M z.mc ([])) :: Ch.blk db ([.slice (hd (some z.a1)) z.ls.length z.c1, .map (some z.mb), .bool z.off, VI (dDec z.armed), VI z.part, VI z.way, .slice (hd z.fa) z.fl.length z.fc, VI z.writes, VI z.lives]) 86 :: Ch.own (some z.a1) z.ls.length z.c1 ((z.ls).flatMap slE) 57 1 :: Ch.obj z.mb (mobj kI z.M z.mc) :: Ch.own z.fa z.fl.length z.fc ((z.fl).map V8) 5 1 :: z.T) := H
    first | refine l_end ?_ | refine l_nil ?_
    repeat refine c_seq ?_
    refine c_block ?_
    repeat refine c_seq ?_
    refine c_loop (fun (vis : List Int) => [(0, .pointer (some ⟨db, 0, none⟩)), (18, .pointer (some ⟨b3, 0, none⟩))])
      (fun (vis : List Int) w => (vis.Nodup ∧ ∀ k ∈ vis, (z.F k).isSome = true) ∧ Hp w0 w (keys (kch db z)) (Ch.obj b3 (itO z.mb z.M z.mc vis) :: Ch.blk db ([.slice (hd (some z.a1)) z.ls.length z.c1, .map (some z.mb), .bool z.off, VI (dDec z.armed), VI z.part, VI z.way, .slice (hd z.fa) z.fl.length z.fc, VI z.writes, VI z.lives]) 86 :: Ch.own (some z.a1) z.ls.length z.c1 ((flu z.F vis z.ls).flatMap slE) 57 1 :: Ch.obj z.mb (mobj kI z.M z.mc) :: Ch.own z.fa z.fl.length z.fc ((z.fl).map V8) 5 1 :: z.T))
      (fun (vis : List Int) => z.M.length - vis.length) ([]) ⟨rfl, rfl, trivial⟩ ⟨⟨List.nodup_nil, fun _ h => by cases h⟩, (by rw [flu_nil]; exact H)⟩ ?_
    clear H
    rintro vis τ w ⟨⟨hvn, hv⟩, H⟩
    have hvl0 := vis_le hz.hF hvn hv
    have hfln := flu_len z.F vis z.ls
    repeat refine c_seq ?_
    refine c_region ?_
    refine l_op (o_next (kv := kI) (enc := Sl.v) H (i := 3) (j := 0) rfl rfl hz.hM hz.hF hv rfl (fun hall4 w H => ?_) (fun kk5 va6 hkf7 hkn8 w H => ?_))
    ·
     refine l_op (o_val (r_ext rfl rfl) ?_)
     first | refine l_end ?_ | refine l_nil ?_
     repeat refine c_seq ?_
     refine c_no rfl ?_
     refine c_exit ?_
     repeat refine c_seq ?_
     refine c_region ?_
     refine l_op (o_val (r_mv) ?_)
     refine l_op (o_val (r_nilc rfl) ?_)
     refine l_op (o_val (r_fa rfl fo86_1) ?_)
     refine l_op (o_val (r_ld (v := .map (some z.mb)) H (i := 1) rfl rfl ct84 rfl) ?_)
     refine l_op (o_mclear (kv := kI) H (i := 3) rfl Try.underlying84 rfl (fun w H => ?_))
     replace H : Hp _ w _ (Ch.obj b3 (itO z.mb z.M z.mc vis) :: Ch.blk db ([.slice (hd (some z.a1)) z.ls.length z.c1, .map (some z.mb), .bool z.off, VI (dDec z.armed), VI z.part, VI z.way, .slice (hd z.fa) z.fl.length z.fc, VI z.writes, VI z.lives]) 86 :: Ch.own (some z.a1) z.ls.length z.c1 ((flu z.F vis z.ls).flatMap slE) 57 1 :: Ch.obj z.mb (mobj kI ([] : List (Int × Value × Nat)) z.mc) :: Ch.own z.fa z.fl.length z.fc ((z.fl).map V8) 5 1 :: z.T) := H
     first | refine l_end ?_ | refine l_nil ?_
     repeat refine c_seq ?_
     refine c_region ?_
     refine l_op (o_val (r_as) ?_)
     first | refine l_end ?_ | refine l_nil ?_
     refine c_ret ?_
     try dsimp only [Exit.then, Exit.inBlock]
     refine e_ret1 (v := VI 0) Try.results35 rfl ?_
     refine ⟨_, rfl, ?_⟩
     obtain ⟨e1, e2⟩ := dFlush_goes hv hall4 (show mayE z.off z.ls.length 0 = 0 by omega) (by omega)
     rw [e1, e2]
     have H2 := H.sub (.cons _ (.cons_cons _ (.cons_cons _ (.cons_cons _ (.cons_cons _ (List.Sublist.refl _))))))
     have hfln := flu_len z.F vis z.ls
     rw [← hfln] at H2
     exact ⟨rfl, { z with armed := dDec z.armed, ls := flu z.F vis z.ls, M := [], F := fun _ => none }, rfl, ⟨by rw [hfln]; exact hz.n, flu_sec hz vis, MIs.nil, MOk.none _, fun i s h => (by cases h), dDec_bd hz.armed, hz.part, (by rw [hfln]; exact hz.way), hz.fl⟩, fun _ h => h, H2⟩
    ·
     replace H : Hp _ w _ (Ch.obj b3 (itO z.mb z.M z.mc (vis ++ [kk5])) :: Ch.blk db ([.slice (hd (some z.a1)) z.ls.length z.c1, .map (some z.mb), .bool z.off, VI (dDec z.armed), VI z.part, VI z.way, .slice (hd z.fa) z.fl.length z.fc, VI z.writes, VI z.lives]) 86 :: Ch.own (some z.a1) z.ls.length z.c1 ((flu z.F vis z.ls).flatMap slE) 57 1 :: Ch.obj z.mb (mobj kI z.M z.mc) :: Ch.own z.fa z.fl.length z.fc ((z.fl).map V8) 5 1 :: z.T) := H
     refine l_op (o_val (r_ext rfl rfl) ?_)
     first | refine l_end ?_ | refine l_nil ?_
     repeat refine c_seq ?_
     refine c_yes rfl ?_
     refine c_skip ?_
     repeat refine c_seq ?_
     refine c_block ?_
     repeat refine c_seq ?_
     refine c_region ?_
     refine l_op (o_val (r_entry (kv := kI) (enc := Sl.v) H (i := 3) (j := 0) rfl rfl hz.hM hz.hF hkf7 rfl) ?_)
     refine l_op (o_val (r_ext rfl rfl) ?_)
     refine l_op (o_val (r_ext rfl rfl) ?_)
     refine l_op (o_val (r_as) ?_)
     refine l_op (o_val (r_as) ?_)
     first | refine l_end ?_ | refine l_nil ?_
     have hkb := hz.hw _ _ hkf7
     repeat refine c_seq ?_
     refine c_region ?_
     refine l_op (o_val (r_mv) ?_)
     refine l_op (o_val (r_nilc rfl) ?_)
     refine l_op (o_val (r_fa rfl fo86_0) ?_)
     refine l_op (o_val (r_ld (v := .slice (hd (some z.a1)) z.ls.length z.c1) H (i := 1) rfl rfl ct83 rfl) ?_)
     refine l_op (o_val (r_mv) ?_)
     refine l_op (o_val (r_mv) ?_)
     have ah10 := H.ownAddr (i := 2) rfl (by omega)
     obtain ⟨ab9, ah10⟩ := ah10
     refine l_op (o_val (r_isN ((kk5).toNat) rfl rfl el83 ah10 (by omega) (by (try simp only [Sl.cut]); omega)) ?_)
     have he12 : ∃ c, (flu z.F vis z.ls)[(kk5).toNat]? = some c := ⟨_, List.getElem?_eq_getElem (by have := ((H.glOwn (i := 2) rfl (by decide) (fun _ _ => rfl))).ln; (try dsimp only at this ⊢); omega)⟩
     obtain ⟨e11, he12⟩ := he12
     refine l_op (o_stGV (enc := slE) (off := 0) (V := ([va6.v] : List Value)) (k := (kk5).toNat) va6 H (i := 2) rfl (fun _ _ => rfl) rfl ah10 rfl (by rfl) cs57 (by rfl) (by simp [Value.oneCell', Sl.v]) he12 (show Cut3 (slE e11) [] (slE e11) [] 0 1 from ⟨rfl, rfl, rfl⟩) rfl (fun w H => ?_))
     replace H : Hp _ w _ (Ch.obj b3 (itO z.mb z.M z.mc (vis ++ [kk5])) :: Ch.blk db ([.slice (hd (some z.a1)) z.ls.length z.c1, .map (some z.mb), .bool z.off, VI (dDec z.armed), VI z.part, VI z.way, .slice (hd z.fa) z.fl.length z.fc, VI z.writes, VI z.lives]) 86 :: Ch.own (some z.a1) z.ls.length z.c1 (((flu z.F vis z.ls).set ((kk5).toNat) va6).flatMap slE) 57 1 :: Ch.obj z.mb (mobj kI z.M z.mc) :: Ch.own z.fa z.fl.length z.fc ((z.fl).map V8) 5 1 :: z.T) := H
     first | refine l_end ?_ | refine l_nil ?_
     have hfs : (z.F kk5).getD nilS = va6 := by rw [hkf7]; rfl
     have hsn := flu_snoc (F := z.F) (vis := vis) (ls := z.ls) (hz.hw _ _ hkf7).1
     rw [hfs] at hsn
     rw [hsn] at H
     have hvs := vis_snoc hvn hv hkf7 hkn8
     have hvl := vis_le hz.hF hvs.1 hvs.2
     rw [List.length_append, List.length_singleton] at hvl
     refine round_end (vis ++ [kk5]) ?_ ?_ ?_
     · exact ⟨rfl, rfl, trivial⟩
     · refine ⟨?_, ?_⟩
       · try dsimp only
         exact hvs
       · exact H.sub (.cons_cons _ (.cons_cons _ (.cons_cons _ (.cons_cons _ (.cons_cons _ (List.Sublist.refl _))))))
     · show z.M.length - (vis ++ [kk5]).length < z.M.length - vis.length; rw [List.length_append, List.length_singleton]; omega
theorem dpower_ret (w0 : World) (db : Nat) (z : DW) (hO : Own w0 (kch db z)) (hz : z.ok) (ks : Gl Bool) (hks : ks.ok boolE 1 w0) (hap : ks.l ≠ [] → Apart ks.a (keys (kch db z))) (hlv : 0 ≤ z.lives ∧ z.lives ≤ 4611686018427387904) :
    Ret Try.prog 37 [.pointer (some ⟨db, 0, none⟩), ks.v] w0 fun v w' => v = .tuple #[] ∧ DLeft w0 w' db z (dPower z.abs ks.l) := by
  refine ret_mk Try.func37 rfl Try.ntmps37 (by simp) ?_
  have H : Hp w0 w0 (keys (kch db z)) (Ch.blk db ([.slice (hd (some z.a1)) z.ls.length z.c1, .map (some z.mb), .bool z.off, VI z.armed, VI z.part, VI z.way, .slice (hd z.fa) z.fl.length z.fc, VI z.writes, VI z.lives]) 86 :: Ch.own (some z.a1) z.ls.length z.c1 ((z.ls).flatMap slE) 57 1 :: Ch.obj z.mb (mobj kI z.M z.mc) :: Ch.own z.fa z.fl.length z.fc ((z.fl).map V8) 5 1 :: z.T) := hO.start
  have hzn := hz.n
  have hza := hz.armed
  have hzp := hz.part
  have hzw := hz.way
  have hzf := hz.fl
  have hzl := z.alen
  have hmL : maxLen = 9223372036854775807 := rfl
  have hkl := hks.ln
  have hke := hks.le
  have hkx := hks.mx
  have hwl := dWait_len hz
  repeat refine c_seq ?_
  refine c_region ?_
  refine l_op (o_val (r_mv) ?_)
  refine l_op (o_callR Try.func30 rfl rfl rfl (dlen_ret _ _ z.ls.length z.c1 z.fl.length z.fc (hd (some z.a1)) (hd z.fa) (some z.mb) z.off z.armed z.part z.way z.writes z.lives (H.has _ (List.mem_of_getElem? (i := 0) rfl))) ?_)
  rintro _ w ⟨rfl, Hc⟩
  replace H := (H.callA (i := 0) rfl rfl rfl Hc)
  clear Hc
  replace H : Hp _ w _ (Ch.blk db ([.slice (hd (some z.a1)) z.ls.length z.c1, .map (some z.mb), .bool z.off, VI z.armed, VI z.part, VI z.way, .slice (hd z.fa) z.fl.length z.fc, VI z.writes, VI z.lives]) 86 :: Ch.own (some z.a1) z.ls.length z.c1 ((z.ls).flatMap slE) 57 1 :: Ch.obj z.mb (mobj kI z.M z.mc) :: Ch.own z.fa z.fl.length z.fc ((z.fl).map V8) 5 1 :: z.T) := H
  refine l_op (o_val (r_bin (a := (z.ls.length : Int)) (b := 0) rfl rfl (fun _ => b_eqlB false (decide_eq_false (by omega)))) ?_)
  first | refine l_end ?_ | refine l_nil ?_
  repeat refine c_seq ?_
  refine c_no rfl ?_
  refine c_skip ?_
  repeat refine c_seq ?_
  refine c_region ?_
  refine l_op (o_val (r_mv) ?_)
  refine l_op (o_callR Try.func33 rfl rfl rfl (dwaiting_ret _ db z (H.ownT (L := [.blk db ([.slice (hd (some z.a1)) z.ls.length z.c1, .map (some z.mb), .bool z.off, VI z.armed, VI z.part, VI z.way, .slice (hd z.fa) z.fl.length z.fc, VI z.writes, VI z.lives]) 86, .own (some z.a1) z.ls.length z.c1 ((z.ls).flatMap slE) 57 1, .obj z.mb (mobj kI z.M z.mc), .own z.fa z.fl.length z.fc ((z.fl).map V8) 5 1]) (L1 := [.blk db ([.slice (hd (some z.a1)) z.ls.length z.c1, .map (some z.mb), .bool z.off, VI z.armed, VI z.part, VI z.way, .slice (hd z.fa) z.fl.length z.fc, VI z.writes, VI z.lives]) 86, .own (some z.a1) z.ls.length z.c1 ((z.ls).flatMap slE) 57 1, .obj z.mb (mobj kI z.M z.mc), .own z.fa z.fl.length z.fc ((z.fl).map V8) 5 1]) (Lr := ([] : List Ch)) (T := z.T) (.refl _)) hz) ?_)
  rintro _ w ⟨a1, c2, rfl, Hc⟩
  replace H := H.callT (L1' := [.own a1 ((dWaiting z.abs).length) c2 ((dWaiting z.abs).flatMap intE) 3 1, .blk db ([.slice (hd (some z.a1)) z.ls.length z.c1, .map (some z.mb), .bool z.off, VI z.armed, VI z.part, VI z.way, .slice (hd z.fa) z.fl.length z.fc, VI z.writes, VI z.lives]) 86, .own (some z.a1) z.ls.length z.c1 ((z.ls).flatMap slE) 57 1, .obj z.mb (mobj kI z.M z.mc), .own z.fa z.fl.length z.fc ((z.fl).map V8) 5 1]) (T' := z.T) (L := [.blk db ([.slice (hd (some z.a1)) z.ls.length z.c1, .map (some z.mb), .bool z.off, VI z.armed, VI z.part, VI z.way, .slice (hd z.fa) z.fl.length z.fc, VI z.writes, VI z.lives]) 86, .own (some z.a1) z.ls.length z.c1 ((z.ls).flatMap slE) 57 1, .obj z.mb (mobj kI z.M z.mc), .own z.fa z.fl.length z.fc ((z.fl).map V8) 5 1]) (L1 := [.blk db ([.slice (hd (some z.a1)) z.ls.length z.c1, .map (some z.mb), .bool z.off, VI z.armed, VI z.part, VI z.way, .slice (hd z.fa) z.fl.length z.fc, VI z.writes, VI z.lives]) 86, .own (some z.a1) z.ls.length z.c1 ((z.ls).flatMap slE) 57 1, .obj z.mb (mobj kI z.M z.mc), .own z.fa z.fl.length z.fc ((z.fl).map V8) 5 1]) (Lr := ([] : List Ch)) (T := z.T) (.refl _) Hc (.refl _)
  clear Hc
  replace H : Hp _ w _ (Ch.own a1 ((dWaiting z.abs).length) c2 ((dWaiting z.abs).flatMap intE) 3 1 :: Ch.blk db ([.slice (hd (some z.a1)) z.ls.length z.c1, .map (some z.mb), .bool z.off, VI z.armed, VI z.part, VI z.way, .slice (hd z.fa) z.fl.length z.fc, VI z.writes, VI z.lives]) 86 :: Ch.own (some z.a1) z.ls.length z.c1 ((z.ls).flatMap slE) 57 1 :: Ch.obj z.mb (mobj kI z.M z.mc) :: Ch.own z.fa z.fl.length z.fc ((z.fl).map V8) 5 1 :: z.T) := H
  refine l_op (o_val (r_lens el62 rfl) ?_)
  refine l_op (o_val (r_mv) ?_)
  first | refine l_end ?_ | refine l_nil ?_
  repeat refine c_seq ?_
  refine c_block ?_
  repeat refine c_seq ?_
  refine c_loop (fun (i : Nat) => [(0, .pointer (some ⟨db, 0, none⟩)), (1, ks.v), (11, .slice (hd a1) ((dWaiting z.abs).length) c2), (12, VI (((dWaiting z.abs).length : Nat) : Int)), (13, VI (i : Int))])
    (fun (i : Nat) w => (i ≤ (dWaiting z.abs).length) ∧ Hp w0 w (keys (kch db z)) (Ch.own a1 ((dWaiting z.abs).length) c2 ((dWaiting z.abs).flatMap intE) 3 1 :: Ch.blk db ([.slice (hd (some z.a1)) z.ls.length z.c1, .map (some z.mb), .bool z.off, VI z.armed, VI z.part, VI z.way, .slice (hd z.fa) z.fl.length z.fc, VI z.writes, VI z.lives]) 86 :: Ch.own (some z.a1) z.ls.length z.c1 ((flu z.F (kp ((dWaiting z.abs).take i) ks.l) z.ls).flatMap slE) 57 1 :: Ch.obj z.mb (mobj kI z.M z.mc) :: Ch.own z.fa z.fl.length z.fc ((z.fl).map V8) 5 1 :: z.T))
    (fun (i : Nat) => (dWaiting z.abs).length - i) 0 ⟨rfl, rfl, rfl, rfl, rfl, trivial⟩ ⟨(Nat.zero_le _), (by rw [show kp ((dWaiting z.abs).take 0) ks.l = [] from by rw [List.take_zero]; rfl, flu_nil]; exact H)⟩ ?_
  clear H
  rintro i τ w ⟨hi, H⟩
  have hfln := flu_len z.F (kp ((dWaiting z.abs).take i) ks.l) z.ls
  repeat refine c_seq ?_
  refine c_region ?_
  refine l_op (o_val (r_bin (a := (i : Int)) (b := (((dWaiting z.abs).length : Nat) : Int)) rfl rfl (fun _ => b_lss)) ?_)
  first | refine l_end ?_ | refine l_nil ?_
  by_cases hc3 : (i : Int) < (((dWaiting z.abs).length : Nat) : Int)
  ·
   repeat refine c_seq ?_
   refine c_yes (by exact congrArg Value.bool (decide_eq_true hc3)) ?_
   refine c_skip ?_
   repeat refine c_seq ?_
   refine c_block ?_
   repeat refine c_seq ?_
   refine c_region ?_
   refine l_op (o_val (r_mv) ?_)
   have ah5 := H.ownAddr (i := 0) rfl (by omega)
   obtain ⟨ab4, ah5⟩ := ah5
   refine l_op (o_val (r_isN i rfl rfl el62 ah5 (by omega) (by (try simp only [Sl.cut]); omega)) ?_)
   have he7 : ∃ c, (dWaiting z.abs)[i]? = some c := ⟨_, List.getElem?_eq_getElem (by have := ((H.glOwn (i := 0) rfl (by decide) (fun _ _ => rfl))).ln; (try dsimp only at this ⊢); omega)⟩
   obtain ⟨e6, he7⟩ := he7
   have hez8 := ((H.glOwn (i := 0) rfl (by decide) (fun _ _ => rfl))).sz e6 (List.mem_of_getElem? he7)
   refine l_op (o_val (r_gc (v := VI e6) (s := (⟨hd a1, (dWaiting z.abs).length, c2, dWaiting z.abs⟩ : Gl Int)) (j := i) (H.glOwn (i := 0) rfl (by decide) (fun _ _ => rfl)) ah5 rfl ct3 he7 rfl) ?_)
   refine l_op (o_val (r_as) ?_)
   refine l_op (o_val (r_as) ?_)
   first | refine l_end ?_ | refine l_nil ?_
   repeat refine c_seq ?_
   refine c_region ?_
   refine l_op (o_val (r_mv) ?_)
   refine l_op (o_val (r_mv) ?_)
   refine l_op (o_val (r_lens el68 rfl) ?_)
   refine l_op (o_val (r_bin (a := (i : Int)) (b := (ks.len : Int)) rfl rfl (fun _ => b_lss)) ?_)
   refine l_op (o_val (r_mv) ?_)
   by_cases hc9 : (i : Int) < (ks.len : Int)
   ·
    refine l_yes rfl rfl (by exact congrArg Value.bool (decide_eq_true hc9)) (o_val (r_mv) ?_)
    refine l_yes rfl rfl (by exact congrArg Value.bool (decide_eq_true hc9)) (o_val (r_mv) ?_)
    have ah12 := ((hks.upA H hap)).addr (by decide) (by first | omega | (dsimp only; omega))
    obtain ⟨ab10, ao11, ah12⟩ := ah12
    refine l_yes rfl rfl (by exact congrArg Value.bool (decide_eq_true hc9)) (o_val (r_isN i rfl rfl el68 ah12 (by omega) (by (try simp only [Sl.cut]); omega)) ?_)
    have he14 : ∃ c, ks.l[i]? = some c := ⟨_, List.getElem?_eq_getElem (by have := ((hks.upA H hap)).ln; (try dsimp only at this ⊢); omega)⟩
    obtain ⟨e13, he14⟩ := he14
    have hez15 := ((hks.upA H hap)).sz e13 (List.mem_of_getElem? he14)
    refine l_yes rfl rfl (by exact congrArg Value.bool (decide_eq_true hc9)) (o_val (r_gc (v := .bool e13) (s := ks) (j := i) (hks.upA H hap) ah12 rfl ct4 he14 rfl) ?_)
    refine l_op (o_val (r_pick (b := true) (congrArg Value.bool (decide_eq_true hc9))) ?_)
    first | refine l_end ?_ | refine l_nil ?_
    have hc160 := Bool.eq_false_or_eq_true (e13)
    rcases hc160 with hc16 | hc16
    ·
     repeat refine c_seq ?_
     refine c_yes (by exact congrArg Value.bool hc16) ?_
     have hkb := dWait_get hz he7
     have hkl2 := hfln
     repeat refine c_seq ?_
     refine wp_held (fun w => Hp w0 w (keys (kch db z)) [.own a1 ((dWaiting z.abs).length) c2 ((dWaiting z.abs).flatMap intE) 3 1, .blk db ([.slice (hd (some z.a1)) z.ls.length z.c1, .map (some z.mb), .bool z.off, VI z.armed, VI z.part, VI z.way, .slice (hd z.fa) z.fl.length z.fc, VI z.writes, VI z.lives]) 86, .obj z.mb (mobj kI z.M z.mc), .own z.fa z.fl.length z.fc ((z.fl).map V8) 5 1]) mixed ?_
     replace H := H.drew
     have HS := H.sub (.cons_cons _ (.cons_cons _ (.cons _ (.cons_cons _ (.cons_cons _ (List.nil_sublist _))))))
     refine t_take 0 rfl (by kernel_rfl) (by kernel_rfl) (by kernel_rfl) (fun _ _ _ h => h) (fun w HS => r_mv) HS ?_
     refine t_take 1 rfl (by kernel_rfl) (by kernel_rfl) (by kernel_rfl) (fun _ _ _ h => h) (fun w HS => r_nilc rfl) HS ?_
     refine t_take 2 rfl (by kernel_rfl) (by kernel_rfl) (by kernel_rfl) (fun _ _ _ h => h) (fun w HS => r_fa rfl fo86_0) HS ?_
     refine t_take 3 rfl (by kernel_rfl) (by kernel_rfl) (by kernel_rfl) (fun _ _ _ h => h) (fun w HS => r_ld (v := .slice (hd (some z.a1)) z.ls.length z.c1) HS (i := 1) rfl rfl ct83 rfl) HS ?_
     refine t_take 4 rfl (by kernel_rfl) (by kernel_rfl) (by kernel_rfl) (fun _ _ _ h => h) (fun w HS => r_mv) HS ?_
     refine t_take 5 rfl (by kernel_rfl) (by kernel_rfl) (by kernel_rfl) (fun _ _ _ h => h) (fun w HS => r_mv) HS ?_
     refine t_take 6 rfl (by kernel_rfl) (by kernel_rfl) (by kernel_rfl) (fun _ _ _ h => h) (fun w HS => r_nilc rfl) HS ?_
     refine t_take 7 rfl (by kernel_rfl) (by kernel_rfl) (by kernel_rfl) (fun _ _ _ h => h) (fun w HS => r_fa rfl fo86_1) HS ?_
     refine t_take 8 rfl (by kernel_rfl) (by kernel_rfl) (by kernel_rfl) (fun _ _ _ h => h) (fun w HS => r_ld (v := .map (some z.mb)) HS (i := 1) rfl rfl ct84 rfl) HS ?_
     refine t_take 9 rfl (by kernel_rfl) (by kernel_rfl) (by kernel_rfl) (fun _ _ _ h => h) (fun w HS => r_mv) HS ?_
     refine t_take 10 rfl (by kernel_rfl) (by kernel_rfl) (by kernel_rfl) (fun _ _ _ h => h) (fun w HS => r_lookF (k := e6) nilS hz.hF HS (i := 2) rfl Try.underlying84 (keyI (by kernel_rfl)) zv_sl rfl rfl) HS ?_
     have ah18 := H.ownAddr (i := 2) rfl (by omega)
     obtain ⟨ab17, ah18⟩ := ah18
     refine t_step 11 rfl (by kernel_rfl) (o_val (r_isN ((e6).toNat) rfl rfl el83 ah18 (by omega) (by (try simp only [Sl.cut]); omega)) ?_)
     refine ⟨H.sub (.cons_cons _ (.cons_cons _ (.cons _ (.cons_cons _ (.cons_cons _ (List.nil_sublist _)))))), ?_⟩
     replace HS := H.sub (.cons_cons _ (.cons_cons _ (.cons _ (.cons_cons _ (.cons_cons _ (List.nil_sublist _))))))
     have he20 : ∃ c, (flu z.F (kp ((dWaiting z.abs).take i) ks.l) z.ls)[(e6).toNat]? = some c := ⟨_, List.getElem?_eq_getElem (by have := ((H.glOwn (i := 2) rfl (by decide) (fun _ _ => rfl))).ln; (try dsimp only at this ⊢); omega)⟩
     obtain ⟨e19, he20⟩ := he20
     refine t_step 12 rfl (by kernel_rfl) (o_stGV (enc := slE) (off := 0) (V := ([((z.F e6).getD nilS).v] : List Value)) (k := (e6).toNat) ((z.F e6).getD nilS) H (i := 2) rfl (fun _ _ => rfl) rfl ah18 rfl (by rfl) cs57 (by rfl) (by simp [Value.oneCell', Sl.v]) he20 (show Cut3 (slE e19) [] (slE e19) [] 0 1 from ⟨rfl, rfl, rfl⟩) rfl (fun w H => ?_))
     replace H : Hp _ w _ (Ch.own a1 ((dWaiting z.abs).length) c2 ((dWaiting z.abs).flatMap intE) 3 1 :: Ch.blk db ([.slice (hd (some z.a1)) z.ls.length z.c1, .map (some z.mb), .bool z.off, VI z.armed, VI z.part, VI z.way, .slice (hd z.fa) z.fl.length z.fc, VI z.writes, VI z.lives]) 86 :: Ch.own (some z.a1) z.ls.length z.c1 (((flu z.F (kp ((dWaiting z.abs).take i) ks.l) z.ls).set ((e6).toNat) ((z.F e6).getD nilS)).flatMap slE) 57 1 :: Ch.obj z.mb (mobj kI z.M z.mc) :: Ch.own z.fa z.fl.length z.fc ((z.fl).map V8) 5 1 :: z.T) := H
     refine ⟨H.sub (.cons_cons _ (.cons_cons _ (.cons _ (.cons_cons _ (.cons_cons _ (List.nil_sublist _)))))), ?_⟩
     replace HS := H.sub (.cons_cons _ (.cons_cons _ (.cons _ (.cons_cons _ (.cons_cons _ (List.nil_sublist _))))))
     refine t_done (by kernel_rfl) ?_
     clear HS
     repeat refine c_seq ?_
     refine c_region ?_
     refine l_op (o_val (r_bin (a := (i : Int)) (b := 1) rfl rfl (fun _ => b_add (by omega) (by omega))) ?_)
     refine l_op (o_val (r_mv) ?_)
     first | refine l_end ?_ | refine l_nil ?_
     have hkt := kp_take (ks := ks.l) he7
     rw [if_pos (show ks.l[i]? = some true by rw [he14, hc16])] at hkt
     have hsn := flu_snoc (F := z.F) (vis := kp ((dWaiting z.abs).take i) ks.l) (ls := z.ls) (dWait_get hz he7).1
     rw [hsn, ← hkt] at H
     refine round_end (i + 1) ?_ ?_ ?_
     · exact ⟨rfl, rfl, rfl, rfl, show VI ((i : Int) + 1) = VI ((i + 1 : Nat) : Int) from congrArg VI (by omega), trivial⟩
     · refine ⟨?_, ?_⟩
       · try dsimp only
         exact by omega
       · exact H.sub (.cons_cons _ (.cons_cons _ (.cons_cons _ (.cons_cons _ (.cons_cons _ (List.Sublist.refl _))))))
     · show (dWaiting z.abs).length - (i + 1 : Nat) < (dWaiting z.abs).length - i; omega
    ·
     repeat refine c_seq ?_
     refine c_no (by exact congrArg Value.bool hc16) ?_
     refine c_skip ?_
     repeat refine c_seq ?_
     refine c_region ?_
     refine l_op (o_val (r_bin (a := (i : Int)) (b := 1) rfl rfl (fun _ => b_add (by omega) (by omega))) ?_)
     refine l_op (o_val (r_mv) ?_)
     first | refine l_end ?_ | refine l_nil ?_
     have hkt := kp_take (ks := ks.l) he7
     rw [if_neg (show ¬ ks.l[i]? = some true from by rw [he14, hc16]; simp), List.append_nil] at hkt
     rw [← hkt] at H
     refine round_end (i + 1) ?_ ?_ ?_
     · exact ⟨rfl, rfl, rfl, rfl, show VI ((i : Int) + 1) = VI ((i + 1 : Nat) : Int) from congrArg VI (by omega), trivial⟩
     · refine ⟨?_, ?_⟩
       · try dsimp only
         exact by omega
       · exact H.sub (.cons_cons _ (.cons_cons _ (.cons_cons _ (.cons_cons _ (.cons_cons _ (List.Sublist.refl _))))))
     · show (dWaiting z.abs).length - (i + 1 : Nat) < (dWaiting z.abs).length - i; omega
   ·
    refine l_no rfl rfl (by exact congrArg Value.bool (decide_eq_false hc9)) rfl ?_
    refine l_no rfl rfl (by exact congrArg Value.bool (decide_eq_false hc9)) rfl ?_
    refine l_no rfl rfl (by exact congrArg Value.bool (decide_eq_false hc9)) rfl ?_
    refine l_no rfl rfl (by exact congrArg Value.bool (decide_eq_false hc9)) rfl ?_
    refine l_op (o_val (r_pick (b := false) (congrArg Value.bool (decide_eq_false hc9))) ?_)
    first | refine l_end ?_ | refine l_nil ?_
    repeat refine c_seq ?_
    refine c_no rfl ?_
    refine c_skip ?_
    repeat refine c_seq ?_
    refine c_region ?_
    refine l_op (o_val (r_bin (a := (i : Int)) (b := 1) rfl rfl (fun _ => b_add (by omega) (by omega))) ?_)
    refine l_op (o_val (r_mv) ?_)
    first | refine l_end ?_ | refine l_nil ?_
    have hkt := kp_take (ks := ks.l) he7
    rw [if_neg (show ¬ ks.l[i]? = some true from by rw [List.getElem?_eq_none (by omega)]; simp), List.append_nil] at hkt
    rw [← hkt] at H
    refine round_end (i + 1) ?_ ?_ ?_
    · exact ⟨rfl, rfl, rfl, rfl, show VI ((i : Int) + 1) = VI ((i + 1 : Nat) : Int) from congrArg VI (by omega), trivial⟩
    · refine ⟨?_, ?_⟩
      · try dsimp only
        exact by omega
      · exact H.sub (.cons_cons _ (.cons_cons _ (.cons_cons _ (.cons_cons _ (.cons_cons _ (List.Sublist.refl _))))))
    · show (dWaiting z.abs).length - (i + 1 : Nat) < (dWaiting z.abs).length - i; omega
  ·
   repeat refine c_seq ?_
   refine c_no (by exact congrArg Value.bool (decide_eq_false hc3)) ?_
   refine c_exit ?_
   rw [show i = (dWaiting z.abs).length by omega, List.take_length] at H
   replace H : Hp _ w _ (Ch.own a1 ((dWaiting z.abs).length) c2 ((dWaiting z.abs).flatMap intE) 3 1 :: Ch.blk db ([.slice (hd (some z.a1)) z.ls.length z.c1, .map (some z.mb), .bool z.off, VI z.armed, VI z.part, VI z.way, .slice (hd z.fa) z.fl.length z.fc, VI z.writes, VI z.lives]) 86 :: Ch.own (some z.a1) z.ls.length z.c1 ((flu z.F (kp (dWaiting z.abs) ks.l) z.ls).flatMap slE) 57 1 :: Ch.obj z.mb (mobj kI z.M z.mc) :: Ch.own z.fa z.fl.length z.fc ((z.fl).map V8) 5 1 :: z.T) := H
   have hfle := flu_len z.F (kp (dWaiting z.abs) ks.l) z.ls
   have hls := flu_sec hz (kp (dWaiting z.abs) ks.l)
   repeat refine c_seq ?_
   refine c_region ?_
   refine l_op (o_val (r_mv) ?_)
   refine l_op (o_val (r_nilc rfl) ?_)
   refine l_op (o_val (r_fa rfl fo86_5) ?_)
   refine l_op (o_val (r_ld (v := VI z.way) H (i := 1) rfl rfl ct3 rfl) ?_)
   refine l_op (o_val (r_bin (a := z.way) (b := 0) rfl rfl (fun _ => b_geq)) ?_)
   first | refine l_end ?_ | refine l_nil ?_
   by_cases hc22 : 0 ≤ z.way
   ·
    repeat refine c_seq ?_
    refine c_yes (by exact congrArg Value.bool (decide_eq_true hc22)) ?_
    repeat refine c_seq ?_
    refine wp_held (fun w => Hp w0 w (keys (kch db z)) [.own a1 ((dWaiting z.abs).length) c2 ((dWaiting z.abs).flatMap intE) 3 1, .blk db ([.slice (hd (some z.a1)) z.ls.length z.c1, .map (some z.mb), .bool z.off, VI z.armed, VI z.part, VI z.way, .slice (hd z.fa) z.fl.length z.fc, VI z.writes, VI z.lives]) 86, .own (some z.a1) z.ls.length z.c1 ((flu z.F (kp (dWaiting z.abs) ks.l) z.ls).flatMap slE) 57 1, .obj z.mb (mobj kI z.M z.mc), .own z.fa z.fl.length z.fc ((z.fl).map V8) 5 1]) mixed ?_
    replace H := H.drew
    have HS := H.sub (.cons_cons _ (.cons_cons _ (.cons_cons _ (.cons_cons _ (.cons_cons _ (List.nil_sublist _))))))
    refine t_take 0 rfl (by kernel_rfl) (by kernel_rfl) (by kernel_rfl) (fun _ _ _ h => h) (fun w HS => r_mv) HS ?_
    refine t_take 1 rfl (by kernel_rfl) (by kernel_rfl) (by kernel_rfl) (fun _ _ _ h => h) (fun w HS => r_nilc rfl) HS ?_
    refine t_take 2 rfl (by kernel_rfl) (by kernel_rfl) (by kernel_rfl) (fun _ _ _ h => h) (fun w HS => r_fa rfl fo86_0) HS ?_
    refine t_take 3 rfl (by kernel_rfl) (by kernel_rfl) (by kernel_rfl) (fun _ _ _ h => h) (fun w HS => r_ld (v := .slice (hd (some z.a1)) z.ls.length z.c1) HS (i := 1) rfl rfl ct83 rfl) HS ?_
    refine t_take 4 rfl (by kernel_rfl) (by kernel_rfl) (by kernel_rfl) (fun _ _ _ h => h) (fun w HS => r_mv) HS ?_
    refine t_take 5 rfl (by kernel_rfl) (by kernel_rfl) (by kernel_rfl) (fun _ _ _ h => h) (fun w HS => r_nilc rfl) HS ?_
    refine t_take 6 rfl (by kernel_rfl) (by kernel_rfl) (by kernel_rfl) (fun _ _ _ h => h) (fun w HS => r_fa rfl fo86_5) HS ?_
    refine t_take 7 rfl (by kernel_rfl) (by kernel_rfl) (by kernel_rfl) (fun _ _ _ h => h) (fun w HS => r_ld (v := VI z.way) HS (i := 1) rfl rfl ct3 rfl) HS ?_
    have ah24 := HS.ownAddr (i := 2) rfl (by omega)
    obtain ⟨ab23, ah24⟩ := ah24
    refine t_take 8 rfl (by kernel_rfl) (by kernel_rfl) (by kernel_rfl) (fun _ _ _ h => h) (fun w HS => r_isN ((z.way).toNat) rfl rfl el83 ah24 (by omega) (by (try simp only [Sl.cut]); omega)) HS ?_
    have he26 : ∃ c, (flu z.F (kp (dWaiting z.abs) ks.l) z.ls)[(z.way).toNat]? = some c := ⟨_, List.getElem?_eq_getElem (by have := ((HS.glOwn (i := 2) rfl (by decide) (fun _ _ => rfl))).ln; (try dsimp only at this ⊢); omega)⟩
    obtain ⟨e25, he26⟩ := he26
    have hez27 := ((HS.glOwn (i := 2) rfl (by decide) (fun _ _ => rfl))).sz e25 (List.mem_of_getElem? he26)
    have hsc_e25 : Sec z.T e25 := hls _ (List.mem_of_getElem? he26)
    refine t_take 9 rfl (by kernel_rfl) (by kernel_rfl) (by kernel_rfl) (fun _ _ _ h => h) (fun w HS => r_gc (v := e25.v) (s := (⟨hd (some z.a1), z.ls.length, z.c1, flu z.F (kp (dWaiting z.abs) ks.l) z.ls⟩ : Gl Sl)) (j := (z.way).toNat) (HS.glOwn (i := 2) rfl (by decide) (fun _ _ => rfl)) ah24 rfl ct57 he26 rfl) HS ?_
    refine t_step 10 rfl (by kernel_rfl) (o_callR Try.func55 rfl rfl rfl (whole_ret _ e25 (sec_ok (T := z.T) H (by intro q hq; repeat (first | exact hq | apply List.mem_cons_of_mem)) hsc_e25)) ?_)
    rintro _ w ⟨sb28, rfl, Hc⟩
    replace H : Hp _ w _ (Ch.own (some sb28) 512 512 ((wh e25.l).map V8) 5 1 :: Ch.own a1 ((dWaiting z.abs).length) c2 ((dWaiting z.abs).flatMap intE) 3 1 :: Ch.blk db ([.slice (hd (some z.a1)) z.ls.length z.c1, .map (some z.mb), .bool z.off, VI z.armed, VI z.part, VI z.way, .slice (hd z.fa) z.fl.length z.fc, VI z.writes, VI z.lives]) 86 :: Ch.own (some z.a1) z.ls.length z.c1 ((flu z.F (kp (dWaiting z.abs) ks.l) z.ls).flatMap slE) 57 1 :: Ch.obj z.mb (mobj kI z.M z.mc) :: Ch.own z.fa z.fl.length z.fc ((z.fl).map V8) 5 1 :: z.T) := (H.call Hc).rot
    clear Hc
    refine ⟨H.sub (.cons _ (.cons_cons _ (.cons_cons _ (.cons_cons _ (.cons_cons _ (.cons_cons _ (List.nil_sublist _))))))), ?_⟩
    replace HS := H.sub (.cons _ (.cons_cons _ (.cons_cons _ (.cons_cons _ (.cons_cons _ (.cons_cons _ (List.nil_sublist _)))))))
    refine t_take 11 rfl (by kernel_rfl) (by kernel_rfl) (by kernel_rfl) (fun _ _ _ h => h) (fun w HS => r_as) HS ?_
    refine t_done (by kernel_rfl) ?_
    clear HS
    repeat refine c_seq ?_
    refine c_region ?_
    refine l_op (o_val (r_mv) ?_)
    refine l_op (o_val (r_mv) ?_)
    refine l_op (o_val (r_nilc rfl) ?_)
    refine l_op (o_val (r_fa rfl fo86_6) ?_)
    refine l_op (o_val (r_ld (v := .slice (hd z.fa) z.fl.length z.fc) H (i := 2) rfl rfl ct57 rfl) ?_)
    refine l_op (o_copyB (s := ⟨hd z.fa, z.fl.length, z.fc, z.fl⟩) H (i := 0) rfl Try.underlying57 Try.underlying57 cs5 rfl rfl (H.slOwn (i := 5) rfl) (by omega) (fun w H => ?_))
    replace H : Hp _ w _ (Ch.own (some sb28) 512 512 (((z.fl).take (min z.fl.length 512) ++ (wh e25.l).drop (min z.fl.length 512)).map V8) 5 1 :: Ch.own a1 ((dWaiting z.abs).length) c2 ((dWaiting z.abs).flatMap intE) 3 1 :: Ch.blk db ([.slice (hd (some z.a1)) z.ls.length z.c1, .map (some z.mb), .bool z.off, VI z.armed, VI z.part, VI z.way, .slice (hd z.fa) z.fl.length z.fc, VI z.writes, VI z.lives]) 86 :: Ch.own (some z.a1) z.ls.length z.c1 ((flu z.F (kp (dWaiting z.abs) ks.l) z.ls).flatMap slE) 57 1 :: Ch.obj z.mb (mobj kI z.M z.mc) :: Ch.own z.fa z.fl.length z.fc ((z.fl).map V8) 5 1 :: z.T) := H
    first | refine l_end ?_ | refine l_nil ?_
    repeat refine c_seq ?_
    refine wp_held (fun w => Hp w0 w (keys (kch db z)) [.own (some sb28) 512 512 (((z.fl).take (min z.fl.length 512) ++ (wh e25.l).drop (min z.fl.length 512)).map V8) 5 1, .own a1 ((dWaiting z.abs).length) c2 ((dWaiting z.abs).flatMap intE) 3 1, .blk db ([.slice (hd (some z.a1)) z.ls.length z.c1, .map (some z.mb), .bool z.off, VI z.armed, VI z.part, VI z.way, .slice (hd z.fa) z.fl.length z.fc, VI z.writes, VI z.lives]) 86, .obj z.mb (mobj kI z.M z.mc), .own z.fa z.fl.length z.fc ((z.fl).map V8) 5 1]) mixed ?_
    replace H := H.drew
    have HS := H.sub (.cons_cons _ (.cons_cons _ (.cons_cons _ (.cons _ (.cons_cons _ (.cons_cons _ (List.nil_sublist _)))))))
    refine t_take 0 rfl (by kernel_rfl) (by kernel_rfl) (by kernel_rfl) (fun _ _ _ h => h) (fun w HS => r_mv) HS ?_
    refine t_take 1 rfl (by kernel_rfl) (by kernel_rfl) (by kernel_rfl) (fun _ _ _ h => h) (fun w HS => r_nilc rfl) HS ?_
    refine t_take 2 rfl (by kernel_rfl) (by kernel_rfl) (by kernel_rfl) (fun _ _ _ h => h) (fun w HS => r_fa rfl fo86_0) HS ?_
    refine t_take 3 rfl (by kernel_rfl) (by kernel_rfl) (by kernel_rfl) (fun _ _ _ h => h) (fun w HS => r_ld (v := .slice (hd (some z.a1)) z.ls.length z.c1) HS (i := 2) rfl rfl ct83 rfl) HS ?_
    refine t_take 4 rfl (by kernel_rfl) (by kernel_rfl) (by kernel_rfl) (fun _ _ _ h => h) (fun w HS => r_mv) HS ?_
    refine t_take 5 rfl (by kernel_rfl) (by kernel_rfl) (by kernel_rfl) (fun _ _ _ h => h) (fun w HS => r_nilc rfl) HS ?_
    refine t_take 6 rfl (by kernel_rfl) (by kernel_rfl) (by kernel_rfl) (fun _ _ _ h => h) (fun w HS => r_fa rfl fo86_5) HS ?_
    refine t_take 7 rfl (by kernel_rfl) (by kernel_rfl) (by kernel_rfl) (fun _ _ _ h => h) (fun w HS => r_ld (v := VI z.way) HS (i := 2) rfl rfl ct3 rfl) HS ?_
    refine t_take 8 rfl (by kernel_rfl) (by kernel_rfl) (by kernel_rfl) (fun _ _ _ h => h) (fun w HS => r_mv) HS ?_
    refine t_take 9 rfl (by kernel_rfl) (by kernel_rfl) (by kernel_rfl) (fun _ _ _ h => h) (fun w HS => r_isN ((z.way).toNat) rfl rfl el83 ah24 (by omega) (by (try simp only [Sl.cut]); omega)) HS ?_
    refine t_step 10 rfl (by kernel_rfl) (o_stGV (enc := slE) (off := 0) (V := ([.slice (hd (some sb28)) 512 512] : List Value)) (k := (z.way).toNat) (⟨hd (some sb28), 512, 512, (z.fl).take (min z.fl.length 512) ++ (wh e25.l).drop (min z.fl.length 512)⟩) H (i := 3) rfl (fun _ _ => rfl) rfl ah24 rfl (by rfl) cs57 (by rfl) (by simp [Value.oneCell']) he26 (show Cut3 (slE e25) [] (slE e25) [] 0 1 from ⟨rfl, rfl, rfl⟩) rfl (fun w H => ?_))
    replace H : Hp _ w _ (Ch.own (some sb28) 512 512 (((z.fl).take (min z.fl.length 512) ++ (wh e25.l).drop (min z.fl.length 512)).map V8) 5 1 :: Ch.own a1 ((dWaiting z.abs).length) c2 ((dWaiting z.abs).flatMap intE) 3 1 :: Ch.blk db ([.slice (hd (some z.a1)) z.ls.length z.c1, .map (some z.mb), .bool z.off, VI z.armed, VI z.part, VI z.way, .slice (hd z.fa) z.fl.length z.fc, VI z.writes, VI z.lives]) 86 :: Ch.own (some z.a1) z.ls.length z.c1 (((flu z.F (kp (dWaiting z.abs) ks.l) z.ls).set ((z.way).toNat) (⟨hd (some sb28), 512, 512, (z.fl).take (min z.fl.length 512) ++ (wh e25.l).drop (min z.fl.length 512)⟩)).flatMap slE) 57 1 :: Ch.obj z.mb (mobj kI z.M z.mc) :: Ch.own z.fa z.fl.length z.fc ((z.fl).map V8) 5 1 :: z.T) := H
    refine ⟨H.sub (.cons_cons _ (.cons_cons _ (.cons_cons _ (.cons _ (.cons_cons _ (.cons_cons _ (List.nil_sublist _))))))), ?_⟩
    replace HS := H.sub (.cons_cons _ (.cons_cons _ (.cons_cons _ (.cons _ (.cons_cons _ (.cons_cons _ (List.nil_sublist _)))))))
    refine t_done (by kernel_rfl) ?_
    clear HS
    repeat refine c_seq ?_
    refine c_region ?_
    refine l_op (o_val (r_mv) ?_)
    refine l_op (o_val (r_nilc rfl) ?_)
    refine l_op (o_val (r_fa rfl fo86_1) ?_)
    refine l_op (o_val (r_ld (v := .map (some z.mb)) H (i := 2) rfl rfl ct84 rfl) ?_)
    refine l_op (o_mclear (kv := kI) H (i := 4) rfl Try.underlying84 rfl (fun w H => ?_))
    replace H : Hp _ w _ (Ch.own (some sb28) 512 512 (((z.fl).take (min z.fl.length 512) ++ (wh e25.l).drop (min z.fl.length 512)).map V8) 5 1 :: Ch.own a1 ((dWaiting z.abs).length) c2 ((dWaiting z.abs).flatMap intE) 3 1 :: Ch.blk db ([.slice (hd (some z.a1)) z.ls.length z.c1, .map (some z.mb), .bool z.off, VI z.armed, VI z.part, VI z.way, .slice (hd z.fa) z.fl.length z.fc, VI z.writes, VI z.lives]) 86 :: Ch.own (some z.a1) z.ls.length z.c1 (((flu z.F (kp (dWaiting z.abs) ks.l) z.ls).set ((z.way).toNat) (⟨hd (some sb28), 512, 512, (z.fl).take (min z.fl.length 512) ++ (wh e25.l).drop (min z.fl.length 512)⟩)).flatMap slE) 57 1 :: Ch.obj z.mb (mobj kI ([] : List (Int × Value × Nat)) z.mc) :: Ch.own z.fa z.fl.length z.fc ((z.fl).map V8) 5 1 :: z.T) := H
    first | refine l_end ?_ | refine l_nil ?_
    repeat refine c_seq ?_
    refine c_region ?_
    refine l_op (o_val (r_mv) ?_)
    refine l_op (o_val (r_mv) ?_)
    refine l_op (o_val (r_mv) ?_)
    refine l_op (o_val (r_mv) ?_)
    refine l_op (o_val (r_nilc rfl) ?_)
    refine l_op (o_val (r_fa rfl fo86_2) ?_)
    refine l_op (o_st (v := .bool false) H (i := 2) rfl rfl rfl cs4 rfl (by simp only [List.length_cons, List.length_nil]; omega) (fun w H => ?_))
    replace H : Hp _ w _ (Ch.own (some sb28) 512 512 (((z.fl).take (min z.fl.length 512) ++ (wh e25.l).drop (min z.fl.length 512)).map V8) 5 1 :: Ch.own a1 ((dWaiting z.abs).length) c2 ((dWaiting z.abs).flatMap intE) 3 1 :: Ch.blk db ([.slice (hd (some z.a1)) z.ls.length z.c1, .map (some z.mb), .bool false, VI z.armed, VI z.part, VI z.way, .slice (hd z.fa) z.fl.length z.fc, VI z.writes, VI z.lives]) 86 :: Ch.own (some z.a1) z.ls.length z.c1 (((flu z.F (kp (dWaiting z.abs) ks.l) z.ls).set ((z.way).toNat) (⟨hd (some sb28), 512, 512, (z.fl).take (min z.fl.length 512) ++ (wh e25.l).drop (min z.fl.length 512)⟩)).flatMap slE) 57 1 :: Ch.obj z.mb (mobj kI ([] : List (Int × Value × Nat)) z.mc) :: Ch.own z.fa z.fl.length z.fc ((z.fl).map V8) 5 1 :: z.T) := H
    refine l_op (o_val (r_nilc rfl) ?_)
    refine l_op (o_val (r_fa rfl fo86_3) ?_)
    refine l_op (o_st (v := VI (-1)) H (i := 2) rfl rfl rfl cs3 rfl (by simp only [List.length_cons, List.length_nil]; omega) (fun w H => ?_))
    replace H : Hp _ w _ (Ch.own (some sb28) 512 512 (((z.fl).take (min z.fl.length 512) ++ (wh e25.l).drop (min z.fl.length 512)).map V8) 5 1 :: Ch.own a1 ((dWaiting z.abs).length) c2 ((dWaiting z.abs).flatMap intE) 3 1 :: Ch.blk db ([.slice (hd (some z.a1)) z.ls.length z.c1, .map (some z.mb), .bool false, VI (-1), VI z.part, VI z.way, .slice (hd z.fa) z.fl.length z.fc, VI z.writes, VI z.lives]) 86 :: Ch.own (some z.a1) z.ls.length z.c1 (((flu z.F (kp (dWaiting z.abs) ks.l) z.ls).set ((z.way).toNat) (⟨hd (some sb28), 512, 512, (z.fl).take (min z.fl.length 512) ++ (wh e25.l).drop (min z.fl.length 512)⟩)).flatMap slE) 57 1 :: Ch.obj z.mb (mobj kI ([] : List (Int × Value × Nat)) z.mc) :: Ch.own z.fa z.fl.length z.fc ((z.fl).map V8) 5 1 :: z.T) := H
    refine l_op (o_val (r_nilc rfl) ?_)
    refine l_op (o_val (r_fa rfl fo86_5) ?_)
    refine l_op (o_st (v := VI (-1)) H (i := 2) rfl rfl rfl cs3 rfl (by simp only [List.length_cons, List.length_nil]; omega) (fun w H => ?_))
    replace H : Hp _ w _ (Ch.own (some sb28) 512 512 (((z.fl).take (min z.fl.length 512) ++ (wh e25.l).drop (min z.fl.length 512)).map V8) 5 1 :: Ch.own a1 ((dWaiting z.abs).length) c2 ((dWaiting z.abs).flatMap intE) 3 1 :: Ch.blk db ([.slice (hd (some z.a1)) z.ls.length z.c1, .map (some z.mb), .bool false, VI (-1), VI z.part, VI (-1), .slice (hd z.fa) z.fl.length z.fc, VI z.writes, VI z.lives]) 86 :: Ch.own (some z.a1) z.ls.length z.c1 (((flu z.F (kp (dWaiting z.abs) ks.l) z.ls).set ((z.way).toNat) (⟨hd (some sb28), 512, 512, (z.fl).take (min z.fl.length 512) ++ (wh e25.l).drop (min z.fl.length 512)⟩)).flatMap slE) 57 1 :: Ch.obj z.mb (mobj kI ([] : List (Int × Value × Nat)) z.mc) :: Ch.own z.fa z.fl.length z.fc ((z.fl).map V8) 5 1 :: z.T) := H
    refine l_op (o_val (r_nilc rfl) ?_)
    refine l_op (o_val (r_fa rfl fo86_6) ?_)
    refine l_op (o_st (v := .slice none 0 0) H (i := 2) rfl rfl rfl cs57 rfl (by simp only [List.length_cons, List.length_nil]; omega) (fun w H => ?_))
    replace H : Hp _ w _ (Ch.own (some sb28) 512 512 (((z.fl).take (min z.fl.length 512) ++ (wh e25.l).drop (min z.fl.length 512)).map V8) 5 1 :: Ch.own a1 ((dWaiting z.abs).length) c2 ((dWaiting z.abs).flatMap intE) 3 1 :: Ch.blk db ([.slice (hd (some z.a1)) z.ls.length z.c1, .map (some z.mb), .bool false, VI (-1), VI z.part, VI (-1), .slice none 0 0, VI z.writes, VI z.lives]) 86 :: Ch.own (some z.a1) z.ls.length z.c1 (((flu z.F (kp (dWaiting z.abs) ks.l) z.ls).set ((z.way).toNat) (⟨hd (some sb28), 512, 512, (z.fl).take (min z.fl.length 512) ++ (wh e25.l).drop (min z.fl.length 512)⟩)).flatMap slE) 57 1 :: Ch.obj z.mb (mobj kI ([] : List (Int × Value × Nat)) z.mc) :: Ch.own z.fa z.fl.length z.fc ((z.fl).map V8) 5 1 :: z.T) := H
    first | refine l_end ?_ | refine l_nil ?_
    repeat refine c_seq ?_
    refine c_region ?_
    refine l_op (o_val (r_mv) ?_)
    refine l_op (o_val (r_nilc rfl) ?_)
    refine l_op (o_val (r_fa rfl fo86_8) ?_)
    refine l_op (o_val (r_ld (v := VI z.lives) H (i := 2) rfl rfl ct3 rfl) ?_)
    refine l_op (o_val (r_bin (a := z.lives) (b := 1) rfl rfl (fun _ => b_add (by omega) (by omega))) ?_)
    refine l_op (o_val (r_nilc rfl) ?_)
    refine l_op (o_val (r_fa rfl fo86_8) ?_)
    refine l_op (o_st (v := VI (z.lives + 1)) H (i := 2) rfl rfl rfl cs3 rfl (by simp only [List.length_cons, List.length_nil]; omega) (fun w H => ?_))
    replace H : Hp _ w _ (Ch.own (some sb28) 512 512 (((z.fl).take (min z.fl.length 512) ++ (wh e25.l).drop (min z.fl.length 512)).map V8) 5 1 :: Ch.own a1 ((dWaiting z.abs).length) c2 ((dWaiting z.abs).flatMap intE) 3 1 :: Ch.blk db ([.slice (hd (some z.a1)) z.ls.length z.c1, .map (some z.mb), .bool false, VI (-1), VI z.part, VI (-1), .slice none 0 0, VI z.writes, VI (z.lives + 1)]) 86 :: Ch.own (some z.a1) z.ls.length z.c1 (((flu z.F (kp (dWaiting z.abs) ks.l) z.ls).set ((z.way).toNat) (⟨hd (some sb28), 512, 512, (z.fl).take (min z.fl.length 512) ++ (wh e25.l).drop (min z.fl.length 512)⟩)).flatMap slE) 57 1 :: Ch.obj z.mb (mobj kI ([] : List (Int × Value × Nat)) z.mc) :: Ch.own z.fa z.fl.length z.fc ((z.fl).map V8) 5 1 :: z.T) := H
    first | refine l_end ?_ | refine l_nil ?_
    try simp only []
    refine e_norm ?_
    refine e_ret0 Try.results37 ?_
    refine ⟨_, rfl, ?_⟩
    replace H := H.nilOwn 5 1
    have H2 := (Hp.permT (L := [.own none 0 0 ((([] : List UInt8)).map V8) 5 1, .own (some sb28) 512 512 (((z.fl).take (min z.fl.length 512) ++ (wh e25.l).drop (min z.fl.length 512)).map V8) 5 1, .own a1 ((dWaiting z.abs).length) c2 ((dWaiting z.abs).flatMap intE) 3 1, .blk db ([.slice (hd (some z.a1)) z.ls.length z.c1, .map (some z.mb), .bool false, VI (-1), VI z.part, VI (-1), .slice none 0 0, VI z.writes, VI (z.lives + 1)]) 86, .own (some z.a1) z.ls.length z.c1 (((flu z.F (kp (dWaiting z.abs) ks.l) z.ls).set ((z.way).toNat) (⟨hd (some sb28), 512, 512, (z.fl).take (min z.fl.length 512) ++ (wh e25.l).drop (min z.fl.length 512)⟩)).flatMap slE) 57 1, .obj z.mb (mobj kI ([] : List (Int × Value × Nat)) z.mc), .own z.fa z.fl.length z.fc ((z.fl).map V8) 5 1]) (T := z.T) H ((perm_front (j := 3) rfl).trans (.cons _ ((perm_front (j := 3) rfl).trans (.cons _ ((perm_front (j := 3) rfl).trans (.cons _ (.refl _)))))))).sub (.cons_cons _ (.cons_cons _ (.cons_cons _ (.cons_cons _ (.cons_cons _ (.cons _ (.cons _ ((List.Sublist.refl _)))))))))
    obtain ⟨q, hq⟩ : ∃ q, q = (z.fl).take (min z.fl.length 512) ++ (wh e25.l).drop (min z.fl.length 512) := ⟨_, rfl⟩
    rw [← hq] at H2
    obtain ⟨e1, hql⟩ := dPow_way hz (by omega) he26 hq sb28
    have hsl : ((flu z.F (kp (dWaiting z.abs) ks.l) z.ls).set z.way.toNat (⟨hd (some sb28), 512, 512, q⟩ : Sl)).length = z.ls.length := by rw [List.length_set, hfle]
    rw [← hsl] at H2
    have hmono : ∀ c ∈ z.T, c ∈ (.own (some sb28) 512 512 (q.map V8) 5 1 :: z.T) := fun c hc => List.mem_cons_of_mem _ hc
    refine ⟨rfl, { z with ls := (flu z.F (kp (dWaiting z.abs) ks.l) z.ls).set z.way.toNat (⟨hd (some sb28), 512, 512, q⟩ : Sl), M := [], F := fun _ => none, off := false, armed := -1, way := -1, fa := none, fc := 0, fl := [], lives := z.lives + 1, T := .own (some sb28) 512 512 (q.map V8) 5 1 :: z.T }, ?_, ⟨by rw [hsl]; exact hz.n, fun s hs => ?_, MIs.nil, MOk.none _, fun i s h => (by cases h), (by simp), hz.part, (by show (-1 : Int) ≤ -1 ∧ (-1 : Int) < _; omega), (by simp)⟩, hmono, H2⟩
    · show (⟨_, _, _, _, _, _, _, _, _⟩ : DD) = _
      rw [e1]; rfl
    · rcases List.mem_or_eq_of_mem_set hs with h | h
      · exact sec_mono hmono (hls s h)
      · rw [h]; exact .inr ⟨_, rfl, hql, List.mem_cons_self ..⟩
   ·
    repeat refine c_seq ?_
    refine c_no (by exact congrArg Value.bool (decide_eq_false hc22)) ?_
    refine c_skip ?_
    repeat refine c_seq ?_
    refine c_region ?_
    refine l_op (o_val (r_mv) ?_)
    refine l_op (o_val (r_nilc rfl) ?_)
    refine l_op (o_val (r_fa rfl fo86_1) ?_)
    refine l_op (o_val (r_ld (v := .map (some z.mb)) H (i := 1) rfl rfl ct84 rfl) ?_)
    refine l_op (o_mclear (kv := kI) H (i := 3) rfl Try.underlying84 rfl (fun w H => ?_))
    replace H : Hp _ w _ (Ch.own a1 ((dWaiting z.abs).length) c2 ((dWaiting z.abs).flatMap intE) 3 1 :: Ch.blk db ([.slice (hd (some z.a1)) z.ls.length z.c1, .map (some z.mb), .bool z.off, VI z.armed, VI z.part, VI z.way, .slice (hd z.fa) z.fl.length z.fc, VI z.writes, VI z.lives]) 86 :: Ch.own (some z.a1) z.ls.length z.c1 ((flu z.F (kp (dWaiting z.abs) ks.l) z.ls).flatMap slE) 57 1 :: Ch.obj z.mb (mobj kI ([] : List (Int × Value × Nat)) z.mc) :: Ch.own z.fa z.fl.length z.fc ((z.fl).map V8) 5 1 :: z.T) := H
    first | refine l_end ?_ | refine l_nil ?_
    repeat refine c_seq ?_
    refine c_region ?_
    refine l_op (o_val (r_mv) ?_)
    refine l_op (o_val (r_mv) ?_)
    refine l_op (o_val (r_mv) ?_)
    refine l_op (o_val (r_mv) ?_)
    refine l_op (o_val (r_nilc rfl) ?_)
    refine l_op (o_val (r_fa rfl fo86_2) ?_)
    refine l_op (o_st (v := .bool false) H (i := 1) rfl rfl rfl cs4 rfl (by simp only [List.length_cons, List.length_nil]; omega) (fun w H => ?_))
    replace H : Hp _ w _ (Ch.own a1 ((dWaiting z.abs).length) c2 ((dWaiting z.abs).flatMap intE) 3 1 :: Ch.blk db ([.slice (hd (some z.a1)) z.ls.length z.c1, .map (some z.mb), .bool false, VI z.armed, VI z.part, VI z.way, .slice (hd z.fa) z.fl.length z.fc, VI z.writes, VI z.lives]) 86 :: Ch.own (some z.a1) z.ls.length z.c1 ((flu z.F (kp (dWaiting z.abs) ks.l) z.ls).flatMap slE) 57 1 :: Ch.obj z.mb (mobj kI ([] : List (Int × Value × Nat)) z.mc) :: Ch.own z.fa z.fl.length z.fc ((z.fl).map V8) 5 1 :: z.T) := H
    refine l_op (o_val (r_nilc rfl) ?_)
    refine l_op (o_val (r_fa rfl fo86_3) ?_)
    refine l_op (o_st (v := VI (-1)) H (i := 1) rfl rfl rfl cs3 rfl (by simp only [List.length_cons, List.length_nil]; omega) (fun w H => ?_))
    replace H : Hp _ w _ (Ch.own a1 ((dWaiting z.abs).length) c2 ((dWaiting z.abs).flatMap intE) 3 1 :: Ch.blk db ([.slice (hd (some z.a1)) z.ls.length z.c1, .map (some z.mb), .bool false, VI (-1), VI z.part, VI z.way, .slice (hd z.fa) z.fl.length z.fc, VI z.writes, VI z.lives]) 86 :: Ch.own (some z.a1) z.ls.length z.c1 ((flu z.F (kp (dWaiting z.abs) ks.l) z.ls).flatMap slE) 57 1 :: Ch.obj z.mb (mobj kI ([] : List (Int × Value × Nat)) z.mc) :: Ch.own z.fa z.fl.length z.fc ((z.fl).map V8) 5 1 :: z.T) := H
    refine l_op (o_val (r_nilc rfl) ?_)
    refine l_op (o_val (r_fa rfl fo86_5) ?_)
    refine l_op (o_st (v := VI (-1)) H (i := 1) rfl rfl rfl cs3 rfl (by simp only [List.length_cons, List.length_nil]; omega) (fun w H => ?_))
    replace H : Hp _ w _ (Ch.own a1 ((dWaiting z.abs).length) c2 ((dWaiting z.abs).flatMap intE) 3 1 :: Ch.blk db ([.slice (hd (some z.a1)) z.ls.length z.c1, .map (some z.mb), .bool false, VI (-1), VI z.part, VI (-1), .slice (hd z.fa) z.fl.length z.fc, VI z.writes, VI z.lives]) 86 :: Ch.own (some z.a1) z.ls.length z.c1 ((flu z.F (kp (dWaiting z.abs) ks.l) z.ls).flatMap slE) 57 1 :: Ch.obj z.mb (mobj kI ([] : List (Int × Value × Nat)) z.mc) :: Ch.own z.fa z.fl.length z.fc ((z.fl).map V8) 5 1 :: z.T) := H
    refine l_op (o_val (r_nilc rfl) ?_)
    refine l_op (o_val (r_fa rfl fo86_6) ?_)
    refine l_op (o_st (v := .slice none 0 0) H (i := 1) rfl rfl rfl cs57 rfl (by simp only [List.length_cons, List.length_nil]; omega) (fun w H => ?_))
    replace H : Hp _ w _ (Ch.own a1 ((dWaiting z.abs).length) c2 ((dWaiting z.abs).flatMap intE) 3 1 :: Ch.blk db ([.slice (hd (some z.a1)) z.ls.length z.c1, .map (some z.mb), .bool false, VI (-1), VI z.part, VI (-1), .slice none 0 0, VI z.writes, VI z.lives]) 86 :: Ch.own (some z.a1) z.ls.length z.c1 ((flu z.F (kp (dWaiting z.abs) ks.l) z.ls).flatMap slE) 57 1 :: Ch.obj z.mb (mobj kI ([] : List (Int × Value × Nat)) z.mc) :: Ch.own z.fa z.fl.length z.fc ((z.fl).map V8) 5 1 :: z.T) := H
    first | refine l_end ?_ | refine l_nil ?_
    repeat refine c_seq ?_
    refine c_region ?_
    refine l_op (o_val (r_mv) ?_)
    refine l_op (o_val (r_nilc rfl) ?_)
    refine l_op (o_val (r_fa rfl fo86_8) ?_)
    refine l_op (o_val (r_ld (v := VI z.lives) H (i := 1) rfl rfl ct3 rfl) ?_)
    refine l_op (o_val (r_bin (a := z.lives) (b := 1) rfl rfl (fun _ => b_add (by omega) (by omega))) ?_)
    refine l_op (o_val (r_nilc rfl) ?_)
    refine l_op (o_val (r_fa rfl fo86_8) ?_)
    refine l_op (o_st (v := VI (z.lives + 1)) H (i := 1) rfl rfl rfl cs3 rfl (by simp only [List.length_cons, List.length_nil]; omega) (fun w H => ?_))
    replace H : Hp _ w _ (Ch.own a1 ((dWaiting z.abs).length) c2 ((dWaiting z.abs).flatMap intE) 3 1 :: Ch.blk db ([.slice (hd (some z.a1)) z.ls.length z.c1, .map (some z.mb), .bool false, VI (-1), VI z.part, VI (-1), .slice none 0 0, VI z.writes, VI (z.lives + 1)]) 86 :: Ch.own (some z.a1) z.ls.length z.c1 ((flu z.F (kp (dWaiting z.abs) ks.l) z.ls).flatMap slE) 57 1 :: Ch.obj z.mb (mobj kI ([] : List (Int × Value × Nat)) z.mc) :: Ch.own z.fa z.fl.length z.fc ((z.fl).map V8) 5 1 :: z.T) := H
    first | refine l_end ?_ | refine l_nil ?_
    try simp only [Exit.then, Exit.inBlock, ↓reduceIte]
    refine e_norm ?_
    refine e_ret0 Try.results37 ?_
    refine ⟨_, rfl, ?_⟩
    replace H := H.nilOwn 5 1
    have H2 := (Hp.permT (L := [.own none 0 0 ((([] : List UInt8)).map V8) 5 1, .own a1 ((dWaiting z.abs).length) c2 ((dWaiting z.abs).flatMap intE) 3 1, .blk db ([.slice (hd (some z.a1)) z.ls.length z.c1, .map (some z.mb), .bool false, VI (-1), VI z.part, VI (-1), .slice none 0 0, VI z.writes, VI (z.lives + 1)]) 86, .own (some z.a1) z.ls.length z.c1 ((flu z.F (kp (dWaiting z.abs) ks.l) z.ls).flatMap slE) 57 1, .obj z.mb (mobj kI ([] : List (Int × Value × Nat)) z.mc), .own z.fa z.fl.length z.fc ((z.fl).map V8) 5 1]) (T := z.T) H ((perm_front (j := 2) rfl).trans (.cons _ ((perm_front (j := 2) rfl).trans (.cons _ ((perm_front (j := 2) rfl).trans (.cons _ (.refl _)))))))).sub (.cons_cons _ (.cons_cons _ (.cons_cons _ (.cons_cons _ (.cons _ (.cons _ ((List.Sublist.refl _))))))))
    rw [← hfle] at H2
    refine ⟨rfl, { z with ls := flu z.F (kp (dWaiting z.abs) ks.l) z.ls, M := [], F := fun _ => none, off := false, armed := -1, way := -1, fa := none, fc := 0, fl := [], lives := z.lives + 1 }, ?_, ⟨by rw [hfle]; exact hz.n, hls, MIs.nil, MOk.none _, fun i s h => (by cases h), (by simp), hz.part, (by show (-1 : Int) ≤ -1 ∧ (-1 : Int) < _; omega), (by simp)⟩, fun _ h => h, H2⟩
    show (⟨_, _, _, _, _, _, _, _, _⟩ : DD) = _
    rw [dPow_none hz (by omega)]; rfl
end Go.Proofs.Ytncmcgcilijfkaa
namespace Go.Proofs.Ytncmcgcilijfkaa
open Go
set_option maxRecDepth 100000
structure OpD where
  kind : Int
  i : Int
  part : Int
  b : Sl
  ks : Gl Bool
def opDE (x : OpD) : List Value := ([VI x.kind, VI x.i, VI x.part, x.b.v, x.ks.v] : List Value)
def OpD.ok (w : World) (c : OpD) : Prop := (-9223372036854775808 ≤ c.kind ∧ c.kind ≤ 9223372036854775807) ∧ (-9223372036854775808 ≤ c.i ∧ c.i ≤ 9223372036854775807) ∧ (-9223372036854775808 ≤ c.part ∧ c.part ≤ 9223372036854775807) ∧ c.b.ok w ∧ c.ks.ok boolE 1 w
theorem dPow_len (D : DD) (ks : List Bool) : (dPow D ks).length = D.last.length := by
  rw [dPow]; split
  · exact dLast_len _ _
  · rw [List.length_set]; exact dLast_len _ _
end Go.Proofs.Ytncmcgcilijfkaa
namespace Go.Proofs.Ytncmcgcilijfkaa
open Go Go.ChangeShapes Go.WideShapes Go.ChangeAt Go.RowKit Go.Deep Go.ChangeMaps
set_option maxRecDepth 100000
section
variable {H : Type} {enc : TypeId × Value → H} {W : World} {base : Nat} {spare : Nat → Bool} {held : Bool}
instance : Inhabited OpD := ⟨⟨0, 0, 0, ⟨none, 0, 0, []⟩, ⟨none, 0, 0, []⟩⟩⟩
theorem cellsOpD : Try.prog.cellsOf 70 = 5 := by kernel_rfl
theorem trod_boolv (fuel : Nat) (cs : List Value) (x : DataW H × List MemPlace) (h : DataW.trod enc Try.prog W base spare held fuel 4 cs = some x) : ∃ c : Bool, cs = boolE c ∧ (boolE c).length = 1 ∧ True := by
  obtain ⟨b, rfl, _⟩ := DataW.trod_bool (by kernel_rfl) h
  exact ⟨b, rfl, rfl, trivial⟩
theorem trod_opd (fuel : Nat) (cs : List Value) (x : DataW H × List MemPlace) (h : DataW.trod enc Try.prog W base (fun _ => true) held fuel 70 cs = some x) :
    ∃ c : OpD, cs = opDE c ∧ (opDE c).length = 5 ∧ c.ok W := by
  obtain ⟨xs, n, _, _, hl, hx, hi⟩ := DataW.trod_struct Try.underlying70 h
  have hs : ∀ i, i < 5 → ∃ y, xs[i]? = some y := fun i hi => ⟨_, List.getElem?_eq_getElem (by rw [hx]; exact hi)⟩
  obtain ⟨y0, e0⟩ := hs 0 (by decide)
  obtain ⟨y1, e1⟩ := hs 1 (by decide)
  obtain ⟨y2, e2⟩ := hs 2 (by decide)
  obtain ⟨y3, e3⟩ := hs 3 (by decide)
  obtain ⟨y4, e4⟩ := hs 4 (by decide)
  have h0 := (hi 0 _ rfl).trans e0
  have h1 := (hi 1 _ rfl).trans e1
  have h2 := (hi 2 _ rfl).trans e2
  have h3 := (hi 3 _ rfl).trans e3
  have h4 := (hi 4 _ rfl).trans e4
  have f3 : Try.prog.cellsOf 3 = 1 := by kernel_rfl
  have f4 : Try.prog.cellsOf 57 = 1 := by kernel_rfl
  have f5 : Try.prog.cellsOf 68 = 1 := by kernel_rfl
  rw [cellsOpD] at hl
  obtain ⟨a0, q0, _, w0⟩ := DataW.trod_int (t := 3) (k := .i64) (by kernel_rfl) h0
  obtain ⟨a1, q1, _, w1⟩ := DataW.trod_int (t := 3) (k := .i64) (by kernel_rfl) h1
  obtain ⟨a2, q2, _, w2⟩ := DataW.trod_int (t := 3) (k := .i64) (by kernel_rfl) h2
  obtain ⟨v3, hv3⟩ : ∃ v, (cs.drop 3).take 1 = [v] := by
    have hlen : ((cs.drop 3).take 1).length = 1 := by rw [List.length_take, List.length_drop]; omega
    exact List.length_eq_one_iff.1 hlen
  have q3 : (cs.drop 3).take (Try.prog.cellsOf 57) = [v3] := by rw [f4]; exact hv3
  obtain ⟨g, hg, hgok⟩ := open_sl (v := v3) rfl (by rw [← q3]; exact h3)
  obtain ⟨ks, hk, hkok, _⟩ := open_rowsP (p := fun _ => True) Try.underlying68 (by kernel_rfl) (by decide) trod_boolv h4
  replace q0 : (cs.drop 0).take (Try.prog.cellsOf 3) = _ := q0
  rw [f3] at q0
  replace q1 : (cs.drop 1).take (Try.prog.cellsOf 3) = _ := q1
  rw [f3] at q1
  replace q2 : (cs.drop 2).take (Try.prog.cellsOf 3) = _ := q2
  rw [f3] at q2
  replace hk : (cs.drop 4).take (Try.prog.cellsOf 68) = _ := hk
  rw [f5] at hk
  have s : ∀ k v, (cs.drop k).take 1 = [v] → cs.drop k = v :: cs.drop (k + 1) := fun k v h => by
    have := List.take_append_drop 1 (cs.drop k)
    rw [h, List.drop_drop] at this
    exact this.symm
  refine ⟨⟨a0, a1, a2, g, ks⟩, ?_, rfl, bounds_i64 w0, bounds_i64 w1, bounds_i64 w2, hgok, hkok⟩
  have z : cs.drop 0 = [VI a0, VI a1, VI a2, g.v, ks.v] := by
    rw [s 0 _ q0, s (0 + 1) _ q1, s (0 + 1 + 1) _ q2, s (0 + 1 + 1 + 1) _ hv3, s (0 + 1 + 1 + 1 + 1) _ hk, List.drop_of_length_le (by omega), hg]
  rw [List.drop_zero] at z
  exact z
theorem open_opds {base0 : Nat} {v : Value} {d : DataW H} {p : List MemPlace} (hval : Value.okWide Try.prog W .any base0 65 v) (h : DataW.Trod enc Try.prog W base (fun _ => true) held 65 v d p) :
    ∃ g : Gl OpD, v = g.v ∧ g.ok opDE 5 W ∧ ∀ c ∈ g.l, c.ok W := by
  obtain ⟨a, len, cap, rfl⟩ := okWide_slice Try.underlying65 hval
  obtain ⟨fuel, hf⟩ := h
  obtain ⟨g, hg, hok⟩ := open_rowsP Try.underlying65 cellsOpD (by decide) trod_opd hf
  refine ⟨g, ?_, hok⟩
  simpa [Value.cells] using hg
end
end Go.Proofs.Ytncmcgcilijfkaa
