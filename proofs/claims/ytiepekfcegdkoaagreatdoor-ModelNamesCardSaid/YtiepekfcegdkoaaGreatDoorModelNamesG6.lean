/- Lemmas for the statement ModelNames, part 6: rules of operations, walks through functions, plain laws. -/
import Derived.Test.YtiepekfcegdkoaaGreatDoorModelNamesG5
namespace Go.Proofs.YtiepekfcegdkoaaGreatDoor
open Go
set_option maxRecDepth 100000
structure Opr where
  do_ : Int
  tenant : List UInt8
  of : Id32
  number : Int
  until_ : Int
  rights : UInt8
  body : Sl
  token : Sl
  now : Int
  draw : Id32
def oprE (x : Opr) : List Value := ([VI x.do_, .string ⟨(x.tenant).toArray⟩] : List Value) ++ ((x.of.1).map V8 ++ (([VI x.number, VI x.until_, V8 x.rights, x.body.v, x.token.v, VI x.now] : List Value) ++ ((x.draw.1).map V8)))
theorem oprE_len (x : Opr) : (oprE x).length = 72 := by
  show (([VI x.do_, .string ⟨(x.tenant).toArray⟩] : List Value) ++ ((x.of.1).map V8 ++ (([VI x.number, VI x.until_, V8 x.rights, x.body.v, x.token.v, VI x.now] : List Value) ++ ((x.draw.1).map V8)))).length = 72
  exact (by simp only [List.length_append, List.length_map, List.length_cons, List.length_nil, (show (x.of.1).length = 32 from x.of.2), (show (x.draw.1).length = 32 from x.draw.2)])
theorem oprE_c0 (x : Opr) : Cut3 (oprE x) (([] : List Value)) (([VI x.do_] : List Value)) (([.string ⟨(x.tenant).toArray⟩] : List Value) ++ ((x.of.1).map V8 ++ (([VI x.number, VI x.until_, V8 x.rights, x.body.v, x.token.v, VI x.now] : List Value) ++ ((x.draw.1).map V8)))) 0 1 :=
  ⟨by simp only [oprE, List.cons_append, List.nil_append], (by rfl), (by rfl)⟩
theorem oprE_p0 (x : Opr) (v : Int) : Put3 (oprE x) (oprE ⟨v, x.tenant, x.of, x.number, x.until_, x.rights, x.body, x.token, x.now, x.draw⟩) (([VI x.do_] : List Value)) (([VI v] : List Value)) 0 1 :=
  .of (oprE_c0 x) (by simp only [oprE, List.cons_append, List.nil_append]) (by rfl)
theorem oprE_c1 (x : Opr) : Cut3 (oprE x) (([VI x.do_] : List Value)) (([.string ⟨(x.tenant).toArray⟩] : List Value)) ((x.of.1).map V8 ++ (([VI x.number, VI x.until_, V8 x.rights, x.body.v, x.token.v, VI x.now] : List Value) ++ ((x.draw.1).map V8))) 1 1 :=
  ⟨by simp only [oprE, List.cons_append, List.nil_append], (by rfl), (by rfl)⟩
theorem oprE_c2 (x : Opr) : Cut3 (oprE x) (([VI x.do_, .string ⟨(x.tenant).toArray⟩] : List Value)) ((x.of.1).map V8) (([VI x.number, VI x.until_, V8 x.rights, x.body.v, x.token.v, VI x.now] : List Value) ++ ((x.draw.1).map V8)) 2 32 :=
  ⟨by simp only [oprE, List.cons_append, List.nil_append], (by rfl), (by simp only [List.length_map, (show (x.of.1).length = 32 from x.of.2)])⟩
theorem oprE_c3 (x : Opr) : Cut3 (oprE x) (([VI x.do_, .string ⟨(x.tenant).toArray⟩] : List Value) ++ ((x.of.1).map V8)) (([VI x.number] : List Value)) (([VI x.until_, V8 x.rights, x.body.v, x.token.v, VI x.now] : List Value) ++ ((x.draw.1).map V8)) 34 1 :=
  ⟨by simp only [oprE, List.cons_append, List.nil_append], (by simp only [List.length_append, List.length_map, List.length_cons, List.length_nil, (show (x.of.1).length = 32 from x.of.2)]), (by rfl)⟩
theorem oprE_c4 (x : Opr) : Cut3 (oprE x) (([VI x.do_, .string ⟨(x.tenant).toArray⟩] : List Value) ++ ((x.of.1).map V8 ++ (([VI x.number] : List Value)))) (([VI x.until_] : List Value)) (([V8 x.rights, x.body.v, x.token.v, VI x.now] : List Value) ++ ((x.draw.1).map V8)) 35 1 :=
  ⟨by simp only [oprE, List.append_assoc, List.cons_append, List.nil_append], (by simp only [List.length_append, List.length_map, List.length_cons, List.length_nil, (show (x.of.1).length = 32 from x.of.2)]), (by rfl)⟩
theorem oprE_c5 (x : Opr) : Cut3 (oprE x) (([VI x.do_, .string ⟨(x.tenant).toArray⟩] : List Value) ++ ((x.of.1).map V8 ++ (([VI x.number, VI x.until_] : List Value)))) (([V8 x.rights] : List Value)) (([x.body.v, x.token.v, VI x.now] : List Value) ++ ((x.draw.1).map V8)) 36 1 :=
  ⟨by simp only [oprE, List.append_assoc, List.cons_append, List.nil_append], (by simp only [List.length_append, List.length_map, List.length_cons, List.length_nil, (show (x.of.1).length = 32 from x.of.2)]), (by rfl)⟩
theorem oprE_c6 (x : Opr) : Cut3 (oprE x) (([VI x.do_, .string ⟨(x.tenant).toArray⟩] : List Value) ++ ((x.of.1).map V8 ++ (([VI x.number, VI x.until_, V8 x.rights] : List Value)))) (([x.body.v] : List Value)) (([x.token.v, VI x.now] : List Value) ++ ((x.draw.1).map V8)) 37 1 :=
  ⟨by simp only [oprE, List.append_assoc, List.cons_append, List.nil_append], (by simp only [List.length_append, List.length_map, List.length_cons, List.length_nil, (show (x.of.1).length = 32 from x.of.2)]), (by rfl)⟩
theorem oprE_c7 (x : Opr) : Cut3 (oprE x) (([VI x.do_, .string ⟨(x.tenant).toArray⟩] : List Value) ++ ((x.of.1).map V8 ++ (([VI x.number, VI x.until_, V8 x.rights, x.body.v] : List Value)))) (([x.token.v] : List Value)) (([VI x.now] : List Value) ++ ((x.draw.1).map V8)) 38 1 :=
  ⟨by simp only [oprE, List.append_assoc, List.cons_append, List.nil_append], (by simp only [List.length_append, List.length_map, List.length_cons, List.length_nil, (show (x.of.1).length = 32 from x.of.2)]), (by rfl)⟩
theorem oprE_p7 (x : Opr) (v : Sl) : Put3 (oprE x) (oprE ⟨x.do_, x.tenant, x.of, x.number, x.until_, x.rights, x.body, v, x.now, x.draw⟩) (([x.token.v] : List Value)) (([v.v] : List Value)) 38 1 :=
  .of (oprE_c7 x) (by simp only [oprE, List.append_assoc, List.cons_append, List.nil_append]) (by rfl)
theorem oprE_c8 (x : Opr) : Cut3 (oprE x) (([VI x.do_, .string ⟨(x.tenant).toArray⟩] : List Value) ++ ((x.of.1).map V8 ++ (([VI x.number, VI x.until_, V8 x.rights, x.body.v, x.token.v] : List Value)))) (([VI x.now] : List Value)) ((x.draw.1).map V8) 39 1 :=
  ⟨by simp only [oprE, List.append_assoc, List.cons_append, List.nil_append], (by simp only [List.length_append, List.length_map, List.length_cons, List.length_nil, (show (x.of.1).length = 32 from x.of.2)]), (by rfl)⟩
structure Ans where
  status : Int
  body : Sl
def ansE (x : Ans) : List Value := ([VI x.status, x.body.v] : List Value)
theorem ansE_len (x : Ans) : (ansE x).length = 2 := by
  show (([VI x.status, x.body.v] : List Value)).length = 2
  exact (by rfl)
theorem ansE_all (x : Ans) : (ansE x).all (·.oneCell') = true := by
  show (([VI x.status, x.body.v] : List Value)).all (·.oneCell') = true
  simp only [List.all_cons, List.all_nil]; simp [Value.oneCell', Sl.v]
theorem ansE_c0 (x : Ans) : Cut3 (ansE x) (([] : List Value)) (([VI x.status] : List Value)) (([x.body.v] : List Value)) 0 1 :=
  ⟨by simp only [ansE, List.cons_append, List.nil_append], (by rfl), (by rfl)⟩
theorem ansE_p0 (x : Ans) (v : Int) : Put3 (ansE x) (ansE ⟨v, x.body⟩) (([VI x.status] : List Value)) (([VI v] : List Value)) 0 1 :=
  .of (ansE_c0 x) (by simp only [ansE, List.cons_append, List.nil_append]) (by rfl)
theorem ansE_c1 (x : Ans) : Cut3 (ansE x) (([VI x.status] : List Value)) (([x.body.v] : List Value)) (([] : List Value)) 1 1 :=
  ⟨by simp only [ansE, List.cons_append, List.nil_append, List.append_nil], (by rfl), (by rfl)⟩
theorem ansE_p1 (x : Ans) (v : Sl) : Put3 (ansE x) (ansE ⟨x.status, v⟩) (([x.body.v] : List Value)) (([v.v] : List Value)) 1 1 :=
  .of (ansE_c1 x) (by simp only [ansE, List.cons_append, List.nil_append, List.append_nil]) (by rfl)
structure Wrk where
  s : Option Nat
  o : Opr
  t : Option Nat
  serial : UInt64
def wrkE (x : Wrk) : List Value := ([.pointer (x.s.map fun b => ⟨b, 0, none⟩)] : List Value) ++ (oprE x.o ++ (([.pointer (x.t.map fun b => ⟨b, 0, none⟩), V64 x.serial] : List Value)))
theorem wrkE_c0 (x : Wrk) : Cut3 (wrkE x) (([] : List Value)) (([.pointer (x.s.map fun b => ⟨b, 0, none⟩)] : List Value)) (oprE x.o ++ (([.pointer (x.t.map fun b => ⟨b, 0, none⟩), V64 x.serial] : List Value))) 0 1 :=
  ⟨by simp only [wrkE, List.cons_append, List.nil_append], (by rfl), (by rfl)⟩
theorem wrkE_p0 (x : Wrk) (v : Option Nat) : Put3 (wrkE x) (wrkE ⟨v, x.o, x.t, x.serial⟩) (([.pointer (x.s.map fun b => ⟨b, 0, none⟩)] : List Value)) (([.pointer (v.map fun b => ⟨b, 0, none⟩)] : List Value)) 0 1 :=
  .of (wrkE_c0 x) (by simp only [wrkE, List.cons_append, List.nil_append]) (by rfl)
theorem wrkE_c1 (x : Wrk) : Cut3 (wrkE x) (([.pointer (x.s.map fun b => ⟨b, 0, none⟩)] : List Value)) (oprE x.o) (([.pointer (x.t.map fun b => ⟨b, 0, none⟩), V64 x.serial] : List Value)) 1 72 :=
  ⟨by simp only [wrkE, List.cons_append, List.nil_append], (by rfl), (by simp only [oprE_len])⟩
theorem wrkE_p1 (x : Wrk) (v : Opr) : Put3 (wrkE x) (wrkE ⟨x.s, v, x.t, x.serial⟩) (oprE x.o) (oprE v) 1 72 :=
  .of (wrkE_c1 x) (by simp only [wrkE, List.cons_append, List.nil_append]) (by simp only [oprE_len])
theorem wrkE_c3 (x : Wrk) : Cut3 (wrkE x) (([.pointer (x.s.map fun b => ⟨b, 0, none⟩)] : List Value) ++ (oprE x.o ++ (([.pointer (x.t.map fun b => ⟨b, 0, none⟩)] : List Value)))) (([V64 x.serial] : List Value)) (([] : List Value)) 74 1 :=
  ⟨by simp only [wrkE, List.append_assoc, List.cons_append, List.nil_append, List.append_nil], (by simp only [List.length_append, List.length_cons, List.length_nil, oprE_len]), (by rfl)⟩
theorem wrkE_p3 (x : Wrk) (v : UInt64) : Put3 (wrkE x) (wrkE ⟨x.s, x.o, x.t, v⟩) (([V64 x.serial] : List Value)) (([V64 v] : List Value)) 74 1 :=
  .of (wrkE_c3 x) (by simp only [wrkE, List.append_assoc, List.cons_append, List.nil_append, List.append_nil]) (by rfl)
theorem clone8_ret (w0 : World) (s : Sl) (hs : s.ok w0) (hn : s.a.isNone = false) (hm : s.len ≤ 1048576) :
    Ret Tryz.prog 57 [s.v] w0 fun v w' => ∃ a c, v = .slice (hd a) s.len c ∧ Hp w0 w' [] [.own a s.len c (s.l.map V8) 5 1] := by
  refine ret_mk Tryz.func57 rfl Tryz.ntmps57 (by simp) ?_
  have H := Hp.refl w0 []
  repeat refine c_seq ?_
  refine c_region ?_; refine l_op (o_val r_as ?_); first | refine l_end ?_ | refine l_nil ?_
  repeat refine c_seq ?_
  refine c_region ?_; refine l_op (o_val r_mv ?_); refine l_op (o_val (r_slnil Tryz.underlying24 (by kernel_rfl) rfl rfl) ?_); have hk1 : (s.a.isNone) = false := hn
  first | refine l_end ?_ | refine l_nil ?_
  repeat refine c_seq ?_
  refine c_no (by exact congrArg Value.bool hk1) ?_; refine c_skip ?_; repeat refine c_seq ?_
  refine c_region ?_; refine l_op (o_bslB (([] : List UInt8)) H sl24 zc5 rfl rfl (by decide) (fun b2 w H hb2 => ?_)); replace H : Hp _ w _ ([.own (some b2) 0 0 ((([] : List UInt8)).map V8) 5 1]) := H
  refine l_op (o_val r_mv ?_); refine l_op (o_appB (s := s) (l' := s.l) (len' := s.len) rfl (Nat.zero_add _) H (i := 0) rfl sl24 Tryz.underlying24 rfl rfl (hs.up H (fun _ => apart_nil _)) (by omega) (fun a3 c4 w H => ?_)); replace H : Hp _ w _ ([.own a3 s.len c4 ((s.l).map V8) 5 1]) := H
  refine l_op (o_val r_as ?_); first | refine l_end ?_ | refine l_nil ?_
  refine c_ret ?_; try dsimp only [Exit.then, Exit.inBlock]
  refine e_ret1 (v := .slice (hd a3) s.len c4) Tryz.results57 rfl ?_
  refine ⟨_, rfl, ?_⟩
  exact ⟨_, _, rfl, H⟩
theorem cln32_ret (w0 : World) :
    Ret Tryz.prog 32 [.slice none 0 0] w0 fun v w' => v = .slice none 0 0 ∧ Hp w0 w' [] [] := by
  refine ret_mk Tryz.func32 rfl Tryz.ntmps32 (by simp) ?_
  have H := Hp.refl w0 []
  repeat refine c_seq ?_
  refine c_region ?_; refine l_op (o_val r_as ?_); first | refine l_end ?_ | refine l_nil ?_
  repeat refine c_seq ?_
  refine c_region ?_; refine l_op (o_val r_mv ?_); refine l_op (o_val (r_slnil Tryz.underlying34 (by kernel_rfl) rfl rfl) ?_); first | refine l_end ?_ | refine l_nil ?_
  repeat refine c_seq ?_
  refine c_yes rfl ?_; repeat refine c_seq ?_
  refine c_region ?_; refine l_op (o_val r_as ?_); first | refine l_end ?_ | refine l_nil ?_
  refine c_ret ?_; try dsimp only [Exit.then, Exit.inBlock]
  refine e_ret1 (v := .slice none 0 0) Tryz.results32 rfl ?_
  refine ⟨_, rfl, ?_⟩
  exact ⟨rfl, H.sub (List.nil_sublist _)⟩
theorem cln33_ret (w0 : World) :
    Ret Tryz.prog 33 [.slice none 0 0] w0 fun v w' => v = .slice none 0 0 ∧ Hp w0 w' [] [] := by
  refine ret_mk Tryz.func33 rfl Tryz.ntmps33 (by simp) ?_
  have H := Hp.refl w0 []
  repeat refine c_seq ?_
  refine c_region ?_; refine l_op (o_val r_as ?_); first | refine l_end ?_ | refine l_nil ?_
  repeat refine c_seq ?_
  refine c_region ?_; refine l_op (o_val r_mv ?_); refine l_op (o_val (r_slnil Tryz.underlying35 (by kernel_rfl) rfl rfl) ?_); first | refine l_end ?_ | refine l_nil ?_
  repeat refine c_seq ?_
  refine c_yes rfl ?_; repeat refine c_seq ?_
  refine c_region ?_; refine l_op (o_val r_as ?_); first | refine l_end ?_ | refine l_nil ?_
  refine c_ret ?_; try dsimp only [Exit.then, Exit.inBlock]
  refine e_ret1 (v := .slice none 0 0) Tryz.results33 rfl ?_
  refine ⟨_, rfl, ?_⟩
  exact ⟨rfl, H.sub (List.nil_sublist _)⟩
theorem cln34_ret (w0 : World) :
    Ret Tryz.prog 34 [.slice none 0 0] w0 fun v w' => v = .slice none 0 0 ∧ Hp w0 w' [] [] := by
  refine ret_mk Tryz.func34 rfl Tryz.ntmps34 (by simp) ?_
  have H := Hp.refl w0 []
  repeat refine c_seq ?_
  refine c_region ?_; refine l_op (o_val r_as ?_); first | refine l_end ?_ | refine l_nil ?_
  repeat refine c_seq ?_
  refine c_region ?_; refine l_op (o_val r_mv ?_); refine l_op (o_val (r_slnil Tryz.underlying36 (by kernel_rfl) rfl rfl) ?_); first | refine l_end ?_ | refine l_nil ?_
  repeat refine c_seq ?_
  refine c_yes rfl ?_; repeat refine c_seq ?_
  refine c_region ?_; refine l_op (o_val r_as ?_); first | refine l_end ?_ | refine l_nil ?_
  refine c_ret ?_; try dsimp only [Exit.then, Exit.inBlock]
  refine e_ret1 (v := .slice none 0 0) Tryz.results34 rfl ?_
  refine ⟨_, rfl, ?_⟩
  exact ⟨rfl, H.sub (List.nil_sublist _)⟩
theorem clne_ret (w0 : World) (lg : Gl Ent) (hlg : lg.ok entE 38 w0) (hln : lg.a.isNone = false) (hlm : lg.len ≤ 4096) :
    Ret Tryz.prog 34 [lg.v] w0 fun v w' => ∃ a c, v = .slice (hd a) lg.len c ∧ Hp w0 w' [] [.own a lg.len c (lg.l.flatMap entE) 55 38] := by
  refine ret_mk Tryz.func34 rfl Tryz.ntmps34 (by simp) ?_
  have H := Hp.refl w0 []
  repeat refine c_seq ?_
  refine c_region ?_; refine l_op (o_val r_as ?_); first | refine l_end ?_ | refine l_nil ?_
  repeat refine c_seq ?_
  refine c_region ?_; refine l_op (o_val r_mv ?_); refine l_op (o_val (r_slnil Tryz.underlying36 (by kernel_rfl) rfl rfl) ?_); have hk1 : (lg.a.isNone) = false := hln
  first | refine l_end ?_ | refine l_nil ?_
  repeat refine c_seq ?_
  refine c_no (by exact congrArg Value.bool hk1) ?_; refine c_skip ?_; repeat refine c_seq ?_
  refine c_region ?_; refine l_op (o_bslG0 (α := Ent) (enc := entE) H sl36 zc55 (by decide) (fun b2 w H hb2 => ?_)); replace H : Hp _ w _ ([.own (some b2) 0 0 ((([] : List Ent)).flatMap entE) 55 38]) := H
  refine l_op (o_val r_mv ?_); refine l_op (o_appG (enc := entE) (s := lg) (l' := lg.l) (len' := lg.len) rfl (Nat.zero_add _) H (i := 0) rfl sl36 Tryz.underlying36 rfl rfl (hlg.up H) (by decide) (fun c _ => ent_all c) (by omega) (by decide) (fun a3 c4 w H => ?_)); replace H : Hp _ w _ ([.own a3 lg.len c4 ((lg.l).flatMap entE) 55 38]) := H
  refine l_op (o_val r_as ?_); first | refine l_end ?_ | refine l_nil ?_
  refine c_ret ?_; try dsimp only [Exit.then, Exit.inBlock]
  refine e_ret1 (v := .slice (hd a3) lg.len c4) Tryz.results34 rfl ?_
  refine ⟨_, rfl, ?_⟩
  exact ⟨_, _, rfl, H⟩
theorem only_ret (w0 : World) (n : Int) :
    Ret Tryz.prog 18 [VI n] w0 fun v w' => v = .agg (ansE (⟨n, ⟨none, 0, 0, []⟩⟩ : Ans)).toArray ∧ Hp w0 w' [] [] := by
  refine ret_mk Tryz.func18 rfl Tryz.ntmps18 (by simp) ?_
  have H := Hp.refl w0 []
  repeat refine c_seq ?_
  refine c_region ?_; refine l_op (o_alloc H zc49 (fun b1 w H hb1 => ?_)); replace H : Hp _ w _ ([.blk b1 (ansE (⟨0, ⟨none, 0, 0, []⟩⟩ : Ans)) 49]) := H
  first | refine l_end ?_ | refine l_nil ?_
  repeat refine c_seq ?_
  refine c_region ?_; refine l_op (o_val r_mv ?_); refine l_op (o_val (r_bldG (Z := ansE (⟨0, ⟨none, 0, 0, []⟩⟩ : Ans)) (E := ansE (⟨n, ⟨none, 0, 0, []⟩⟩ : Ans)) (pv := [(0, VI n)]) bd49 rfl rfl (.consP rfl (ansE_p0 _ n) rfl (.nil _))) ?_); refine l_op (o_stW (C' := ansE (⟨n, ⟨none, 0, 0, []⟩⟩ : Ans)) H (i := 0) rfl rfl rfl cs49 (ansE_all _) (ansE_len _) (ansE_len _) (fun w H => ?_)); replace H : Hp _ w _ ([.blk b1 (ansE (⟨n, ⟨none, 0, 0, []⟩⟩ : Ans)) 49]) := H
  first | refine l_end ?_ | refine l_nil ?_
  refine c_ret ?_; try dsimp only [Exit.then, Exit.inBlock]
  refine e_retc Tryz.results18 H (i := 0) rfl rfl rt49 (ansE_len _).symm ?_
  refine ⟨_, rfl, ?_⟩
  exact ⟨rfl, H.sub (List.nil_sublist _)⟩
theorem told_ret (w0 : World) (s : Sl) :
    Ret Tryz.prog 56 [s.v] w0 fun v w' => v = .agg (ansE (⟨200, s⟩ : Ans)).toArray ∧ Hp w0 w' [] [] := by
  refine ret_mk Tryz.func56 rfl Tryz.ntmps56 (by simp) ?_
  have H := Hp.refl w0 []
  repeat refine c_seq ?_
  refine c_region ?_; refine l_op (o_alloc H zc49 (fun b1 w H hb1 => ?_)); replace H : Hp _ w _ ([.blk b1 (ansE (⟨0, ⟨none, 0, 0, []⟩⟩ : Ans)) 49]) := H
  first | refine l_end ?_ | refine l_nil ?_
  repeat refine c_seq ?_
  refine c_region ?_; refine l_op (o_val r_mv ?_); refine l_op (o_val (r_bldG (Z := ansE (⟨0, ⟨none, 0, 0, []⟩⟩ : Ans)) (E := ansE (⟨200, s⟩ : Ans)) (pv := [(0, VI 200), (1, s.v)]) bd49 rfl rfl (.consP rfl (ansE_p0 _ 200) rfl (.consP rfl (ansE_p1 _ s) rfl (.nil _)))) ?_); refine l_op (o_stW (C' := ansE (⟨200, s⟩ : Ans)) H (i := 0) rfl rfl rfl cs49 (ansE_all _) (ansE_len _) (ansE_len _) (fun w H => ?_)); replace H : Hp _ w _ ([.blk b1 (ansE (⟨200, s⟩ : Ans)) 49]) := H
  first | refine l_end ?_ | refine l_nil ?_
  refine c_ret ?_; try dsimp only [Exit.then, Exit.inBlock]
  refine e_retc Tryz.results56 H (i := 0) rfl rfl rt49 (ansE_len _).symm ?_
  refine ⟨_, rfl, ?_⟩
  exact ⟨rfl, H.sub (List.nil_sublist _)⟩
theorem rules17_ret (w0 : World) :
    Ret Tryz.prog 47 [VI 17] w0 fun v w' => v = .bool true ∧ Hp w0 w' [] [] := by
  refine ret_mk Tryz.func47 rfl Tryz.ntmps47 (by simp) ?_
  have H := Hp.refl w0 []
  repeat refine c_seq ?_
  refine c_region ?_; refine l_op (o_val r_as ?_); first | refine l_end ?_ | refine l_nil ?_
  repeat refine c_seq ?_
  refine c_region ?_; refine l_op (o_val r_mv ?_); refine l_op (o_val (r_bin (a := 17) (b := 10) rfl rfl (fun _ => b_geqB true (decide_eq_true (by decide)))) ?_); refine l_op (o_val r_mv ?_); refine l_yes rfl rfl rfl (o_val r_mv ?_); refine l_yes rfl rfl rfl (o_val (r_bin (a := 17) (b := 17) rfl rfl (fun _ => b_leqB true (decide_eq_true (by decide)))) ?_); refine l_op (o_val (r_pick rfl) ?_); refine l_op (o_val r_as ?_); first | refine l_end ?_ | refine l_nil ?_
  refine c_ret ?_; try dsimp only [Exit.then, Exit.inBlock]
  refine e_ret1 (v := .bool true) Tryz.results47 rfl ?_
  refine ⟨_, rfl, ?_⟩
  exact ⟨rfl, H.sub (List.nil_sublist _)⟩
theorem needs17_ret (w0 : World) :
    Ret Tryz.prog 44 [VI 17] w0 fun v w' => v = .tuple #[V8 8, VI 0] ∧ Hp w0 w' [] [] := by
  refine ret_mk Tryz.func44 rfl Tryz.ntmps44 (by simp) ?_
  have H := Hp.refl w0 []
  repeat refine c_seq ?_
  refine c_region ?_; refine l_op (o_val (r_asV (c8 0 (by decide))) ?_); refine l_op (o_val r_as ?_); first | refine l_end ?_ | refine l_nil ?_
  repeat refine c_seq ?_
  refine c_block ?_; repeat refine c_seq ?_
  refine c_region ?_; refine l_op (o_val r_mv ?_); refine l_op (o_val (r_bin (a := 17) (b := 2) rfl rfl (fun _ => b_eqlB false (decide_eq_false (by decide)))) ?_); refine l_op (o_val r_as ?_); first | refine l_end ?_ | refine l_nil ?_
  repeat refine c_seq ?_
  refine c_no rfl ?_; repeat refine c_seq ?_
  refine c_region ?_; refine l_op (o_val r_mv ?_); refine l_op (o_val (r_bin (a := 17) (b := 4) rfl rfl (fun _ => b_eqlB false (decide_eq_false (by decide)))) ?_); refine l_op (o_val r_as ?_); first | refine l_end ?_ | refine l_nil ?_
  repeat refine c_seq ?_
  refine c_no rfl ?_; repeat refine c_seq ?_
  refine c_region ?_; refine l_op (o_val r_mv ?_); refine l_op (o_val (r_bin (a := 17) (b := 5) rfl rfl (fun _ => b_eqlB false (decide_eq_false (by decide)))) ?_); refine l_op (o_val r_as ?_); first | refine l_end ?_ | refine l_nil ?_
  repeat refine c_seq ?_
  refine c_no rfl ?_; repeat refine c_seq ?_
  refine c_region ?_; refine l_op (o_val r_mv ?_); refine l_op (o_val (r_bin (a := 17) (b := 6) rfl rfl (fun _ => b_eqlB false (decide_eq_false (by decide)))) ?_); refine l_op (o_val r_as ?_); first | refine l_end ?_ | refine l_nil ?_
  repeat refine c_seq ?_
  refine c_no rfl ?_; repeat refine c_seq ?_
  refine c_region ?_; refine l_op (o_val r_mv ?_); refine l_op (o_val (r_bin (a := 17) (b := 9) rfl rfl (fun _ => b_eqlB false (decide_eq_false (by decide)))) ?_); refine l_op (o_val r_as ?_); first | refine l_end ?_ | refine l_nil ?_
  repeat refine c_seq ?_
  refine c_no rfl ?_; repeat refine c_seq ?_
  refine c_region ?_; refine l_op (o_val r_mv ?_); refine l_op (o_val (r_bin (a := 17) (b := 1) rfl rfl (fun _ => b_eqlB false (decide_eq_false (by decide)))) ?_); refine l_op (o_val r_as ?_); first | refine l_end ?_ | refine l_nil ?_
  repeat refine c_seq ?_
  refine c_no rfl ?_; repeat refine c_seq ?_
  refine c_region ?_; refine l_op (o_val r_mv ?_); refine l_op (o_val (r_bin (a := 17) (b := 3) rfl rfl (fun _ => b_eqlB false (decide_eq_false (by decide)))) ?_); refine l_op (o_val r_as ?_); first | refine l_end ?_ | refine l_nil ?_
  repeat refine c_seq ?_
  refine c_no rfl ?_; repeat refine c_seq ?_
  refine c_region ?_; refine l_op (o_val r_mv ?_); refine l_op (o_val (r_bin (a := 17) (b := 7) rfl rfl (fun _ => b_eqlB false (decide_eq_false (by decide)))) ?_); refine l_op (o_val r_as ?_); first | refine l_end ?_ | refine l_nil ?_
  repeat refine c_seq ?_
  refine c_no rfl ?_; repeat refine c_seq ?_
  refine c_region ?_; refine l_op (o_val r_mv ?_); refine l_op (o_val (r_bin (a := 17) (b := 8) rfl rfl (fun _ => b_eqlB false (decide_eq_false (by decide)))) ?_); refine l_op (o_val r_as ?_); first | refine l_end ?_ | refine l_nil ?_
  repeat refine c_seq ?_
  refine c_no rfl ?_; repeat refine c_seq ?_
  refine c_region ?_; refine l_op (o_val r_mv ?_); refine l_op (o_callR Tryz.func47 rfl rfl rfl (rules17_ret _) ?_); rintro _ w ⟨rfl, Hc⟩
  replace H : Hp _ w _ ([]) := H.call Hc
  clear Hc
  refine l_op (o_val r_as ?_); first | refine l_end ?_ | refine l_nil ?_
  repeat refine c_seq ?_
  refine c_yes rfl ?_; repeat refine c_seq ?_
  refine c_region ?_; refine l_op (o_val (r_asV (c8 8 (by decide))) ?_); refine l_op (o_val r_as ?_); first | refine l_end ?_ | refine l_nil ?_
  refine c_ret ?_; try dsimp only [Exit.then, Exit.inBlock]
  refine e_retN (vs := [V8 (8 : UInt8), VI 0]) _ Tryz.results44 rfl (resT (v := V8 (8 : UInt8)) rfl (resT (v := VI 0) rfl (resZ))) ?_
  refine ⟨_, rfl, ?_⟩
  exact ⟨rfl, H.sub (List.nil_sublist _)⟩
theorem bsu_ret (w0 : World) (n : UInt64) :
    Ret Tryz.prog 43 [.slice none 0 0, V64 n] w0 fun v w' => v = .tuple #[VI 0, .bool false] ∧ Hp w0 w' [] [] := by
  refine ret_mk Tryz.func43 rfl Tryz.ntmps43 (by simp) ?_
  have H := Hp.refl w0 []
  repeat refine c_seq ?_
  refine c_region ?_; refine l_op (o_val r_as ?_); refine l_op (o_val r_as ?_); first | refine l_end ?_ | refine l_nil ?_
  repeat refine c_seq ?_
  refine c_region ?_; refine l_op (o_val r_mv ?_); refine l_op (o_val (r_lens el35 rfl) ?_); refine l_op (o_val r_as ?_); first | refine l_end ?_ | refine l_nil ?_
  repeat refine c_seq ?_
  refine c_region ?_; refine l_op (o_val r_mv ?_); refine l_op (o_val r_as ?_); refine l_op (o_val r_as ?_); first | refine l_end ?_ | refine l_nil ?_
  repeat refine c_seq ?_
  refine c_block ?_; repeat refine c_seq ?_
  refine c_loop (fun (i1 : Nat) => [(0, .slice none 0 0), (1, V64 n), (6, VI 0), (7, VI (i1 : Int)), (8, VI (i1 : Int))])
    (fun (i1 : Nat) w => (i1 = 0) ∧ Hp w0 w [] ([]))
    (fun (i1 : Nat) => 0) 0 ⟨rfl, rfl, rfl, rfl, rfl, trivial⟩ ⟨rfl, H⟩ ?_
  clear H
  rintro i1 τ w ⟨hi1, H⟩
  repeat refine c_seq ?_
  refine c_region ?_; refine l_op (o_val r_mv ?_); refine l_op (o_val r_mv ?_); refine l_op (o_val (r_bin (a := (i1 : Int)) (b := (i1 : Int)) rfl rfl (fun _ => b_lssB false (decide_eq_false (by omega)))) ?_); first | refine l_end ?_ | refine l_nil ?_
  repeat refine c_seq ?_
  refine c_no rfl ?_; refine c_exit ?_; repeat refine c_seq ?_
  refine c_region ?_; refine l_op (o_val r_mv ?_); refine l_op (o_val r_mv ?_); refine l_op (o_val r_mv ?_); refine l_op (o_val (r_bin (a := (i1 : Int)) (b := 0) rfl rfl (fun _ => b_lssB false (decide_eq_false (by omega)))) ?_); refine l_op (o_val r_mv ?_); refine l_no rfl rfl rfl rfl ?_; refine l_no rfl rfl rfl rfl ?_; refine l_no rfl rfl rfl rfl ?_; refine l_no rfl rfl rfl rfl ?_; refine l_no rfl rfl rfl rfl ?_; refine l_no rfl rfl rfl rfl ?_; refine l_no rfl rfl rfl rfl ?_; refine l_non rfl rfl rfl ?_; refine l_non rfl rfl rfl ?_; refine l_non rfl rfl rfl ?_; refine l_non rfl rfl rfl ?_; refine l_non rfl rfl rfl ?_; refine l_non rfl rfl rfl ?_; refine l_non rfl rfl rfl ?_; refine l_non rfl rfl rfl ?_; refine l_non rfl rfl rfl ?_; refine l_no rfl rfl rfl rfl ?_; refine l_op (o_val (r_pick rfl) ?_); refine l_op (o_val r_as ?_); refine l_op (o_val r_as ?_); first | refine l_end ?_ | refine l_nil ?_
  refine c_ret ?_; try dsimp only [Exit.then, Exit.inBlock]
  refine e_retN (vs := [VI (i1 : Int), .bool false]) _ Tryz.results43 rfl (resT (v := VI (i1 : Int)) rfl (resT (v := .bool false) rfl (resZ))) ?_
  refine ⟨_, rfl, ?_⟩
  subst hi1
  exact ⟨rfl, H⟩
theorem bst_ret (w0 : World) (l : List UInt8) (f : Value) :
    Ret Tryz.prog 48 [.slice none 0 0, .string ⟨(l).toArray⟩, f] w0 fun v w' => v = .tuple #[VI 0, .bool false] ∧ Hp w0 w' [] [] := by
  refine ret_mk Tryz.func48 rfl Tryz.ntmps48 (by simp) ?_
  have H := Hp.refl w0 []
  repeat refine c_seq ?_
  refine c_region ?_; refine l_op (o_val r_as ?_); refine l_op (o_val r_as ?_); first | refine l_end ?_ | refine l_nil ?_
  repeat refine c_seq ?_
  refine c_region ?_; refine l_op (o_val r_mv ?_); refine l_op (o_val (r_lens el34 rfl) ?_); refine l_op (o_val r_as ?_); first | refine l_end ?_ | refine l_nil ?_
  repeat refine c_seq ?_
  refine c_region ?_; refine l_op (o_val r_mv ?_); refine l_op (o_val r_as ?_); refine l_op (o_val r_as ?_); first | refine l_end ?_ | refine l_nil ?_
  repeat refine c_seq ?_
  refine c_block ?_; repeat refine c_seq ?_
  refine c_loop (fun (i1 : Nat) => [(0, .slice none 0 0), (1, .string ⟨(l).toArray⟩), (2, f), (8, VI 0), (9, VI (i1 : Int)), (10, VI (i1 : Int))])
    (fun (i1 : Nat) w => (i1 = 0) ∧ Hp w0 w [] ([]))
    (fun (i1 : Nat) => 0) 0 ⟨rfl, rfl, rfl, rfl, rfl, rfl, trivial⟩ ⟨rfl, H⟩ ?_
  clear H
  rintro i1 τ w ⟨hi1, H⟩
  repeat refine c_seq ?_
  refine c_region ?_; refine l_op (o_val r_mv ?_); refine l_op (o_val r_mv ?_); refine l_op (o_val (r_bin (a := (i1 : Int)) (b := (i1 : Int)) rfl rfl (fun _ => b_lssB false (decide_eq_false (by omega)))) ?_); first | refine l_end ?_ | refine l_nil ?_
  repeat refine c_seq ?_
  refine c_no rfl ?_; refine c_exit ?_; repeat refine c_seq ?_
  refine c_region ?_; refine l_op (o_val r_mv ?_); refine l_op (o_val r_mv ?_); refine l_op (o_val r_mv ?_); refine l_op (o_val (r_bin (a := (i1 : Int)) (b := 0) rfl rfl (fun _ => b_lssB false (decide_eq_false (by omega)))) ?_); refine l_op (o_val r_mv ?_); refine l_no rfl rfl rfl rfl ?_; refine l_no rfl rfl rfl rfl ?_; refine l_no rfl rfl rfl rfl ?_; refine l_no rfl rfl rfl rfl ?_; refine l_no rfl rfl rfl rfl ?_; refine l_no rfl rfl rfl rfl ?_; refine l_no rfl rfl rfl rfl ?_; refine l_no rfl rfl rfl rfl ?_; refine l_op (o_val (r_pick rfl) ?_); refine l_op (o_val r_as ?_); refine l_op (o_val r_as ?_); first | refine l_end ?_ | refine l_nil ?_
  refine c_ret ?_; try dsimp only [Exit.then, Exit.inBlock]
  refine e_retN (vs := [VI (i1 : Int), .bool false]) _ Tryz.results48 rfl (resT (v := VI (i1 : Int)) rfl (resT (v := .bool false) rfl (resZ))) ?_
  refine ⟨_, rfl, ?_⟩
  subst hi1
  exact ⟨rfl, H⟩
theorem may28_ret (w0 : World) (s : Sl) :
    Ret Tryz.prog 19 [.agg (oprE (⟨17, ([] : List UInt8), zId, 0, 0, (0 : UInt8), ⟨none, 0, 0, []⟩, s, 0, zId⟩ : Opr)).toArray] w0 fun v w' => v = .bool true ∧ Hp w0 w' [] [] := by
  refine ret_mk Tryz.func19 rfl Tryz.ntmps19 (by simp) ?_
  have H := Hp.refl w0 []
  have hz0 : ([] : List UInt8).length = 0 := rfl
  repeat refine c_seq ?_
  refine c_region ?_; refine l_op (o_box (v := .agg (oprE (⟨17, ([] : List UInt8), zId, 0, 0, (0 : UInt8), ⟨none, 0, 0, []⟩, s, 0, zId⟩ : Opr)).toArray) H rfl (fun b1 w H hb1 => ?_)); replace H : Hp _ w _ ([.blk b1 (oprE (⟨17, ([] : List UInt8), zId, 0, 0, (0 : UInt8), ⟨none, 0, 0, []⟩, s, 0, zId⟩ : Opr)) 53]) := H
  refine l_op (o_val r_as ?_); first | refine l_end ?_ | refine l_nil ?_
  repeat refine c_seq ?_
  refine c_region ?_; refine l_op (o_val (r_fa rfl fo53_0) ?_); refine l_op (o_val (r_l1 (v := VI 17) H (i := 0) rfl rfl ct3 (oprE_c0 _)) ?_); refine l_op (o_val (r_bin (a := 17) (b := 1) rfl rfl (fun _ => b_lssB false (decide_eq_false (by decide)))) ?_); refine l_op (o_val r_mv ?_); refine l_yes rfl rfl rfl (o_val (r_fa rfl fo53_0) ?_); refine l_yes rfl rfl rfl (o_val (r_l1 (v := VI 17) H (i := 0) rfl rfl ct3 (oprE_c0 _)) ?_); refine l_yes rfl rfl rfl (o_val (r_bin (a := 17) (b := 17) rfl rfl (fun _ => b_gtrB false (decide_eq_false (by decide)))) ?_); refine l_op (o_val (r_pick rfl) ?_); refine l_op (o_val r_mv ?_); refine l_yes rfl rfl rfl (o_val (r_fa rfl fo53_8) ?_); refine l_yes rfl rfl rfl (o_val (r_l1 (v := VI 0) H (i := 0) rfl rfl ct2 (oprE_c8 _)) ?_); refine l_yes rfl rfl rfl (o_val (r_bin (a := 0) (b := 0) rfl rfl (fun _ => b_lssB false (decide_eq_false (by decide)))) ?_); refine l_op (o_val (r_pick rfl) ?_); refine l_op (o_val r_mv ?_); refine l_yes rfl rfl rfl (o_val (r_fa rfl fo53_3) ?_); refine l_yes rfl rfl rfl (o_val (r_l1 (v := VI 0) H (i := 0) rfl rfl ct2 (oprE_c3 _)) ?_); refine l_yes rfl rfl rfl (o_val (r_bin (a := 0) (b := 0) rfl rfl (fun _ => b_lssB false (decide_eq_false (by decide)))) ?_); refine l_op (o_val (r_pick rfl) ?_); refine l_op (o_val r_mv ?_); refine l_yes rfl rfl rfl (o_val (r_fa rfl fo53_4) ?_); refine l_yes rfl rfl rfl (o_val (r_l1 (v := VI 0) H (i := 0) rfl rfl ct2 (oprE_c4 _)) ?_); refine l_yes rfl rfl rfl (o_val (r_bin (a := 0) (b := 0) rfl rfl (fun _ => b_lssB false (decide_eq_false (by decide)))) ?_); refine l_op (o_val (r_pick rfl) ?_); refine l_op (o_val r_mv ?_); refine l_yes rfl rfl rfl (o_val (r_fa rfl fo53_6) ?_); refine l_yes rfl rfl rfl (o_val (r_l1 (v := .slice none 0 0) H (i := 0) rfl rfl ct24 (oprE_c6 _)) ?_); refine l_yes rfl rfl rfl (o_val (r_lens el24 rfl) ?_); refine l_yes rfl rfl rfl (o_val (r_bin (a := 0) (b := 4096) rfl rfl (fun _ => b_gtrB false (decide_eq_false (by decide)))) ?_); refine l_op (o_val (r_pick rfl) ?_); refine l_op (o_val r_mv ?_); refine l_yes rfl rfl rfl (o_val (r_fa rfl fo53_5) ?_); refine l_yes rfl rfl rfl (o_val (r_l1 (v := V8 (0 : UInt8)) H (i := 0) rfl rfl ct43 (oprE_c5 _)) ?_); refine l_yes rfl rfl rfl (o_callR Tryz.func39 rfl rfl rfl (rmay_ret _ ((0 : UInt8))) ?_); rintro _ w' ⟨rfl, hw2⟩
  rw [hw2]; clear hw2 w'
  have hk3 : (rMay ((0 : UInt8))) = true := (by decide)
  refine l_yes rfl rfl rfl (o_val (r_not rfl) ?_); refine l_op (o_val (r_pick rfl) ?_); first | refine l_end ?_ | refine l_nil ?_
  repeat refine c_seq ?_
  refine c_no (by exact congrArg Value.bool (congrArg not hk3)) ?_; refine c_skip ?_; repeat refine c_seq ?_
  refine c_region ?_; refine l_op (o_val (r_fa rfl fo53_0) ?_); refine l_op (o_val (r_l1 (v := VI 17) H (i := 0) rfl rfl ct3 (oprE_c0 _)) ?_); refine l_op (o_val (r_bin (a := 17) (b := 12) rfl rfl (fun _ => b_eqlB false (decide_eq_false (by decide)))) ?_); refine l_op (o_val r_mv ?_); refine l_yes rfl rfl rfl (o_val (r_fa rfl fo53_0) ?_); refine l_yes rfl rfl rfl (o_val (r_l1 (v := VI 17) H (i := 0) rfl rfl ct3 (oprE_c0 _)) ?_); refine l_yes rfl rfl rfl (o_val (r_bin (a := 17) (b := 13) rfl rfl (fun _ => b_eqlB false (decide_eq_false (by decide)))) ?_); refine l_op (o_val (r_pick rfl) ?_); refine l_op (o_val r_mv ?_); refine l_yes rfl rfl rfl (o_val (r_fa rfl fo53_0) ?_); refine l_yes rfl rfl rfl (o_val (r_l1 (v := VI 17) H (i := 0) rfl rfl ct3 (oprE_c0 _)) ?_); refine l_yes rfl rfl rfl (o_val (r_bin (a := 17) (b := 16) rfl rfl (fun _ => b_eqlB false (decide_eq_false (by decide)))) ?_); refine l_op (o_val (r_pick rfl) ?_); refine l_op (o_val r_mv ?_); refine l_yes rfl rfl rfl (o_val (r_fa rfl fo53_0) ?_); refine l_yes rfl rfl rfl (o_val (r_l1 (v := VI 17) H (i := 0) rfl rfl ct3 (oprE_c0 _)) ?_); refine l_yes rfl rfl rfl (o_val (r_bin (a := 17) (b := 17) rfl rfl (fun _ => b_eqlB true (decide_eq_true (by decide)))) ?_); refine l_op (o_val (r_pick rfl) ?_); refine l_op (o_val r_as ?_); first | refine l_end ?_ | refine l_nil ?_
  repeat refine c_seq ?_
  refine c_region ?_; refine l_op (o_val (r_fa rfl fo53_1) ?_); refine l_op (o_val (r_l1 (v := .string ⟨(([] : List UInt8)).toArray⟩) H (i := 0) rfl rfl ct9 (oprE_c1 _)) ?_); refine l_op (o_callR Tryz.func40 rfl rfl rfl (nmay_ret _ (([] : List UInt8)) (by omega)) ?_); rintro _ w ⟨rfl, Hc⟩
  replace H : Hp _ w _ ([_]) := H.call Hc
  clear Hc
  have hk4 : (nameMay (([] : List UInt8))) = false := (by rfl)
  refine l_op (o_val r_mv ?_); refine l_yes rfl rfl (by exact congrArg Value.bool hk4) (o_val (r_fa rfl fo53_1) ?_); refine l_yes rfl rfl (by exact congrArg Value.bool hk4) (o_val (r_l1 (v := .string ⟨(([] : List UInt8)).toArray⟩) H (i := 0) rfl rfl ct9 (oprE_c1 _)) ?_); refine l_yes rfl rfl (by exact congrArg Value.bool hk4) (o_val (r_streq (a := ([] : List UInt8)) (b := ([] : List UInt8)) rfl rfl) ?_); refine l_yes rfl rfl (by exact congrArg Value.bool hk4) (o_val r_mv ?_); refine l_yes rfl rfl (by exact congrArg Value.bool (decide_eq_true (rfl : ([] : List UInt8) = ([] : List UInt8)))) (o_val r_mv ?_); refine l_yes rfl rfl (by exact congrArg Value.bool hk4) (o_val (r_pick (b := true) (congrArg Value.bool (decide_eq_true (rfl : ([] : List UInt8) = ([] : List UInt8))))) ?_); refine l_op (o_val (r_pick (b := false) (congrArg Value.bool hk4)) ?_); refine l_op (o_val r_as ?_); first | refine l_end ?_ | refine l_nil ?_
  refine c_ret ?_; try dsimp only [Exit.then, Exit.inBlock]
  refine e_ret1 (v := .bool true) Tryz.results19 rfl ?_
  refine ⟨_, rfl, ?_⟩
  exact ⟨rfl, H.sub (List.nil_sublist _)⟩
theorem twin0_ret (w0 : World) (r : Id32) (d : Int) (h : Id32) :
    Ret Tryz.prog 17 [.agg (staE (⟨r, d, (0 : UInt64), ⟨none, 0, 0, []⟩, ⟨none, 0, 0, []⟩, ⟨none, 0, 0, []⟩, h⟩ : Sta)).toArray] w0 fun v w' => v = .agg (staE (⟨r, d, 0, ⟨none, 0, 0, []⟩, ⟨none, 0, 0, []⟩, ⟨none, 0, 0, []⟩, h⟩ : Sta)).toArray ∧ Hp w0 w' [] [] := by
  refine ret_mk Tryz.func17 rfl Tryz.ntmps17 (by simp) ?_
  have H := Hp.refl w0 []
  repeat refine c_seq ?_
  refine c_region ?_; refine l_op (o_box (v := .agg (staE (⟨r, d, (0 : UInt64), ⟨none, 0, 0, []⟩, ⟨none, 0, 0, []⟩, ⟨none, 0, 0, []⟩, h⟩ : Sta)).toArray) H rfl (fun b1 w H hb1 => ?_)); replace H : Hp _ w _ ([.blk b1 (staE (⟨r, d, (0 : UInt64), ⟨none, 0, 0, []⟩, ⟨none, 0, 0, []⟩, ⟨none, 0, 0, []⟩, h⟩ : Sta)) 38]) := H
  refine l_op (o_alloc H zc38 (fun b2 w H hb2 => ?_)); replace H : Hp _ w _ ([_, .blk b2 (staE (⟨(⟨List.replicate 32 (0 : UInt8), (show (List.replicate 32 (0 : UInt8)).length = 32 from (List.length_replicate ..))⟩ : Id32), 0, (0 : UInt64), ⟨none, 0, 0, []⟩, ⟨none, 0, 0, []⟩, ⟨none, 0, 0, []⟩, (⟨List.replicate 32 (0 : UInt8), (show (List.replicate 32 (0 : UInt8)).length = 32 from (List.length_replicate ..))⟩ : Id32)⟩ : Sta)) 38]) := H
  first | refine l_end ?_ | refine l_nil ?_
  repeat refine c_seq ?_
  refine wp_held (fun w => Hp w0 w [] [.blk b1 (staE (⟨r, d, (0 : UInt64), ⟨none, 0, 0, []⟩, ⟨none, 0, 0, []⟩, ⟨none, 0, 0, []⟩, h⟩ : Sta)) 38, .blk b2 (staE (⟨(⟨List.replicate 32 (0 : UInt8), (show (List.replicate 32 (0 : UInt8)).length = 32 from (List.length_replicate ..))⟩ : Id32), 0, (0 : UInt64), ⟨none, 0, 0, []⟩, ⟨none, 0, 0, []⟩, ⟨none, 0, 0, []⟩, (⟨List.replicate 32 (0 : UInt8), (show (List.replicate 32 (0 : UInt8)).length = 32 from (List.length_replicate ..))⟩ : Id32)⟩ : Sta)) 38]) mixed ?_; replace H := H.drew
  have HS := H
  refine t_take 0 rfl (by kernel_rfl) (by kernel_rfl) (by kernel_rfl) (fun _ _ _ h => h) (fun w HS => r_fa rfl fo38_3) HS ?_; refine t_take 1 rfl (by kernel_rfl) (by kernel_rfl) (by kernel_rfl) (fun _ _ _ h => h) (fun w HS => r_l1 (v := .slice none 0 0) HS (i := 0) rfl rfl ct34 (staE_c3 _)) HS ?_; refine t_take 3 rfl (by kernel_rfl) (by kernel_rfl) (by kernel_rfl) (fun _ _ _ h => h) (fun w HS => r_fa rfl fo38_4) HS ?_; refine t_take 4 rfl (by kernel_rfl) (by kernel_rfl) (by kernel_rfl) (fun _ _ _ h => h) (fun w HS => r_l1 (v := .slice none 0 0) HS (i := 0) rfl rfl ct35 (staE_c4 _)) HS ?_; refine t_take 6 rfl (by kernel_rfl) (by kernel_rfl) (by kernel_rfl) (fun _ _ _ h => h) (fun w HS => r_fa rfl fo38_5) HS ?_; refine t_take 7 rfl (by kernel_rfl) (by kernel_rfl) (by kernel_rfl) (fun _ _ _ h => h) (fun w HS => r_l1 (v := .slice none 0 0) HS (i := 0) rfl rfl ct36 (staE_c5 _)) HS ?_; refine t_step 2 rfl (by kernel_rfl) (o_callR Tryz.func32 rfl rfl rfl (cln32_ret _) ?_); rintro _ w ⟨rfl, Hc⟩
  replace H : Hp _ w _ ([_, _]) := H.call Hc
  clear Hc
  refine ⟨H, ?_⟩
  replace HS := H
  refine t_take 9 rfl (by kernel_rfl) (by kernel_rfl) (by kernel_rfl) (fun _ _ _ h => h) (fun w HS => r_fa rfl fo38_3) HS ?_; refine t_step 5 rfl (by kernel_rfl) (o_callR Tryz.func33 rfl rfl rfl (cln33_ret _) ?_); rintro _ w ⟨rfl, Hc⟩
  replace H : Hp _ w _ ([_, _]) := H.call Hc
  clear Hc
  refine ⟨H, ?_⟩
  replace HS := H
  refine t_step 8 rfl (by kernel_rfl) (o_callR Tryz.func34 rfl rfl rfl (cln34_ret _) ?_); rintro _ w ⟨rfl, Hc⟩
  replace H : Hp _ w _ ([_, _]) := H.call Hc
  clear Hc
  refine ⟨H, ?_⟩
  replace HS := H
  refine t_step 10 rfl (by kernel_rfl) (o_s1P (C' := staE (⟨r, d, (0 : UInt64), ⟨none, 0, 0, []⟩, ⟨none, 0, 0, []⟩, ⟨none, 0, 0, []⟩, h⟩ : Sta)) (u := .slice none 0 0) H (i := 0) rfl rfl rfl cs34 rfl (staE_p3 _ (⟨none, 0, 0, []⟩)) (fun w H => ?_)); replace H : Hp _ w _ [_, _] := H
  refine ⟨H, ?_⟩
  replace HS := H
  refine t_take 11 rfl (by kernel_rfl) (by kernel_rfl) (by kernel_rfl) (fun _ _ _ h => h) (fun w HS => r_fa rfl fo38_4) HS ?_; refine t_step 12 rfl (by kernel_rfl) (o_s1P (C' := staE (⟨r, d, (0 : UInt64), ⟨none, 0, 0, []⟩, ⟨none, 0, 0, []⟩, ⟨none, 0, 0, []⟩, h⟩ : Sta)) (u := .slice none 0 0) H (i := 0) rfl rfl rfl cs35 rfl (staE_p4 _ (⟨none, 0, 0, []⟩)) (fun w H => ?_)); replace H : Hp _ w _ [_, _] := H
  refine ⟨H, ?_⟩
  replace HS := H
  refine t_take 13 rfl (by kernel_rfl) (by kernel_rfl) (by kernel_rfl) (fun _ _ _ h => h) (fun w HS => r_fa rfl fo38_5) HS ?_; refine t_step 14 rfl (by kernel_rfl) (o_s1P (C' := staE (⟨r, d, (0 : UInt64), ⟨none, 0, 0, []⟩, ⟨none, 0, 0, []⟩, ⟨none, 0, 0, []⟩, h⟩ : Sta)) (u := .slice none 0 0) H (i := 0) rfl rfl rfl cs36 rfl (staE_p5 _ (⟨none, 0, 0, []⟩)) (fun w H => ?_)); replace H : Hp _ w _ [_, _] := H
  refine ⟨H, ?_⟩
  replace HS := H
  refine t_done (by kernel_rfl) ?_
  clear HS
  repeat refine c_seq ?_
  refine c_region ?_; refine l_op (o_val (r_fa rfl fo38_3) ?_); refine l_op (o_val (r_l1 (v := .slice none 0 0) H (i := 0) rfl rfl ct34 (staE_c3 _)) ?_); refine l_op (o_val (r_lens el34 rfl) ?_); refine l_op (o_val r_mv ?_); first | refine l_end ?_ | refine l_nil ?_
  repeat refine c_seq ?_
  refine c_block ?_; repeat refine c_seq ?_
  refine c_loop (fun (i3 : Nat) => [(1, .pointer (some ⟨b1, 0, none⟩)), (2, .pointer (some ⟨b2, 0, none⟩)), (20, VI 0), (21, VI (i3 : Int))])
    (fun (i3 : Nat) w => (i3 = 0) ∧ Hp w0 w [] ([.blk b1 (staE (⟨r, d, (0 : UInt64), ⟨none, 0, 0, []⟩, ⟨none, 0, 0, []⟩, ⟨none, 0, 0, []⟩, h⟩ : Sta)) 38, .blk b2 (staE (⟨(⟨List.replicate 32 (0 : UInt8), (show (List.replicate 32 (0 : UInt8)).length = 32 from (List.length_replicate ..))⟩ : Id32), 0, (0 : UInt64), ⟨none, 0, 0, []⟩, ⟨none, 0, 0, []⟩, ⟨none, 0, 0, []⟩, (⟨List.replicate 32 (0 : UInt8), (show (List.replicate 32 (0 : UInt8)).length = 32 from (List.length_replicate ..))⟩ : Id32)⟩ : Sta)) 38]))
    (fun (i3 : Nat) => 0) 0 ⟨rfl, rfl, rfl, rfl, trivial⟩ ⟨rfl, H⟩ ?_
  clear H
  rintro i3 τ w ⟨hi3, H⟩
  repeat refine c_seq ?_
  refine c_region ?_; refine l_op (o_val (r_bin (a := (i3 : Int)) (b := 0) rfl rfl (fun _ => b_lssB false (decide_eq_false (by omega)))) ?_); first | refine l_end ?_ | refine l_nil ?_
  repeat refine c_seq ?_
  refine c_no rfl ?_; refine c_exit ?_; repeat refine c_seq ?_
  refine c_region ?_; refine l_op (o_val (r_ldA (C := staE (⟨r, d, (0 : UInt64), ⟨none, 0, 0, []⟩, ⟨none, 0, 0, []⟩, ⟨none, 0, 0, []⟩, h⟩ : Sta)) H (i := 0) rfl rfl rt38 (staE_len _)) ?_); refine l_op (o_stW (C' := staE (⟨r, d, (0 : UInt64), ⟨none, 0, 0, []⟩, ⟨none, 0, 0, []⟩, ⟨none, 0, 0, []⟩, h⟩ : Sta)) H (i := 1) rfl rfl rfl cs38 (staE_all _) (staE_len _) (staE_len _) (fun w H => ?_)); replace H : Hp _ w _ ([_, .blk b2 (staE (⟨r, d, (0 : UInt64), ⟨none, 0, 0, []⟩, ⟨none, 0, 0, []⟩, ⟨none, 0, 0, []⟩, h⟩ : Sta)) 38]) := H
  first | refine l_end ?_ | refine l_nil ?_
  refine c_ret ?_; try dsimp only [Exit.then, Exit.inBlock]
  refine e_retc Tryz.results17 H (i := 1) rfl rfl rt38 (staE_len _).symm ?_
  refine ⟨_, rfl, ?_⟩
  exact ⟨rfl, H.sub (List.nil_sublist _)⟩
theorem twin1_ret (w0 : World) (r : Id32) (d : Int) (h : Id32) (lg : Gl Ent) (hlg : lg.ok entE 38 w0) (hln : lg.a.isNone = false) (hlm : lg.len ≤ 4096) :
    Ret Tryz.prog 17 [.agg (staE (⟨r, d, (0 : UInt64), ⟨none, 0, 0, []⟩, ⟨none, 0, 0, []⟩, lg, h⟩ : Sta)).toArray] w0 fun v w' => ∃ a c, v = .agg (staE (⟨r, d, 0, ⟨none, 0, 0, []⟩, ⟨none, 0, 0, []⟩, ⟨hd a, lg.len, c, lg.l⟩, h⟩ : Sta)).toArray ∧ Hp w0 w' [] [.own a lg.len c (lg.l.flatMap entE) 55 38] := by
  refine ret_mk Tryz.func17 rfl Tryz.ntmps17 (by simp) ?_
  have H := Hp.refl w0 []
  repeat refine c_seq ?_
  refine c_region ?_; refine l_op (o_box (v := .agg (staE (⟨r, d, (0 : UInt64), ⟨none, 0, 0, []⟩, ⟨none, 0, 0, []⟩, lg, h⟩ : Sta)).toArray) H rfl (fun b1 w H hb1 => ?_)); replace H : Hp _ w _ ([.blk b1 (staE (⟨r, d, (0 : UInt64), ⟨none, 0, 0, []⟩, ⟨none, 0, 0, []⟩, lg, h⟩ : Sta)) 38]) := H
  refine l_op (o_alloc H zc38 (fun b2 w H hb2 => ?_)); replace H : Hp _ w _ ([_, .blk b2 (staE (⟨(⟨List.replicate 32 (0 : UInt8), (show (List.replicate 32 (0 : UInt8)).length = 32 from (List.length_replicate ..))⟩ : Id32), 0, (0 : UInt64), ⟨none, 0, 0, []⟩, ⟨none, 0, 0, []⟩, ⟨none, 0, 0, []⟩, (⟨List.replicate 32 (0 : UInt8), (show (List.replicate 32 (0 : UInt8)).length = 32 from (List.length_replicate ..))⟩ : Id32)⟩ : Sta)) 38]) := H
  first | refine l_end ?_ | refine l_nil ?_
  repeat refine c_seq ?_
  refine wp_held (fun w => Hp w0 w [] [.blk b2 (staE (⟨(⟨List.replicate 32 (0 : UInt8), (show (List.replicate 32 (0 : UInt8)).length = 32 from (List.length_replicate ..))⟩ : Id32), 0, (0 : UInt64), ⟨none, 0, 0, []⟩, ⟨none, 0, 0, []⟩, ⟨none, 0, 0, []⟩, (⟨List.replicate 32 (0 : UInt8), (show (List.replicate 32 (0 : UInt8)).length = 32 from (List.length_replicate ..))⟩ : Id32)⟩ : Sta)) 38]) mixed ?_; replace H := H.drew
  have HS := H.sub (.cons _ (.cons_cons _ (List.nil_sublist _)))
  refine t_take 0 rfl (by kernel_rfl) (by kernel_rfl) (by kernel_rfl) (fun _ _ _ h => h) (fun w HS => r_fa rfl fo38_3) HS ?_; refine t_take 3 rfl (by kernel_rfl) (by kernel_rfl) (by kernel_rfl) (fun _ _ _ h => h) (fun w HS => r_fa rfl fo38_4) HS ?_; refine t_take 6 rfl (by kernel_rfl) (by kernel_rfl) (by kernel_rfl) (fun _ _ _ h => h) (fun w HS => r_fa rfl fo38_5) HS ?_; refine t_all [1, 4, 7] (by kernel_rfl) (by simp) (all_cons (w_op 1 rfl ?_) (all_cons (w_op 4 rfl ?_) (all_cons (w_op 7 rfl ?_) (all_nil))))
  ·
   refine (o_val (r_l1 (v := .slice none 0 0) H (i := 0) rfl rfl ct34 (staE_c3 _)) ?_)
   refine ⟨H.sub (.cons _ (.cons_cons _ (List.nil_sublist _))), ?_⟩
   replace HS := H.sub (.cons _ (.cons_cons _ (List.nil_sublist _)))
   refine t_all [2, 4, 7] (by kernel_rfl) (by simp) (all_cons (w_op 2 rfl ?_) (all_cons (w_op 4 rfl ?_) (all_cons (w_op 7 rfl ?_) (all_nil))))
   ·
    refine (o_callR Tryz.func32 rfl rfl rfl (cln32_ret _) ?_)
    rintro _ w ⟨rfl, Hc⟩
    replace H : Hp _ w _ ([_, _]) := H.call Hc
    clear Hc
    refine ⟨H.sub (.cons _ (.cons_cons _ (List.nil_sublist _))), ?_⟩
    replace HS := H.sub (.cons _ (.cons_cons _ (List.nil_sublist _)))
    refine t_all [4, 7] (by kernel_rfl) (by simp) (all_cons (w_op 4 rfl ?_) (all_cons (w_op 7 rfl ?_) (all_nil)))
    ·
     refine (o_val (r_l1 (v := .slice none 0 0) H (i := 0) rfl rfl ct35 (staE_c4 _)) ?_)
     refine ⟨H.sub (.cons _ (.cons_cons _ (List.nil_sublist _))), ?_⟩
     replace HS := H.sub (.cons _ (.cons_cons _ (List.nil_sublist _)))
     refine t_all [5, 7] (by kernel_rfl) (by simp) (all_cons (w_op 5 rfl ?_) (all_cons (w_op 7 rfl ?_) (all_nil)))
     ·
      refine (o_callR Tryz.func33 rfl rfl rfl (cln33_ret _) ?_)
      rintro _ w ⟨rfl, Hc⟩
      replace H : Hp _ w _ ([_, _]) := H.call Hc
      clear Hc
      refine ⟨H.sub (.cons _ (.cons_cons _ (List.nil_sublist _))), ?_⟩
      replace HS := H.sub (.cons _ (.cons_cons _ (List.nil_sublist _)))
      refine t_step 7 rfl (by kernel_rfl) (o_val (r_l1 (v := lg.v) H (i := 0) rfl rfl ct36 (staE_c5 _)) ?_); refine ⟨H.sub (.cons _ (.cons_cons _ (List.nil_sublist _))), ?_⟩
      replace HS := H.sub (.cons _ (.cons_cons _ (List.nil_sublist _)))
      refine t_take 9 rfl (by kernel_rfl) (by kernel_rfl) (by kernel_rfl) (fun _ _ _ h => h) (fun w HS => r_fa rfl fo38_3) HS ?_; refine t_step 8 rfl (by kernel_rfl) (o_callR Tryz.func34 rfl rfl rfl (clne_ret _ lg (hlg.up H) hln hlm) ?_); rintro _ w ⟨a3, c4, rfl, Hc⟩
      replace H : Hp _ w _ ([_, _, .own a3 lg.len c4 ((lg.l).flatMap entE) 55 38]) := H.call Hc
      clear Hc
      refine ⟨H.sub (.cons _ (.cons_cons _ (List.nil_sublist _))), ?_⟩
      replace HS := H.sub (.cons _ (.cons_cons _ (List.nil_sublist _)))
      refine t_step 10 rfl (by kernel_rfl) (o_s1P (C' := staE (⟨r, d, (0 : UInt64), ⟨none, 0, 0, []⟩, ⟨none, 0, 0, []⟩, lg, h⟩ : Sta)) (u := .slice none 0 0) H (i := 0) rfl rfl rfl cs34 rfl (staE_p3 _ (⟨none, 0, 0, []⟩)) (fun w H => ?_)); replace H : Hp _ w _ [_, _, _] := H
      refine ⟨H.sub (.cons _ (.cons_cons _ (List.nil_sublist _))), ?_⟩
      replace HS := H.sub (.cons _ (.cons_cons _ (List.nil_sublist _)))
      refine t_take 11 rfl (by kernel_rfl) (by kernel_rfl) (by kernel_rfl) (fun _ _ _ h => h) (fun w HS => r_fa rfl fo38_4) HS ?_; refine t_step 12 rfl (by kernel_rfl) (o_s1P (C' := staE (⟨r, d, (0 : UInt64), ⟨none, 0, 0, []⟩, ⟨none, 0, 0, []⟩, lg, h⟩ : Sta)) (u := .slice none 0 0) H (i := 0) rfl rfl rfl cs35 rfl (staE_p4 _ (⟨none, 0, 0, []⟩)) (fun w H => ?_)); replace H : Hp _ w _ [_, _, _] := H
      refine ⟨H.sub (.cons _ (.cons_cons _ (List.nil_sublist _))), ?_⟩
      replace HS := H.sub (.cons _ (.cons_cons _ (List.nil_sublist _)))
      refine t_take 13 rfl (by kernel_rfl) (by kernel_rfl) (by kernel_rfl) (fun _ _ _ h => h) (fun w HS => r_fa rfl fo38_5) HS ?_; refine t_step 14 rfl (by kernel_rfl) (o_s1P (C' := staE (⟨r, d, (0 : UInt64), ⟨none, 0, 0, []⟩, ⟨none, 0, 0, []⟩, ⟨hd a3, lg.len, c4, lg.l⟩, h⟩ : Sta)) (u := .slice (hd a3) lg.len c4) H (i := 0) rfl rfl rfl cs36 rfl (staE_p5 _ (⟨hd a3, lg.len, c4, lg.l⟩)) (fun w H => ?_)); replace H : Hp _ w _ ([.blk b1 (staE (⟨r, d, (0 : UInt64), ⟨none, 0, 0, []⟩, ⟨none, 0, 0, []⟩, ⟨hd a3, lg.len, c4, lg.l⟩, h⟩ : Sta)) 38, _, _]) := H
      refine ⟨H.sub (.cons _ (.cons_cons _ (List.nil_sublist _))), ?_⟩
      replace HS := H.sub (.cons _ (.cons_cons _ (List.nil_sublist _)))
      refine t_done (by kernel_rfl) ?_
      clear HS
      repeat refine c_seq ?_
      refine c_region ?_; refine l_op (o_val (r_fa rfl fo38_3) ?_); refine l_op (o_val (r_l1 (v := .slice none 0 0) H (i := 0) rfl rfl ct34 (staE_c3 _)) ?_); refine l_op (o_val (r_lens el34 rfl) ?_); refine l_op (o_val r_mv ?_); first | refine l_end ?_ | refine l_nil ?_
      repeat refine c_seq ?_
      refine c_block ?_; repeat refine c_seq ?_
      refine c_loop (fun (i5 : Nat) => [(1, .pointer (some ⟨b1, 0, none⟩)), (2, .pointer (some ⟨b2, 0, none⟩)), (20, VI 0), (21, VI (i5 : Int))])
        (fun (i5 : Nat) w => (i5 = 0) ∧ Hp w0 w [] ([.blk b1 (staE (⟨r, d, (0 : UInt64), ⟨none, 0, 0, []⟩, ⟨none, 0, 0, []⟩, ⟨hd a3, lg.len, c4, lg.l⟩, h⟩ : Sta)) 38, .blk b2 (staE (⟨(⟨List.replicate 32 (0 : UInt8), (show (List.replicate 32 (0 : UInt8)).length = 32 from (List.length_replicate ..))⟩ : Id32), 0, (0 : UInt64), ⟨none, 0, 0, []⟩, ⟨none, 0, 0, []⟩, ⟨none, 0, 0, []⟩, (⟨List.replicate 32 (0 : UInt8), (show (List.replicate 32 (0 : UInt8)).length = 32 from (List.length_replicate ..))⟩ : Id32)⟩ : Sta)) 38, .own a3 lg.len c4 ((lg.l).flatMap entE) 55 38]))
        (fun (i5 : Nat) => 0) 0 ⟨rfl, rfl, rfl, rfl, trivial⟩ ⟨rfl, H⟩ ?_
      clear H
      rintro i5 τ w ⟨hi5, H⟩
      repeat refine c_seq ?_
      refine c_region ?_; refine l_op (o_val (r_bin (a := (i5 : Int)) (b := 0) rfl rfl (fun _ => b_lssB false (decide_eq_false (by omega)))) ?_); first | refine l_end ?_ | refine l_nil ?_
      repeat refine c_seq ?_
      refine c_no rfl ?_; refine c_exit ?_; repeat refine c_seq ?_
      refine c_region ?_; refine l_op (o_val (r_ldA (C := staE (⟨r, d, (0 : UInt64), ⟨none, 0, 0, []⟩, ⟨none, 0, 0, []⟩, ⟨hd a3, lg.len, c4, lg.l⟩, h⟩ : Sta)) H (i := 0) rfl rfl rt38 (staE_len _)) ?_); refine l_op (o_stW (C' := staE (⟨r, d, (0 : UInt64), ⟨none, 0, 0, []⟩, ⟨none, 0, 0, []⟩, ⟨hd a3, lg.len, c4, lg.l⟩, h⟩ : Sta)) H (i := 1) rfl rfl rfl cs38 (staE_all _) (staE_len _) (staE_len _) (fun w H => ?_)); replace H : Hp _ w _ ([_, .blk b2 (staE (⟨r, d, (0 : UInt64), ⟨none, 0, 0, []⟩, ⟨none, 0, 0, []⟩, ⟨hd a3, lg.len, c4, lg.l⟩, h⟩ : Sta)) 38, _]) := H
      first | refine l_end ?_ | refine l_nil ?_
      refine c_ret ?_; try dsimp only [Exit.then, Exit.inBlock]
      refine e_retc Tryz.results17 H (i := 1) rfl rfl rt38 (staE_len _).symm ?_
      refine ⟨_, rfl, ?_⟩
      exact ⟨_, _, rfl, H.sub (.cons _ (.cons _ (.cons_cons _ (List.nil_sublist _))))⟩
     ·
      refine (o_val (r_l1 (v := lg.v) H (i := 0) rfl rfl ct36 (staE_c5 _)) ?_)
      refine ⟨H.sub (.cons _ (.cons_cons _ (List.nil_sublist _))), ?_⟩
      replace HS := H.sub (.cons _ (.cons_cons _ (List.nil_sublist _)))
      refine t_take 9 rfl (by kernel_rfl) (by kernel_rfl) (by kernel_rfl) (fun _ _ _ h => h) (fun w HS => r_fa rfl fo38_3) HS ?_; refine t_step 5 rfl (by kernel_rfl) (o_callR Tryz.func33 rfl rfl rfl (cln33_ret _) ?_); rintro _ w ⟨rfl, Hc⟩
      replace H : Hp _ w _ ([_, _]) := H.call Hc
      clear Hc
      refine ⟨H.sub (.cons _ (.cons_cons _ (List.nil_sublist _))), ?_⟩
      replace HS := H.sub (.cons _ (.cons_cons _ (List.nil_sublist _)))
      refine t_step 8 rfl (by kernel_rfl) (o_callR Tryz.func34 rfl rfl rfl (clne_ret _ lg (hlg.up H) hln hlm) ?_); rintro _ w ⟨a6, c7, rfl, Hc⟩
      replace H : Hp _ w _ ([_, _, .own a6 lg.len c7 ((lg.l).flatMap entE) 55 38]) := H.call Hc
      clear Hc
      refine ⟨H.sub (.cons _ (.cons_cons _ (List.nil_sublist _))), ?_⟩
      replace HS := H.sub (.cons _ (.cons_cons _ (List.nil_sublist _)))
      refine t_step 10 rfl (by kernel_rfl) (o_s1P (C' := staE (⟨r, d, (0 : UInt64), ⟨none, 0, 0, []⟩, ⟨none, 0, 0, []⟩, lg, h⟩ : Sta)) (u := .slice none 0 0) H (i := 0) rfl rfl rfl cs34 rfl (staE_p3 _ (⟨none, 0, 0, []⟩)) (fun w H => ?_)); replace H : Hp _ w _ [_, _, _] := H
      refine ⟨H.sub (.cons _ (.cons_cons _ (List.nil_sublist _))), ?_⟩
      replace HS := H.sub (.cons _ (.cons_cons _ (List.nil_sublist _)))
      refine t_take 11 rfl (by kernel_rfl) (by kernel_rfl) (by kernel_rfl) (fun _ _ _ h => h) (fun w HS => r_fa rfl fo38_4) HS ?_; refine t_step 12 rfl (by kernel_rfl) (o_s1P (C' := staE (⟨r, d, (0 : UInt64), ⟨none, 0, 0, []⟩, ⟨none, 0, 0, []⟩, lg, h⟩ : Sta)) (u := .slice none 0 0) H (i := 0) rfl rfl rfl cs35 rfl (staE_p4 _ (⟨none, 0, 0, []⟩)) (fun w H => ?_)); replace H : Hp _ w _ [_, _, _] := H
      refine ⟨H.sub (.cons _ (.cons_cons _ (List.nil_sublist _))), ?_⟩
      replace HS := H.sub (.cons _ (.cons_cons _ (List.nil_sublist _)))
      refine t_take 13 rfl (by kernel_rfl) (by kernel_rfl) (by kernel_rfl) (fun _ _ _ h => h) (fun w HS => r_fa rfl fo38_5) HS ?_; refine t_step 14 rfl (by kernel_rfl) (o_s1P (C' := staE (⟨r, d, (0 : UInt64), ⟨none, 0, 0, []⟩, ⟨none, 0, 0, []⟩, ⟨hd a6, lg.len, c7, lg.l⟩, h⟩ : Sta)) (u := .slice (hd a6) lg.len c7) H (i := 0) rfl rfl rfl cs36 rfl (staE_p5 _ (⟨hd a6, lg.len, c7, lg.l⟩)) (fun w H => ?_)); replace H : Hp _ w _ ([.blk b1 (staE (⟨r, d, (0 : UInt64), ⟨none, 0, 0, []⟩, ⟨none, 0, 0, []⟩, ⟨hd a6, lg.len, c7, lg.l⟩, h⟩ : Sta)) 38, _, _]) := H
      refine ⟨H.sub (.cons _ (.cons_cons _ (List.nil_sublist _))), ?_⟩
      replace HS := H.sub (.cons _ (.cons_cons _ (List.nil_sublist _)))
      refine t_done (by kernel_rfl) ?_
      clear HS
      repeat refine c_seq ?_
      refine c_region ?_; refine l_op (o_val (r_fa rfl fo38_3) ?_); refine l_op (o_val (r_l1 (v := .slice none 0 0) H (i := 0) rfl rfl ct34 (staE_c3 _)) ?_); refine l_op (o_val (r_lens el34 rfl) ?_); refine l_op (o_val r_mv ?_); first | refine l_end ?_ | refine l_nil ?_
      repeat refine c_seq ?_
      refine c_block ?_; repeat refine c_seq ?_
      refine c_loop (fun (i8 : Nat) => [(1, .pointer (some ⟨b1, 0, none⟩)), (2, .pointer (some ⟨b2, 0, none⟩)), (20, VI 0), (21, VI (i8 : Int))])
        (fun (i8 : Nat) w => (i8 = 0) ∧ Hp w0 w [] ([.blk b1 (staE (⟨r, d, (0 : UInt64), ⟨none, 0, 0, []⟩, ⟨none, 0, 0, []⟩, ⟨hd a6, lg.len, c7, lg.l⟩, h⟩ : Sta)) 38, .blk b2 (staE (⟨(⟨List.replicate 32 (0 : UInt8), (show (List.replicate 32 (0 : UInt8)).length = 32 from (List.length_replicate ..))⟩ : Id32), 0, (0 : UInt64), ⟨none, 0, 0, []⟩, ⟨none, 0, 0, []⟩, ⟨none, 0, 0, []⟩, (⟨List.replicate 32 (0 : UInt8), (show (List.replicate 32 (0 : UInt8)).length = 32 from (List.length_replicate ..))⟩ : Id32)⟩ : Sta)) 38, .own a6 lg.len c7 ((lg.l).flatMap entE) 55 38]))
        (fun (i8 : Nat) => 0) 0 ⟨rfl, rfl, rfl, rfl, trivial⟩ ⟨rfl, H⟩ ?_
      clear H
      rintro i8 τ w ⟨hi8, H⟩
      repeat refine c_seq ?_
      refine c_region ?_; refine l_op (o_val (r_bin (a := (i8 : Int)) (b := 0) rfl rfl (fun _ => b_lssB false (decide_eq_false (by omega)))) ?_); first | refine l_end ?_ | refine l_nil ?_
      repeat refine c_seq ?_
      refine c_no rfl ?_; refine c_exit ?_; repeat refine c_seq ?_
      refine c_region ?_; refine l_op (o_val (r_ldA (C := staE (⟨r, d, (0 : UInt64), ⟨none, 0, 0, []⟩, ⟨none, 0, 0, []⟩, ⟨hd a6, lg.len, c7, lg.l⟩, h⟩ : Sta)) H (i := 0) rfl rfl rt38 (staE_len _)) ?_); refine l_op (o_stW (C' := staE (⟨r, d, (0 : UInt64), ⟨none, 0, 0, []⟩, ⟨none, 0, 0, []⟩, ⟨hd a6, lg.len, c7, lg.l⟩, h⟩ : Sta)) H (i := 1) rfl rfl rfl cs38 (staE_all _) (staE_len _) (staE_len _) (fun w H => ?_)); replace H : Hp _ w _ ([_, .blk b2 (staE (⟨r, d, (0 : UInt64), ⟨none, 0, 0, []⟩, ⟨none, 0, 0, []⟩, ⟨hd a6, lg.len, c7, lg.l⟩, h⟩ : Sta)) 38, _]) := H
      first | refine l_end ?_ | refine l_nil ?_
      refine c_ret ?_; try dsimp only [Exit.then, Exit.inBlock]
      refine e_retc Tryz.results17 H (i := 1) rfl rfl rt38 (staE_len _).symm ?_
      refine ⟨_, rfl, ?_⟩
      exact ⟨_, _, rfl, H.sub (.cons _ (.cons _ (.cons_cons _ (List.nil_sublist _))))⟩
    ·
     refine (o_val (r_l1 (v := lg.v) H (i := 0) rfl rfl ct36 (staE_c5 _)) ?_)
     refine ⟨H.sub (.cons _ (.cons_cons _ (List.nil_sublist _))), ?_⟩
     replace HS := H.sub (.cons _ (.cons_cons _ (List.nil_sublist _)))
     refine t_step 4 rfl (by kernel_rfl) (o_val (r_l1 (v := .slice none 0 0) H (i := 0) rfl rfl ct35 (staE_c4 _)) ?_); refine ⟨H.sub (.cons _ (.cons_cons _ (List.nil_sublist _))), ?_⟩
     replace HS := H.sub (.cons _ (.cons_cons _ (List.nil_sublist _)))
     refine t_take 9 rfl (by kernel_rfl) (by kernel_rfl) (by kernel_rfl) (fun _ _ _ h => h) (fun w HS => r_fa rfl fo38_3) HS ?_; refine t_step 5 rfl (by kernel_rfl) (o_callR Tryz.func33 rfl rfl rfl (cln33_ret _) ?_); rintro _ w ⟨rfl, Hc⟩
     replace H : Hp _ w _ ([_, _]) := H.call Hc
     clear Hc
     refine ⟨H.sub (.cons _ (.cons_cons _ (List.nil_sublist _))), ?_⟩
     replace HS := H.sub (.cons _ (.cons_cons _ (List.nil_sublist _)))
     refine t_step 8 rfl (by kernel_rfl) (o_callR Tryz.func34 rfl rfl rfl (clne_ret _ lg (hlg.up H) hln hlm) ?_); rintro _ w ⟨a9, c10, rfl, Hc⟩
     replace H : Hp _ w _ ([_, _, .own a9 lg.len c10 ((lg.l).flatMap entE) 55 38]) := H.call Hc
     clear Hc
     refine ⟨H.sub (.cons _ (.cons_cons _ (List.nil_sublist _))), ?_⟩
     replace HS := H.sub (.cons _ (.cons_cons _ (List.nil_sublist _)))
     refine t_step 10 rfl (by kernel_rfl) (o_s1P (C' := staE (⟨r, d, (0 : UInt64), ⟨none, 0, 0, []⟩, ⟨none, 0, 0, []⟩, lg, h⟩ : Sta)) (u := .slice none 0 0) H (i := 0) rfl rfl rfl cs34 rfl (staE_p3 _ (⟨none, 0, 0, []⟩)) (fun w H => ?_)); replace H : Hp _ w _ [_, _, _] := H
     refine ⟨H.sub (.cons _ (.cons_cons _ (List.nil_sublist _))), ?_⟩
     replace HS := H.sub (.cons _ (.cons_cons _ (List.nil_sublist _)))
     refine t_take 11 rfl (by kernel_rfl) (by kernel_rfl) (by kernel_rfl) (fun _ _ _ h => h) (fun w HS => r_fa rfl fo38_4) HS ?_; refine t_step 12 rfl (by kernel_rfl) (o_s1P (C' := staE (⟨r, d, (0 : UInt64), ⟨none, 0, 0, []⟩, ⟨none, 0, 0, []⟩, lg, h⟩ : Sta)) (u := .slice none 0 0) H (i := 0) rfl rfl rfl cs35 rfl (staE_p4 _ (⟨none, 0, 0, []⟩)) (fun w H => ?_)); replace H : Hp _ w _ [_, _, _] := H
     refine ⟨H.sub (.cons _ (.cons_cons _ (List.nil_sublist _))), ?_⟩
     replace HS := H.sub (.cons _ (.cons_cons _ (List.nil_sublist _)))
     refine t_take 13 rfl (by kernel_rfl) (by kernel_rfl) (by kernel_rfl) (fun _ _ _ h => h) (fun w HS => r_fa rfl fo38_5) HS ?_; refine t_step 14 rfl (by kernel_rfl) (o_s1P (C' := staE (⟨r, d, (0 : UInt64), ⟨none, 0, 0, []⟩, ⟨none, 0, 0, []⟩, ⟨hd a9, lg.len, c10, lg.l⟩, h⟩ : Sta)) (u := .slice (hd a9) lg.len c10) H (i := 0) rfl rfl rfl cs36 rfl (staE_p5 _ (⟨hd a9, lg.len, c10, lg.l⟩)) (fun w H => ?_)); replace H : Hp _ w _ ([.blk b1 (staE (⟨r, d, (0 : UInt64), ⟨none, 0, 0, []⟩, ⟨none, 0, 0, []⟩, ⟨hd a9, lg.len, c10, lg.l⟩, h⟩ : Sta)) 38, _, _]) := H
     refine ⟨H.sub (.cons _ (.cons_cons _ (List.nil_sublist _))), ?_⟩
     replace HS := H.sub (.cons _ (.cons_cons _ (List.nil_sublist _)))
     refine t_done (by kernel_rfl) ?_
     clear HS
     repeat refine c_seq ?_
     refine c_region ?_; refine l_op (o_val (r_fa rfl fo38_3) ?_); refine l_op (o_val (r_l1 (v := .slice none 0 0) H (i := 0) rfl rfl ct34 (staE_c3 _)) ?_); refine l_op (o_val (r_lens el34 rfl) ?_); refine l_op (o_val r_mv ?_); first | refine l_end ?_ | refine l_nil ?_
     repeat refine c_seq ?_
     refine c_block ?_; repeat refine c_seq ?_
     refine c_loop (fun (i11 : Nat) => [(1, .pointer (some ⟨b1, 0, none⟩)), (2, .pointer (some ⟨b2, 0, none⟩)), (20, VI 0), (21, VI (i11 : Int))])
       (fun (i11 : Nat) w => (i11 = 0) ∧ Hp w0 w [] ([.blk b1 (staE (⟨r, d, (0 : UInt64), ⟨none, 0, 0, []⟩, ⟨none, 0, 0, []⟩, ⟨hd a9, lg.len, c10, lg.l⟩, h⟩ : Sta)) 38, .blk b2 (staE (⟨(⟨List.replicate 32 (0 : UInt8), (show (List.replicate 32 (0 : UInt8)).length = 32 from (List.length_replicate ..))⟩ : Id32), 0, (0 : UInt64), ⟨none, 0, 0, []⟩, ⟨none, 0, 0, []⟩, ⟨none, 0, 0, []⟩, (⟨List.replicate 32 (0 : UInt8), (show (List.replicate 32 (0 : UInt8)).length = 32 from (List.length_replicate ..))⟩ : Id32)⟩ : Sta)) 38, .own a9 lg.len c10 ((lg.l).flatMap entE) 55 38]))
       (fun (i11 : Nat) => 0) 0 ⟨rfl, rfl, rfl, rfl, trivial⟩ ⟨rfl, H⟩ ?_
     clear H
     rintro i11 τ w ⟨hi11, H⟩
     repeat refine c_seq ?_
     refine c_region ?_; refine l_op (o_val (r_bin (a := (i11 : Int)) (b := 0) rfl rfl (fun _ => b_lssB false (decide_eq_false (by omega)))) ?_); first | refine l_end ?_ | refine l_nil ?_
     repeat refine c_seq ?_
     refine c_no rfl ?_; refine c_exit ?_; repeat refine c_seq ?_
     refine c_region ?_; refine l_op (o_val (r_ldA (C := staE (⟨r, d, (0 : UInt64), ⟨none, 0, 0, []⟩, ⟨none, 0, 0, []⟩, ⟨hd a9, lg.len, c10, lg.l⟩, h⟩ : Sta)) H (i := 0) rfl rfl rt38 (staE_len _)) ?_); refine l_op (o_stW (C' := staE (⟨r, d, (0 : UInt64), ⟨none, 0, 0, []⟩, ⟨none, 0, 0, []⟩, ⟨hd a9, lg.len, c10, lg.l⟩, h⟩ : Sta)) H (i := 1) rfl rfl rfl cs38 (staE_all _) (staE_len _) (staE_len _) (fun w H => ?_)); replace H : Hp _ w _ ([_, .blk b2 (staE (⟨r, d, (0 : UInt64), ⟨none, 0, 0, []⟩, ⟨none, 0, 0, []⟩, ⟨hd a9, lg.len, c10, lg.l⟩, h⟩ : Sta)) 38, _]) := H
     first | refine l_end ?_ | refine l_nil ?_
     refine c_ret ?_; try dsimp only [Exit.then, Exit.inBlock]
     refine e_retc Tryz.results17 H (i := 1) rfl rfl rt38 (staE_len _).symm ?_
     refine ⟨_, rfl, ?_⟩
     exact ⟨_, _, rfl, H.sub (.cons _ (.cons _ (.cons_cons _ (List.nil_sublist _))))⟩
   ·
    refine (o_val (r_l1 (v := .slice none 0 0) H (i := 0) rfl rfl ct35 (staE_c4 _)) ?_)
    refine ⟨H.sub (.cons _ (.cons_cons _ (List.nil_sublist _))), ?_⟩
    replace HS := H.sub (.cons _ (.cons_cons _ (List.nil_sublist _)))
    refine t_all [2, 7] (by kernel_rfl) (by simp) (all_cons (w_op 2 rfl ?_) (all_cons (w_op 7 rfl ?_) (all_nil)))
    ·
     refine (o_callR Tryz.func32 rfl rfl rfl (cln32_ret _) ?_)
     rintro _ w ⟨rfl, Hc⟩
     replace H : Hp _ w _ ([_, _]) := H.call Hc
     clear Hc
     refine ⟨H.sub (.cons _ (.cons_cons _ (List.nil_sublist _))), ?_⟩
     replace HS := H.sub (.cons _ (.cons_cons _ (List.nil_sublist _)))
     refine t_all [5, 7] (by kernel_rfl) (by simp) (all_cons (w_op 5 rfl ?_) (all_cons (w_op 7 rfl ?_) (all_nil)))
     ·
      refine (o_callR Tryz.func33 rfl rfl rfl (cln33_ret _) ?_)
      rintro _ w ⟨rfl, Hc⟩
      replace H : Hp _ w _ ([_, _]) := H.call Hc
      clear Hc
      refine ⟨H.sub (.cons _ (.cons_cons _ (List.nil_sublist _))), ?_⟩
      replace HS := H.sub (.cons _ (.cons_cons _ (List.nil_sublist _)))
      refine t_step 7 rfl (by kernel_rfl) (o_val (r_l1 (v := lg.v) H (i := 0) rfl rfl ct36 (staE_c5 _)) ?_); refine ⟨H.sub (.cons _ (.cons_cons _ (List.nil_sublist _))), ?_⟩
      replace HS := H.sub (.cons _ (.cons_cons _ (List.nil_sublist _)))
      refine t_take 9 rfl (by kernel_rfl) (by kernel_rfl) (by kernel_rfl) (fun _ _ _ h => h) (fun w HS => r_fa rfl fo38_3) HS ?_; refine t_step 8 rfl (by kernel_rfl) (o_callR Tryz.func34 rfl rfl rfl (clne_ret _ lg (hlg.up H) hln hlm) ?_); rintro _ w ⟨a12, c13, rfl, Hc⟩
      replace H : Hp _ w _ ([_, _, .own a12 lg.len c13 ((lg.l).flatMap entE) 55 38]) := H.call Hc
      clear Hc
      refine ⟨H.sub (.cons _ (.cons_cons _ (List.nil_sublist _))), ?_⟩
      replace HS := H.sub (.cons _ (.cons_cons _ (List.nil_sublist _)))
      refine t_step 10 rfl (by kernel_rfl) (o_s1P (C' := staE (⟨r, d, (0 : UInt64), ⟨none, 0, 0, []⟩, ⟨none, 0, 0, []⟩, lg, h⟩ : Sta)) (u := .slice none 0 0) H (i := 0) rfl rfl rfl cs34 rfl (staE_p3 _ (⟨none, 0, 0, []⟩)) (fun w H => ?_)); replace H : Hp _ w _ [_, _, _] := H
      refine ⟨H.sub (.cons _ (.cons_cons _ (List.nil_sublist _))), ?_⟩
      replace HS := H.sub (.cons _ (.cons_cons _ (List.nil_sublist _)))
      refine t_take 11 rfl (by kernel_rfl) (by kernel_rfl) (by kernel_rfl) (fun _ _ _ h => h) (fun w HS => r_fa rfl fo38_4) HS ?_; refine t_step 12 rfl (by kernel_rfl) (o_s1P (C' := staE (⟨r, d, (0 : UInt64), ⟨none, 0, 0, []⟩, ⟨none, 0, 0, []⟩, lg, h⟩ : Sta)) (u := .slice none 0 0) H (i := 0) rfl rfl rfl cs35 rfl (staE_p4 _ (⟨none, 0, 0, []⟩)) (fun w H => ?_)); replace H : Hp _ w _ [_, _, _] := H
      refine ⟨H.sub (.cons _ (.cons_cons _ (List.nil_sublist _))), ?_⟩
      replace HS := H.sub (.cons _ (.cons_cons _ (List.nil_sublist _)))
      refine t_take 13 rfl (by kernel_rfl) (by kernel_rfl) (by kernel_rfl) (fun _ _ _ h => h) (fun w HS => r_fa rfl fo38_5) HS ?_; refine t_step 14 rfl (by kernel_rfl) (o_s1P (C' := staE (⟨r, d, (0 : UInt64), ⟨none, 0, 0, []⟩, ⟨none, 0, 0, []⟩, ⟨hd a12, lg.len, c13, lg.l⟩, h⟩ : Sta)) (u := .slice (hd a12) lg.len c13) H (i := 0) rfl rfl rfl cs36 rfl (staE_p5 _ (⟨hd a12, lg.len, c13, lg.l⟩)) (fun w H => ?_)); replace H : Hp _ w _ ([.blk b1 (staE (⟨r, d, (0 : UInt64), ⟨none, 0, 0, []⟩, ⟨none, 0, 0, []⟩, ⟨hd a12, lg.len, c13, lg.l⟩, h⟩ : Sta)) 38, _, _]) := H
      refine ⟨H.sub (.cons _ (.cons_cons _ (List.nil_sublist _))), ?_⟩
      replace HS := H.sub (.cons _ (.cons_cons _ (List.nil_sublist _)))
      refine t_done (by kernel_rfl) ?_
      clear HS
      repeat refine c_seq ?_
      refine c_region ?_; refine l_op (o_val (r_fa rfl fo38_3) ?_); refine l_op (o_val (r_l1 (v := .slice none 0 0) H (i := 0) rfl rfl ct34 (staE_c3 _)) ?_); refine l_op (o_val (r_lens el34 rfl) ?_); refine l_op (o_val r_mv ?_); first | refine l_end ?_ | refine l_nil ?_
      repeat refine c_seq ?_
      refine c_block ?_; repeat refine c_seq ?_
      refine c_loop (fun (i14 : Nat) => [(1, .pointer (some ⟨b1, 0, none⟩)), (2, .pointer (some ⟨b2, 0, none⟩)), (20, VI 0), (21, VI (i14 : Int))])
        (fun (i14 : Nat) w => (i14 = 0) ∧ Hp w0 w [] ([.blk b1 (staE (⟨r, d, (0 : UInt64), ⟨none, 0, 0, []⟩, ⟨none, 0, 0, []⟩, ⟨hd a12, lg.len, c13, lg.l⟩, h⟩ : Sta)) 38, .blk b2 (staE (⟨(⟨List.replicate 32 (0 : UInt8), (show (List.replicate 32 (0 : UInt8)).length = 32 from (List.length_replicate ..))⟩ : Id32), 0, (0 : UInt64), ⟨none, 0, 0, []⟩, ⟨none, 0, 0, []⟩, ⟨none, 0, 0, []⟩, (⟨List.replicate 32 (0 : UInt8), (show (List.replicate 32 (0 : UInt8)).length = 32 from (List.length_replicate ..))⟩ : Id32)⟩ : Sta)) 38, .own a12 lg.len c13 ((lg.l).flatMap entE) 55 38]))
        (fun (i14 : Nat) => 0) 0 ⟨rfl, rfl, rfl, rfl, trivial⟩ ⟨rfl, H⟩ ?_
      clear H
      rintro i14 τ w ⟨hi14, H⟩
      repeat refine c_seq ?_
      refine c_region ?_; refine l_op (o_val (r_bin (a := (i14 : Int)) (b := 0) rfl rfl (fun _ => b_lssB false (decide_eq_false (by omega)))) ?_); first | refine l_end ?_ | refine l_nil ?_
      repeat refine c_seq ?_
      refine c_no rfl ?_; refine c_exit ?_; repeat refine c_seq ?_
      refine c_region ?_; refine l_op (o_val (r_ldA (C := staE (⟨r, d, (0 : UInt64), ⟨none, 0, 0, []⟩, ⟨none, 0, 0, []⟩, ⟨hd a12, lg.len, c13, lg.l⟩, h⟩ : Sta)) H (i := 0) rfl rfl rt38 (staE_len _)) ?_); refine l_op (o_stW (C' := staE (⟨r, d, (0 : UInt64), ⟨none, 0, 0, []⟩, ⟨none, 0, 0, []⟩, ⟨hd a12, lg.len, c13, lg.l⟩, h⟩ : Sta)) H (i := 1) rfl rfl rfl cs38 (staE_all _) (staE_len _) (staE_len _) (fun w H => ?_)); replace H : Hp _ w _ ([_, .blk b2 (staE (⟨r, d, (0 : UInt64), ⟨none, 0, 0, []⟩, ⟨none, 0, 0, []⟩, ⟨hd a12, lg.len, c13, lg.l⟩, h⟩ : Sta)) 38, _]) := H
      first | refine l_end ?_ | refine l_nil ?_
      refine c_ret ?_; try dsimp only [Exit.then, Exit.inBlock]
      refine e_retc Tryz.results17 H (i := 1) rfl rfl rt38 (staE_len _).symm ?_
      refine ⟨_, rfl, ?_⟩
      exact ⟨_, _, rfl, H.sub (.cons _ (.cons _ (.cons_cons _ (List.nil_sublist _))))⟩
     ·
      refine (o_val (r_l1 (v := lg.v) H (i := 0) rfl rfl ct36 (staE_c5 _)) ?_)
      refine ⟨H.sub (.cons _ (.cons_cons _ (List.nil_sublist _))), ?_⟩
      replace HS := H.sub (.cons _ (.cons_cons _ (List.nil_sublist _)))
      refine t_take 9 rfl (by kernel_rfl) (by kernel_rfl) (by kernel_rfl) (fun _ _ _ h => h) (fun w HS => r_fa rfl fo38_3) HS ?_; refine t_step 5 rfl (by kernel_rfl) (o_callR Tryz.func33 rfl rfl rfl (cln33_ret _) ?_); rintro _ w ⟨rfl, Hc⟩
      replace H : Hp _ w _ ([_, _]) := H.call Hc
      clear Hc
      refine ⟨H.sub (.cons _ (.cons_cons _ (List.nil_sublist _))), ?_⟩
      replace HS := H.sub (.cons _ (.cons_cons _ (List.nil_sublist _)))
      refine t_step 8 rfl (by kernel_rfl) (o_callR Tryz.func34 rfl rfl rfl (clne_ret _ lg (hlg.up H) hln hlm) ?_); rintro _ w ⟨a15, c16, rfl, Hc⟩
      replace H : Hp _ w _ ([_, _, .own a15 lg.len c16 ((lg.l).flatMap entE) 55 38]) := H.call Hc
      clear Hc
      refine ⟨H.sub (.cons _ (.cons_cons _ (List.nil_sublist _))), ?_⟩
      replace HS := H.sub (.cons _ (.cons_cons _ (List.nil_sublist _)))
      refine t_step 10 rfl (by kernel_rfl) (o_s1P (C' := staE (⟨r, d, (0 : UInt64), ⟨none, 0, 0, []⟩, ⟨none, 0, 0, []⟩, lg, h⟩ : Sta)) (u := .slice none 0 0) H (i := 0) rfl rfl rfl cs34 rfl (staE_p3 _ (⟨none, 0, 0, []⟩)) (fun w H => ?_)); replace H : Hp _ w _ [_, _, _] := H
      refine ⟨H.sub (.cons _ (.cons_cons _ (List.nil_sublist _))), ?_⟩
      replace HS := H.sub (.cons _ (.cons_cons _ (List.nil_sublist _)))
      refine t_take 11 rfl (by kernel_rfl) (by kernel_rfl) (by kernel_rfl) (fun _ _ _ h => h) (fun w HS => r_fa rfl fo38_4) HS ?_; refine t_step 12 rfl (by kernel_rfl) (o_s1P (C' := staE (⟨r, d, (0 : UInt64), ⟨none, 0, 0, []⟩, ⟨none, 0, 0, []⟩, lg, h⟩ : Sta)) (u := .slice none 0 0) H (i := 0) rfl rfl rfl cs35 rfl (staE_p4 _ (⟨none, 0, 0, []⟩)) (fun w H => ?_)); replace H : Hp _ w _ [_, _, _] := H
      refine ⟨H.sub (.cons _ (.cons_cons _ (List.nil_sublist _))), ?_⟩
      replace HS := H.sub (.cons _ (.cons_cons _ (List.nil_sublist _)))
      refine t_take 13 rfl (by kernel_rfl) (by kernel_rfl) (by kernel_rfl) (fun _ _ _ h => h) (fun w HS => r_fa rfl fo38_5) HS ?_; refine t_step 14 rfl (by kernel_rfl) (o_s1P (C' := staE (⟨r, d, (0 : UInt64), ⟨none, 0, 0, []⟩, ⟨none, 0, 0, []⟩, ⟨hd a15, lg.len, c16, lg.l⟩, h⟩ : Sta)) (u := .slice (hd a15) lg.len c16) H (i := 0) rfl rfl rfl cs36 rfl (staE_p5 _ (⟨hd a15, lg.len, c16, lg.l⟩)) (fun w H => ?_)); replace H : Hp _ w _ ([.blk b1 (staE (⟨r, d, (0 : UInt64), ⟨none, 0, 0, []⟩, ⟨none, 0, 0, []⟩, ⟨hd a15, lg.len, c16, lg.l⟩, h⟩ : Sta)) 38, _, _]) := H
      refine ⟨H.sub (.cons _ (.cons_cons _ (List.nil_sublist _))), ?_⟩
      replace HS := H.sub (.cons _ (.cons_cons _ (List.nil_sublist _)))
      refine t_done (by kernel_rfl) ?_
      clear HS
      repeat refine c_seq ?_
      refine c_region ?_; refine l_op (o_val (r_fa rfl fo38_3) ?_); refine l_op (o_val (r_l1 (v := .slice none 0 0) H (i := 0) rfl rfl ct34 (staE_c3 _)) ?_); refine l_op (o_val (r_lens el34 rfl) ?_); refine l_op (o_val r_mv ?_); first | refine l_end ?_ | refine l_nil ?_
      repeat refine c_seq ?_
      refine c_block ?_; repeat refine c_seq ?_
      refine c_loop (fun (i17 : Nat) => [(1, .pointer (some ⟨b1, 0, none⟩)), (2, .pointer (some ⟨b2, 0, none⟩)), (20, VI 0), (21, VI (i17 : Int))])
        (fun (i17 : Nat) w => (i17 = 0) ∧ Hp w0 w [] ([.blk b1 (staE (⟨r, d, (0 : UInt64), ⟨none, 0, 0, []⟩, ⟨none, 0, 0, []⟩, ⟨hd a15, lg.len, c16, lg.l⟩, h⟩ : Sta)) 38, .blk b2 (staE (⟨(⟨List.replicate 32 (0 : UInt8), (show (List.replicate 32 (0 : UInt8)).length = 32 from (List.length_replicate ..))⟩ : Id32), 0, (0 : UInt64), ⟨none, 0, 0, []⟩, ⟨none, 0, 0, []⟩, ⟨none, 0, 0, []⟩, (⟨List.replicate 32 (0 : UInt8), (show (List.replicate 32 (0 : UInt8)).length = 32 from (List.length_replicate ..))⟩ : Id32)⟩ : Sta)) 38, .own a15 lg.len c16 ((lg.l).flatMap entE) 55 38]))
        (fun (i17 : Nat) => 0) 0 ⟨rfl, rfl, rfl, rfl, trivial⟩ ⟨rfl, H⟩ ?_
      clear H
      rintro i17 τ w ⟨hi17, H⟩
      repeat refine c_seq ?_
      refine c_region ?_; refine l_op (o_val (r_bin (a := (i17 : Int)) (b := 0) rfl rfl (fun _ => b_lssB false (decide_eq_false (by omega)))) ?_); first | refine l_end ?_ | refine l_nil ?_
      repeat refine c_seq ?_
      refine c_no rfl ?_; refine c_exit ?_; repeat refine c_seq ?_
      refine c_region ?_; refine l_op (o_val (r_ldA (C := staE (⟨r, d, (0 : UInt64), ⟨none, 0, 0, []⟩, ⟨none, 0, 0, []⟩, ⟨hd a15, lg.len, c16, lg.l⟩, h⟩ : Sta)) H (i := 0) rfl rfl rt38 (staE_len _)) ?_); refine l_op (o_stW (C' := staE (⟨r, d, (0 : UInt64), ⟨none, 0, 0, []⟩, ⟨none, 0, 0, []⟩, ⟨hd a15, lg.len, c16, lg.l⟩, h⟩ : Sta)) H (i := 1) rfl rfl rfl cs38 (staE_all _) (staE_len _) (staE_len _) (fun w H => ?_)); replace H : Hp _ w _ ([_, .blk b2 (staE (⟨r, d, (0 : UInt64), ⟨none, 0, 0, []⟩, ⟨none, 0, 0, []⟩, ⟨hd a15, lg.len, c16, lg.l⟩, h⟩ : Sta)) 38, _]) := H
      first | refine l_end ?_ | refine l_nil ?_
      refine c_ret ?_; try dsimp only [Exit.then, Exit.inBlock]
      refine e_retc Tryz.results17 H (i := 1) rfl rfl rt38 (staE_len _).symm ?_
      refine ⟨_, rfl, ?_⟩
      exact ⟨_, _, rfl, H.sub (.cons _ (.cons _ (.cons_cons _ (List.nil_sublist _))))⟩
    ·
     refine (o_val (r_l1 (v := lg.v) H (i := 0) rfl rfl ct36 (staE_c5 _)) ?_)
     refine ⟨H.sub (.cons _ (.cons_cons _ (List.nil_sublist _))), ?_⟩
     replace HS := H.sub (.cons _ (.cons_cons _ (List.nil_sublist _)))
     refine t_step 2 rfl (by kernel_rfl) (o_callR Tryz.func32 rfl rfl rfl (cln32_ret _) ?_); rintro _ w ⟨rfl, Hc⟩
     replace H : Hp _ w _ ([_, _]) := H.call Hc
     clear Hc
     refine ⟨H.sub (.cons _ (.cons_cons _ (List.nil_sublist _))), ?_⟩
     replace HS := H.sub (.cons _ (.cons_cons _ (List.nil_sublist _)))
     refine t_take 9 rfl (by kernel_rfl) (by kernel_rfl) (by kernel_rfl) (fun _ _ _ h => h) (fun w HS => r_fa rfl fo38_3) HS ?_; refine t_step 5 rfl (by kernel_rfl) (o_callR Tryz.func33 rfl rfl rfl (cln33_ret _) ?_); rintro _ w ⟨rfl, Hc⟩
     replace H : Hp _ w _ ([_, _]) := H.call Hc
     clear Hc
     refine ⟨H.sub (.cons _ (.cons_cons _ (List.nil_sublist _))), ?_⟩
     replace HS := H.sub (.cons _ (.cons_cons _ (List.nil_sublist _)))
     refine t_step 8 rfl (by kernel_rfl) (o_callR Tryz.func34 rfl rfl rfl (clne_ret _ lg (hlg.up H) hln hlm) ?_); rintro _ w ⟨a18, c19, rfl, Hc⟩
     replace H : Hp _ w _ ([_, _, .own a18 lg.len c19 ((lg.l).flatMap entE) 55 38]) := H.call Hc
     clear Hc
     refine ⟨H.sub (.cons _ (.cons_cons _ (List.nil_sublist _))), ?_⟩
     replace HS := H.sub (.cons _ (.cons_cons _ (List.nil_sublist _)))
     refine t_step 10 rfl (by kernel_rfl) (o_s1P (C' := staE (⟨r, d, (0 : UInt64), ⟨none, 0, 0, []⟩, ⟨none, 0, 0, []⟩, lg, h⟩ : Sta)) (u := .slice none 0 0) H (i := 0) rfl rfl rfl cs34 rfl (staE_p3 _ (⟨none, 0, 0, []⟩)) (fun w H => ?_)); replace H : Hp _ w _ [_, _, _] := H
     refine ⟨H.sub (.cons _ (.cons_cons _ (List.nil_sublist _))), ?_⟩
     replace HS := H.sub (.cons _ (.cons_cons _ (List.nil_sublist _)))
     refine t_take 11 rfl (by kernel_rfl) (by kernel_rfl) (by kernel_rfl) (fun _ _ _ h => h) (fun w HS => r_fa rfl fo38_4) HS ?_; refine t_step 12 rfl (by kernel_rfl) (o_s1P (C' := staE (⟨r, d, (0 : UInt64), ⟨none, 0, 0, []⟩, ⟨none, 0, 0, []⟩, lg, h⟩ : Sta)) (u := .slice none 0 0) H (i := 0) rfl rfl rfl cs35 rfl (staE_p4 _ (⟨none, 0, 0, []⟩)) (fun w H => ?_)); replace H : Hp _ w _ [_, _, _] := H
     refine ⟨H.sub (.cons _ (.cons_cons _ (List.nil_sublist _))), ?_⟩
     replace HS := H.sub (.cons _ (.cons_cons _ (List.nil_sublist _)))
     refine t_take 13 rfl (by kernel_rfl) (by kernel_rfl) (by kernel_rfl) (fun _ _ _ h => h) (fun w HS => r_fa rfl fo38_5) HS ?_; refine t_step 14 rfl (by kernel_rfl) (o_s1P (C' := staE (⟨r, d, (0 : UInt64), ⟨none, 0, 0, []⟩, ⟨none, 0, 0, []⟩, ⟨hd a18, lg.len, c19, lg.l⟩, h⟩ : Sta)) (u := .slice (hd a18) lg.len c19) H (i := 0) rfl rfl rfl cs36 rfl (staE_p5 _ (⟨hd a18, lg.len, c19, lg.l⟩)) (fun w H => ?_)); replace H : Hp _ w _ ([.blk b1 (staE (⟨r, d, (0 : UInt64), ⟨none, 0, 0, []⟩, ⟨none, 0, 0, []⟩, ⟨hd a18, lg.len, c19, lg.l⟩, h⟩ : Sta)) 38, _, _]) := H
     refine ⟨H.sub (.cons _ (.cons_cons _ (List.nil_sublist _))), ?_⟩
     replace HS := H.sub (.cons _ (.cons_cons _ (List.nil_sublist _)))
     refine t_done (by kernel_rfl) ?_
     clear HS
     repeat refine c_seq ?_
     refine c_region ?_; refine l_op (o_val (r_fa rfl fo38_3) ?_); refine l_op (o_val (r_l1 (v := .slice none 0 0) H (i := 0) rfl rfl ct34 (staE_c3 _)) ?_); refine l_op (o_val (r_lens el34 rfl) ?_); refine l_op (o_val r_mv ?_); first | refine l_end ?_ | refine l_nil ?_
     repeat refine c_seq ?_
     refine c_block ?_; repeat refine c_seq ?_
     refine c_loop (fun (i20 : Nat) => [(1, .pointer (some ⟨b1, 0, none⟩)), (2, .pointer (some ⟨b2, 0, none⟩)), (20, VI 0), (21, VI (i20 : Int))])
       (fun (i20 : Nat) w => (i20 = 0) ∧ Hp w0 w [] ([.blk b1 (staE (⟨r, d, (0 : UInt64), ⟨none, 0, 0, []⟩, ⟨none, 0, 0, []⟩, ⟨hd a18, lg.len, c19, lg.l⟩, h⟩ : Sta)) 38, .blk b2 (staE (⟨(⟨List.replicate 32 (0 : UInt8), (show (List.replicate 32 (0 : UInt8)).length = 32 from (List.length_replicate ..))⟩ : Id32), 0, (0 : UInt64), ⟨none, 0, 0, []⟩, ⟨none, 0, 0, []⟩, ⟨none, 0, 0, []⟩, (⟨List.replicate 32 (0 : UInt8), (show (List.replicate 32 (0 : UInt8)).length = 32 from (List.length_replicate ..))⟩ : Id32)⟩ : Sta)) 38, .own a18 lg.len c19 ((lg.l).flatMap entE) 55 38]))
       (fun (i20 : Nat) => 0) 0 ⟨rfl, rfl, rfl, rfl, trivial⟩ ⟨rfl, H⟩ ?_
     clear H
     rintro i20 τ w ⟨hi20, H⟩
     repeat refine c_seq ?_
     refine c_region ?_; refine l_op (o_val (r_bin (a := (i20 : Int)) (b := 0) rfl rfl (fun _ => b_lssB false (decide_eq_false (by omega)))) ?_); first | refine l_end ?_ | refine l_nil ?_
     repeat refine c_seq ?_
     refine c_no rfl ?_; refine c_exit ?_; repeat refine c_seq ?_
     refine c_region ?_; refine l_op (o_val (r_ldA (C := staE (⟨r, d, (0 : UInt64), ⟨none, 0, 0, []⟩, ⟨none, 0, 0, []⟩, ⟨hd a18, lg.len, c19, lg.l⟩, h⟩ : Sta)) H (i := 0) rfl rfl rt38 (staE_len _)) ?_); refine l_op (o_stW (C' := staE (⟨r, d, (0 : UInt64), ⟨none, 0, 0, []⟩, ⟨none, 0, 0, []⟩, ⟨hd a18, lg.len, c19, lg.l⟩, h⟩ : Sta)) H (i := 1) rfl rfl rfl cs38 (staE_all _) (staE_len _) (staE_len _) (fun w H => ?_)); replace H : Hp _ w _ ([_, .blk b2 (staE (⟨r, d, (0 : UInt64), ⟨none, 0, 0, []⟩, ⟨none, 0, 0, []⟩, ⟨hd a18, lg.len, c19, lg.l⟩, h⟩ : Sta)) 38, _]) := H
     first | refine l_end ?_ | refine l_nil ?_
     refine c_ret ?_; try dsimp only [Exit.then, Exit.inBlock]
     refine e_retc Tryz.results17 H (i := 1) rfl rfl rt38 (staE_len _).symm ?_
     refine ⟨_, rfl, ?_⟩
     exact ⟨_, _, rfl, H.sub (.cons _ (.cons _ (.cons_cons _ (List.nil_sublist _))))⟩
   ·
    refine (o_val (r_l1 (v := lg.v) H (i := 0) rfl rfl ct36 (staE_c5 _)) ?_)
    refine ⟨H.sub (.cons _ (.cons_cons _ (List.nil_sublist _))), ?_⟩
    replace HS := H.sub (.cons _ (.cons_cons _ (List.nil_sublist _)))
    refine t_all [2, 4] (by kernel_rfl) (by simp) (all_cons (w_op 2 rfl ?_) (all_cons (w_op 4 rfl ?_) (all_nil)))
    ·
     refine (o_callR Tryz.func32 rfl rfl rfl (cln32_ret _) ?_)
     rintro _ w ⟨rfl, Hc⟩
     replace H : Hp _ w _ ([_, _]) := H.call Hc
     clear Hc
     refine ⟨H.sub (.cons _ (.cons_cons _ (List.nil_sublist _))), ?_⟩
     replace HS := H.sub (.cons _ (.cons_cons _ (List.nil_sublist _)))
     refine t_step 4 rfl (by kernel_rfl) (o_val (r_l1 (v := .slice none 0 0) H (i := 0) rfl rfl ct35 (staE_c4 _)) ?_); refine ⟨H.sub (.cons _ (.cons_cons _ (List.nil_sublist _))), ?_⟩
     replace HS := H.sub (.cons _ (.cons_cons _ (List.nil_sublist _)))
     refine t_take 9 rfl (by kernel_rfl) (by kernel_rfl) (by kernel_rfl) (fun _ _ _ h => h) (fun w HS => r_fa rfl fo38_3) HS ?_; refine t_step 5 rfl (by kernel_rfl) (o_callR Tryz.func33 rfl rfl rfl (cln33_ret _) ?_); rintro _ w ⟨rfl, Hc⟩
     replace H : Hp _ w _ ([_, _]) := H.call Hc
     clear Hc
     refine ⟨H.sub (.cons _ (.cons_cons _ (List.nil_sublist _))), ?_⟩
     replace HS := H.sub (.cons _ (.cons_cons _ (List.nil_sublist _)))
     refine t_step 8 rfl (by kernel_rfl) (o_callR Tryz.func34 rfl rfl rfl (clne_ret _ lg (hlg.up H) hln hlm) ?_); rintro _ w ⟨a21, c22, rfl, Hc⟩
     replace H : Hp _ w _ ([_, _, .own a21 lg.len c22 ((lg.l).flatMap entE) 55 38]) := H.call Hc
     clear Hc
     refine ⟨H.sub (.cons _ (.cons_cons _ (List.nil_sublist _))), ?_⟩
     replace HS := H.sub (.cons _ (.cons_cons _ (List.nil_sublist _)))
     refine t_step 10 rfl (by kernel_rfl) (o_s1P (C' := staE (⟨r, d, (0 : UInt64), ⟨none, 0, 0, []⟩, ⟨none, 0, 0, []⟩, lg, h⟩ : Sta)) (u := .slice none 0 0) H (i := 0) rfl rfl rfl cs34 rfl (staE_p3 _ (⟨none, 0, 0, []⟩)) (fun w H => ?_)); replace H : Hp _ w _ [_, _, _] := H
     refine ⟨H.sub (.cons _ (.cons_cons _ (List.nil_sublist _))), ?_⟩
     replace HS := H.sub (.cons _ (.cons_cons _ (List.nil_sublist _)))
     refine t_take 11 rfl (by kernel_rfl) (by kernel_rfl) (by kernel_rfl) (fun _ _ _ h => h) (fun w HS => r_fa rfl fo38_4) HS ?_; refine t_step 12 rfl (by kernel_rfl) (o_s1P (C' := staE (⟨r, d, (0 : UInt64), ⟨none, 0, 0, []⟩, ⟨none, 0, 0, []⟩, lg, h⟩ : Sta)) (u := .slice none 0 0) H (i := 0) rfl rfl rfl cs35 rfl (staE_p4 _ (⟨none, 0, 0, []⟩)) (fun w H => ?_)); replace H : Hp _ w _ [_, _, _] := H
     refine ⟨H.sub (.cons _ (.cons_cons _ (List.nil_sublist _))), ?_⟩
     replace HS := H.sub (.cons _ (.cons_cons _ (List.nil_sublist _)))
     refine t_take 13 rfl (by kernel_rfl) (by kernel_rfl) (by kernel_rfl) (fun _ _ _ h => h) (fun w HS => r_fa rfl fo38_5) HS ?_; refine t_step 14 rfl (by kernel_rfl) (o_s1P (C' := staE (⟨r, d, (0 : UInt64), ⟨none, 0, 0, []⟩, ⟨none, 0, 0, []⟩, ⟨hd a21, lg.len, c22, lg.l⟩, h⟩ : Sta)) (u := .slice (hd a21) lg.len c22) H (i := 0) rfl rfl rfl cs36 rfl (staE_p5 _ (⟨hd a21, lg.len, c22, lg.l⟩)) (fun w H => ?_)); replace H : Hp _ w _ ([.blk b1 (staE (⟨r, d, (0 : UInt64), ⟨none, 0, 0, []⟩, ⟨none, 0, 0, []⟩, ⟨hd a21, lg.len, c22, lg.l⟩, h⟩ : Sta)) 38, _, _]) := H
     refine ⟨H.sub (.cons _ (.cons_cons _ (List.nil_sublist _))), ?_⟩
     replace HS := H.sub (.cons _ (.cons_cons _ (List.nil_sublist _)))
     refine t_done (by kernel_rfl) ?_
     clear HS
     repeat refine c_seq ?_
     refine c_region ?_; refine l_op (o_val (r_fa rfl fo38_3) ?_); refine l_op (o_val (r_l1 (v := .slice none 0 0) H (i := 0) rfl rfl ct34 (staE_c3 _)) ?_); refine l_op (o_val (r_lens el34 rfl) ?_); refine l_op (o_val r_mv ?_); first | refine l_end ?_ | refine l_nil ?_
     repeat refine c_seq ?_
     refine c_block ?_; repeat refine c_seq ?_
     refine c_loop (fun (i23 : Nat) => [(1, .pointer (some ⟨b1, 0, none⟩)), (2, .pointer (some ⟨b2, 0, none⟩)), (20, VI 0), (21, VI (i23 : Int))])
       (fun (i23 : Nat) w => (i23 = 0) ∧ Hp w0 w [] ([.blk b1 (staE (⟨r, d, (0 : UInt64), ⟨none, 0, 0, []⟩, ⟨none, 0, 0, []⟩, ⟨hd a21, lg.len, c22, lg.l⟩, h⟩ : Sta)) 38, .blk b2 (staE (⟨(⟨List.replicate 32 (0 : UInt8), (show (List.replicate 32 (0 : UInt8)).length = 32 from (List.length_replicate ..))⟩ : Id32), 0, (0 : UInt64), ⟨none, 0, 0, []⟩, ⟨none, 0, 0, []⟩, ⟨none, 0, 0, []⟩, (⟨List.replicate 32 (0 : UInt8), (show (List.replicate 32 (0 : UInt8)).length = 32 from (List.length_replicate ..))⟩ : Id32)⟩ : Sta)) 38, .own a21 lg.len c22 ((lg.l).flatMap entE) 55 38]))
       (fun (i23 : Nat) => 0) 0 ⟨rfl, rfl, rfl, rfl, trivial⟩ ⟨rfl, H⟩ ?_
     clear H
     rintro i23 τ w ⟨hi23, H⟩
     repeat refine c_seq ?_
     refine c_region ?_; refine l_op (o_val (r_bin (a := (i23 : Int)) (b := 0) rfl rfl (fun _ => b_lssB false (decide_eq_false (by omega)))) ?_); first | refine l_end ?_ | refine l_nil ?_
     repeat refine c_seq ?_
     refine c_no rfl ?_; refine c_exit ?_; repeat refine c_seq ?_
     refine c_region ?_; refine l_op (o_val (r_ldA (C := staE (⟨r, d, (0 : UInt64), ⟨none, 0, 0, []⟩, ⟨none, 0, 0, []⟩, ⟨hd a21, lg.len, c22, lg.l⟩, h⟩ : Sta)) H (i := 0) rfl rfl rt38 (staE_len _)) ?_); refine l_op (o_stW (C' := staE (⟨r, d, (0 : UInt64), ⟨none, 0, 0, []⟩, ⟨none, 0, 0, []⟩, ⟨hd a21, lg.len, c22, lg.l⟩, h⟩ : Sta)) H (i := 1) rfl rfl rfl cs38 (staE_all _) (staE_len _) (staE_len _) (fun w H => ?_)); replace H : Hp _ w _ ([_, .blk b2 (staE (⟨r, d, (0 : UInt64), ⟨none, 0, 0, []⟩, ⟨none, 0, 0, []⟩, ⟨hd a21, lg.len, c22, lg.l⟩, h⟩ : Sta)) 38, _]) := H
     first | refine l_end ?_ | refine l_nil ?_
     refine c_ret ?_; try dsimp only [Exit.then, Exit.inBlock]
     refine e_retc Tryz.results17 H (i := 1) rfl rfl rt38 (staE_len _).symm ?_
     refine ⟨_, rfl, ?_⟩
     exact ⟨_, _, rfl, H.sub (.cons _ (.cons _ (.cons_cons _ (List.nil_sublist _))))⟩
    ·
     refine (o_val (r_l1 (v := .slice none 0 0) H (i := 0) rfl rfl ct35 (staE_c4 _)) ?_)
     refine ⟨H.sub (.cons _ (.cons_cons _ (List.nil_sublist _))), ?_⟩
     replace HS := H.sub (.cons _ (.cons_cons _ (List.nil_sublist _)))
     refine t_step 2 rfl (by kernel_rfl) (o_callR Tryz.func32 rfl rfl rfl (cln32_ret _) ?_); rintro _ w ⟨rfl, Hc⟩
     replace H : Hp _ w _ ([_, _]) := H.call Hc
     clear Hc
     refine ⟨H.sub (.cons _ (.cons_cons _ (List.nil_sublist _))), ?_⟩
     replace HS := H.sub (.cons _ (.cons_cons _ (List.nil_sublist _)))
     refine t_take 9 rfl (by kernel_rfl) (by kernel_rfl) (by kernel_rfl) (fun _ _ _ h => h) (fun w HS => r_fa rfl fo38_3) HS ?_; refine t_step 5 rfl (by kernel_rfl) (o_callR Tryz.func33 rfl rfl rfl (cln33_ret _) ?_); rintro _ w ⟨rfl, Hc⟩
     replace H : Hp _ w _ ([_, _]) := H.call Hc
     clear Hc
     refine ⟨H.sub (.cons _ (.cons_cons _ (List.nil_sublist _))), ?_⟩
     replace HS := H.sub (.cons _ (.cons_cons _ (List.nil_sublist _)))
     refine t_step 8 rfl (by kernel_rfl) (o_callR Tryz.func34 rfl rfl rfl (clne_ret _ lg (hlg.up H) hln hlm) ?_); rintro _ w ⟨a24, c25, rfl, Hc⟩
     replace H : Hp _ w _ ([_, _, .own a24 lg.len c25 ((lg.l).flatMap entE) 55 38]) := H.call Hc
     clear Hc
     refine ⟨H.sub (.cons _ (.cons_cons _ (List.nil_sublist _))), ?_⟩
     replace HS := H.sub (.cons _ (.cons_cons _ (List.nil_sublist _)))
     refine t_step 10 rfl (by kernel_rfl) (o_s1P (C' := staE (⟨r, d, (0 : UInt64), ⟨none, 0, 0, []⟩, ⟨none, 0, 0, []⟩, lg, h⟩ : Sta)) (u := .slice none 0 0) H (i := 0) rfl rfl rfl cs34 rfl (staE_p3 _ (⟨none, 0, 0, []⟩)) (fun w H => ?_)); replace H : Hp _ w _ [_, _, _] := H
     refine ⟨H.sub (.cons _ (.cons_cons _ (List.nil_sublist _))), ?_⟩
     replace HS := H.sub (.cons _ (.cons_cons _ (List.nil_sublist _)))
     refine t_take 11 rfl (by kernel_rfl) (by kernel_rfl) (by kernel_rfl) (fun _ _ _ h => h) (fun w HS => r_fa rfl fo38_4) HS ?_; refine t_step 12 rfl (by kernel_rfl) (o_s1P (C' := staE (⟨r, d, (0 : UInt64), ⟨none, 0, 0, []⟩, ⟨none, 0, 0, []⟩, lg, h⟩ : Sta)) (u := .slice none 0 0) H (i := 0) rfl rfl rfl cs35 rfl (staE_p4 _ (⟨none, 0, 0, []⟩)) (fun w H => ?_)); replace H : Hp _ w _ [_, _, _] := H
     refine ⟨H.sub (.cons _ (.cons_cons _ (List.nil_sublist _))), ?_⟩
     replace HS := H.sub (.cons _ (.cons_cons _ (List.nil_sublist _)))
     refine t_take 13 rfl (by kernel_rfl) (by kernel_rfl) (by kernel_rfl) (fun _ _ _ h => h) (fun w HS => r_fa rfl fo38_5) HS ?_; refine t_step 14 rfl (by kernel_rfl) (o_s1P (C' := staE (⟨r, d, (0 : UInt64), ⟨none, 0, 0, []⟩, ⟨none, 0, 0, []⟩, ⟨hd a24, lg.len, c25, lg.l⟩, h⟩ : Sta)) (u := .slice (hd a24) lg.len c25) H (i := 0) rfl rfl rfl cs36 rfl (staE_p5 _ (⟨hd a24, lg.len, c25, lg.l⟩)) (fun w H => ?_)); replace H : Hp _ w _ ([.blk b1 (staE (⟨r, d, (0 : UInt64), ⟨none, 0, 0, []⟩, ⟨none, 0, 0, []⟩, ⟨hd a24, lg.len, c25, lg.l⟩, h⟩ : Sta)) 38, _, _]) := H
     refine ⟨H.sub (.cons _ (.cons_cons _ (List.nil_sublist _))), ?_⟩
     replace HS := H.sub (.cons _ (.cons_cons _ (List.nil_sublist _)))
     refine t_done (by kernel_rfl) ?_
     clear HS
     repeat refine c_seq ?_
     refine c_region ?_; refine l_op (o_val (r_fa rfl fo38_3) ?_); refine l_op (o_val (r_l1 (v := .slice none 0 0) H (i := 0) rfl rfl ct34 (staE_c3 _)) ?_); refine l_op (o_val (r_lens el34 rfl) ?_); refine l_op (o_val r_mv ?_); first | refine l_end ?_ | refine l_nil ?_
     repeat refine c_seq ?_
     refine c_block ?_; repeat refine c_seq ?_
     refine c_loop (fun (i26 : Nat) => [(1, .pointer (some ⟨b1, 0, none⟩)), (2, .pointer (some ⟨b2, 0, none⟩)), (20, VI 0), (21, VI (i26 : Int))])
       (fun (i26 : Nat) w => (i26 = 0) ∧ Hp w0 w [] ([.blk b1 (staE (⟨r, d, (0 : UInt64), ⟨none, 0, 0, []⟩, ⟨none, 0, 0, []⟩, ⟨hd a24, lg.len, c25, lg.l⟩, h⟩ : Sta)) 38, .blk b2 (staE (⟨(⟨List.replicate 32 (0 : UInt8), (show (List.replicate 32 (0 : UInt8)).length = 32 from (List.length_replicate ..))⟩ : Id32), 0, (0 : UInt64), ⟨none, 0, 0, []⟩, ⟨none, 0, 0, []⟩, ⟨none, 0, 0, []⟩, (⟨List.replicate 32 (0 : UInt8), (show (List.replicate 32 (0 : UInt8)).length = 32 from (List.length_replicate ..))⟩ : Id32)⟩ : Sta)) 38, .own a24 lg.len c25 ((lg.l).flatMap entE) 55 38]))
       (fun (i26 : Nat) => 0) 0 ⟨rfl, rfl, rfl, rfl, trivial⟩ ⟨rfl, H⟩ ?_
     clear H
     rintro i26 τ w ⟨hi26, H⟩
     repeat refine c_seq ?_
     refine c_region ?_; refine l_op (o_val (r_bin (a := (i26 : Int)) (b := 0) rfl rfl (fun _ => b_lssB false (decide_eq_false (by omega)))) ?_); first | refine l_end ?_ | refine l_nil ?_
     repeat refine c_seq ?_
     refine c_no rfl ?_; refine c_exit ?_; repeat refine c_seq ?_
     refine c_region ?_; refine l_op (o_val (r_ldA (C := staE (⟨r, d, (0 : UInt64), ⟨none, 0, 0, []⟩, ⟨none, 0, 0, []⟩, ⟨hd a24, lg.len, c25, lg.l⟩, h⟩ : Sta)) H (i := 0) rfl rfl rt38 (staE_len _)) ?_); refine l_op (o_stW (C' := staE (⟨r, d, (0 : UInt64), ⟨none, 0, 0, []⟩, ⟨none, 0, 0, []⟩, ⟨hd a24, lg.len, c25, lg.l⟩, h⟩ : Sta)) H (i := 1) rfl rfl rfl cs38 (staE_all _) (staE_len _) (staE_len _) (fun w H => ?_)); replace H : Hp _ w _ ([_, .blk b2 (staE (⟨r, d, (0 : UInt64), ⟨none, 0, 0, []⟩, ⟨none, 0, 0, []⟩, ⟨hd a24, lg.len, c25, lg.l⟩, h⟩ : Sta)) 38, _]) := H
     first | refine l_end ?_ | refine l_nil ?_
     refine c_ret ?_; try dsimp only [Exit.then, Exit.inBlock]
     refine e_retc Tryz.results17 H (i := 1) rfl rfl rt38 (staE_len _).symm ?_
     refine ⟨_, rfl, ?_⟩
     exact ⟨_, _, rfl, H.sub (.cons _ (.cons _ (.cons_cons _ (List.nil_sublist _))))⟩
  ·
   refine (o_val (r_l1 (v := .slice none 0 0) H (i := 0) rfl rfl ct35 (staE_c4 _)) ?_)
   refine ⟨H.sub (.cons _ (.cons_cons _ (List.nil_sublist _))), ?_⟩
   replace HS := H.sub (.cons _ (.cons_cons _ (List.nil_sublist _)))
   refine t_all [1, 7] (by kernel_rfl) (by simp) (all_cons (w_op 1 rfl ?_) (all_cons (w_op 7 rfl ?_) (all_nil)))
   ·
    refine (o_val (r_l1 (v := .slice none 0 0) H (i := 0) rfl rfl ct34 (staE_c3 _)) ?_)
    refine ⟨H.sub (.cons _ (.cons_cons _ (List.nil_sublist _))), ?_⟩
    replace HS := H.sub (.cons _ (.cons_cons _ (List.nil_sublist _)))
    refine t_all [2, 7] (by kernel_rfl) (by simp) (all_cons (w_op 2 rfl ?_) (all_cons (w_op 7 rfl ?_) (all_nil)))
    ·
     refine (o_callR Tryz.func32 rfl rfl rfl (cln32_ret _) ?_)
     rintro _ w ⟨rfl, Hc⟩
     replace H : Hp _ w _ ([_, _]) := H.call Hc
     clear Hc
     refine ⟨H.sub (.cons _ (.cons_cons _ (List.nil_sublist _))), ?_⟩
     replace HS := H.sub (.cons _ (.cons_cons _ (List.nil_sublist _)))
     refine t_all [5, 7] (by kernel_rfl) (by simp) (all_cons (w_op 5 rfl ?_) (all_cons (w_op 7 rfl ?_) (all_nil)))
     ·
      refine (o_callR Tryz.func33 rfl rfl rfl (cln33_ret _) ?_)
      rintro _ w ⟨rfl, Hc⟩
      replace H : Hp _ w _ ([_, _]) := H.call Hc
      clear Hc
      refine ⟨H.sub (.cons _ (.cons_cons _ (List.nil_sublist _))), ?_⟩
      replace HS := H.sub (.cons _ (.cons_cons _ (List.nil_sublist _)))
      refine t_step 7 rfl (by kernel_rfl) (o_val (r_l1 (v := lg.v) H (i := 0) rfl rfl ct36 (staE_c5 _)) ?_); refine ⟨H.sub (.cons _ (.cons_cons _ (List.nil_sublist _))), ?_⟩
      replace HS := H.sub (.cons _ (.cons_cons _ (List.nil_sublist _)))
      refine t_take 9 rfl (by kernel_rfl) (by kernel_rfl) (by kernel_rfl) (fun _ _ _ h => h) (fun w HS => r_fa rfl fo38_3) HS ?_; refine t_step 8 rfl (by kernel_rfl) (o_callR Tryz.func34 rfl rfl rfl (clne_ret _ lg (hlg.up H) hln hlm) ?_); rintro _ w ⟨a27, c28, rfl, Hc⟩
      replace H : Hp _ w _ ([_, _, .own a27 lg.len c28 ((lg.l).flatMap entE) 55 38]) := H.call Hc
      clear Hc
      refine ⟨H.sub (.cons _ (.cons_cons _ (List.nil_sublist _))), ?_⟩
      replace HS := H.sub (.cons _ (.cons_cons _ (List.nil_sublist _)))
      refine t_step 10 rfl (by kernel_rfl) (o_s1P (C' := staE (⟨r, d, (0 : UInt64), ⟨none, 0, 0, []⟩, ⟨none, 0, 0, []⟩, lg, h⟩ : Sta)) (u := .slice none 0 0) H (i := 0) rfl rfl rfl cs34 rfl (staE_p3 _ (⟨none, 0, 0, []⟩)) (fun w H => ?_)); replace H : Hp _ w _ [_, _, _] := H
      refine ⟨H.sub (.cons _ (.cons_cons _ (List.nil_sublist _))), ?_⟩
      replace HS := H.sub (.cons _ (.cons_cons _ (List.nil_sublist _)))
      refine t_take 11 rfl (by kernel_rfl) (by kernel_rfl) (by kernel_rfl) (fun _ _ _ h => h) (fun w HS => r_fa rfl fo38_4) HS ?_; refine t_step 12 rfl (by kernel_rfl) (o_s1P (C' := staE (⟨r, d, (0 : UInt64), ⟨none, 0, 0, []⟩, ⟨none, 0, 0, []⟩, lg, h⟩ : Sta)) (u := .slice none 0 0) H (i := 0) rfl rfl rfl cs35 rfl (staE_p4 _ (⟨none, 0, 0, []⟩)) (fun w H => ?_)); replace H : Hp _ w _ [_, _, _] := H
      refine ⟨H.sub (.cons _ (.cons_cons _ (List.nil_sublist _))), ?_⟩
      replace HS := H.sub (.cons _ (.cons_cons _ (List.nil_sublist _)))
      refine t_take 13 rfl (by kernel_rfl) (by kernel_rfl) (by kernel_rfl) (fun _ _ _ h => h) (fun w HS => r_fa rfl fo38_5) HS ?_; refine t_step 14 rfl (by kernel_rfl) (o_s1P (C' := staE (⟨r, d, (0 : UInt64), ⟨none, 0, 0, []⟩, ⟨none, 0, 0, []⟩, ⟨hd a27, lg.len, c28, lg.l⟩, h⟩ : Sta)) (u := .slice (hd a27) lg.len c28) H (i := 0) rfl rfl rfl cs36 rfl (staE_p5 _ (⟨hd a27, lg.len, c28, lg.l⟩)) (fun w H => ?_)); replace H : Hp _ w _ ([.blk b1 (staE (⟨r, d, (0 : UInt64), ⟨none, 0, 0, []⟩, ⟨none, 0, 0, []⟩, ⟨hd a27, lg.len, c28, lg.l⟩, h⟩ : Sta)) 38, _, _]) := H
      refine ⟨H.sub (.cons _ (.cons_cons _ (List.nil_sublist _))), ?_⟩
      replace HS := H.sub (.cons _ (.cons_cons _ (List.nil_sublist _)))
      refine t_done (by kernel_rfl) ?_
      clear HS
      repeat refine c_seq ?_
      refine c_region ?_; refine l_op (o_val (r_fa rfl fo38_3) ?_); refine l_op (o_val (r_l1 (v := .slice none 0 0) H (i := 0) rfl rfl ct34 (staE_c3 _)) ?_); refine l_op (o_val (r_lens el34 rfl) ?_); refine l_op (o_val r_mv ?_); first | refine l_end ?_ | refine l_nil ?_
      repeat refine c_seq ?_
      refine c_block ?_; repeat refine c_seq ?_
      refine c_loop (fun (i29 : Nat) => [(1, .pointer (some ⟨b1, 0, none⟩)), (2, .pointer (some ⟨b2, 0, none⟩)), (20, VI 0), (21, VI (i29 : Int))])
        (fun (i29 : Nat) w => (i29 = 0) ∧ Hp w0 w [] ([.blk b1 (staE (⟨r, d, (0 : UInt64), ⟨none, 0, 0, []⟩, ⟨none, 0, 0, []⟩, ⟨hd a27, lg.len, c28, lg.l⟩, h⟩ : Sta)) 38, .blk b2 (staE (⟨(⟨List.replicate 32 (0 : UInt8), (show (List.replicate 32 (0 : UInt8)).length = 32 from (List.length_replicate ..))⟩ : Id32), 0, (0 : UInt64), ⟨none, 0, 0, []⟩, ⟨none, 0, 0, []⟩, ⟨none, 0, 0, []⟩, (⟨List.replicate 32 (0 : UInt8), (show (List.replicate 32 (0 : UInt8)).length = 32 from (List.length_replicate ..))⟩ : Id32)⟩ : Sta)) 38, .own a27 lg.len c28 ((lg.l).flatMap entE) 55 38]))
        (fun (i29 : Nat) => 0) 0 ⟨rfl, rfl, rfl, rfl, trivial⟩ ⟨rfl, H⟩ ?_
      clear H
      rintro i29 τ w ⟨hi29, H⟩
      repeat refine c_seq ?_
      refine c_region ?_; refine l_op (o_val (r_bin (a := (i29 : Int)) (b := 0) rfl rfl (fun _ => b_lssB false (decide_eq_false (by omega)))) ?_); first | refine l_end ?_ | refine l_nil ?_
      repeat refine c_seq ?_
      refine c_no rfl ?_; refine c_exit ?_; repeat refine c_seq ?_
      refine c_region ?_; refine l_op (o_val (r_ldA (C := staE (⟨r, d, (0 : UInt64), ⟨none, 0, 0, []⟩, ⟨none, 0, 0, []⟩, ⟨hd a27, lg.len, c28, lg.l⟩, h⟩ : Sta)) H (i := 0) rfl rfl rt38 (staE_len _)) ?_); refine l_op (o_stW (C' := staE (⟨r, d, (0 : UInt64), ⟨none, 0, 0, []⟩, ⟨none, 0, 0, []⟩, ⟨hd a27, lg.len, c28, lg.l⟩, h⟩ : Sta)) H (i := 1) rfl rfl rfl cs38 (staE_all _) (staE_len _) (staE_len _) (fun w H => ?_)); replace H : Hp _ w _ ([_, .blk b2 (staE (⟨r, d, (0 : UInt64), ⟨none, 0, 0, []⟩, ⟨none, 0, 0, []⟩, ⟨hd a27, lg.len, c28, lg.l⟩, h⟩ : Sta)) 38, _]) := H
      first | refine l_end ?_ | refine l_nil ?_
      refine c_ret ?_; try dsimp only [Exit.then, Exit.inBlock]
      refine e_retc Tryz.results17 H (i := 1) rfl rfl rt38 (staE_len _).symm ?_
      refine ⟨_, rfl, ?_⟩
      exact ⟨_, _, rfl, H.sub (.cons _ (.cons _ (.cons_cons _ (List.nil_sublist _))))⟩
     ·
      refine (o_val (r_l1 (v := lg.v) H (i := 0) rfl rfl ct36 (staE_c5 _)) ?_)
      refine ⟨H.sub (.cons _ (.cons_cons _ (List.nil_sublist _))), ?_⟩
      replace HS := H.sub (.cons _ (.cons_cons _ (List.nil_sublist _)))
      refine t_take 9 rfl (by kernel_rfl) (by kernel_rfl) (by kernel_rfl) (fun _ _ _ h => h) (fun w HS => r_fa rfl fo38_3) HS ?_; refine t_step 5 rfl (by kernel_rfl) (o_callR Tryz.func33 rfl rfl rfl (cln33_ret _) ?_); rintro _ w ⟨rfl, Hc⟩
      replace H : Hp _ w _ ([_, _]) := H.call Hc
      clear Hc
      refine ⟨H.sub (.cons _ (.cons_cons _ (List.nil_sublist _))), ?_⟩
      replace HS := H.sub (.cons _ (.cons_cons _ (List.nil_sublist _)))
      refine t_step 8 rfl (by kernel_rfl) (o_callR Tryz.func34 rfl rfl rfl (clne_ret _ lg (hlg.up H) hln hlm) ?_); rintro _ w ⟨a30, c31, rfl, Hc⟩
      replace H : Hp _ w _ ([_, _, .own a30 lg.len c31 ((lg.l).flatMap entE) 55 38]) := H.call Hc
      clear Hc
      refine ⟨H.sub (.cons _ (.cons_cons _ (List.nil_sublist _))), ?_⟩
      replace HS := H.sub (.cons _ (.cons_cons _ (List.nil_sublist _)))
      refine t_step 10 rfl (by kernel_rfl) (o_s1P (C' := staE (⟨r, d, (0 : UInt64), ⟨none, 0, 0, []⟩, ⟨none, 0, 0, []⟩, lg, h⟩ : Sta)) (u := .slice none 0 0) H (i := 0) rfl rfl rfl cs34 rfl (staE_p3 _ (⟨none, 0, 0, []⟩)) (fun w H => ?_)); replace H : Hp _ w _ [_, _, _] := H
      refine ⟨H.sub (.cons _ (.cons_cons _ (List.nil_sublist _))), ?_⟩
      replace HS := H.sub (.cons _ (.cons_cons _ (List.nil_sublist _)))
      refine t_take 11 rfl (by kernel_rfl) (by kernel_rfl) (by kernel_rfl) (fun _ _ _ h => h) (fun w HS => r_fa rfl fo38_4) HS ?_; refine t_step 12 rfl (by kernel_rfl) (o_s1P (C' := staE (⟨r, d, (0 : UInt64), ⟨none, 0, 0, []⟩, ⟨none, 0, 0, []⟩, lg, h⟩ : Sta)) (u := .slice none 0 0) H (i := 0) rfl rfl rfl cs35 rfl (staE_p4 _ (⟨none, 0, 0, []⟩)) (fun w H => ?_)); replace H : Hp _ w _ [_, _, _] := H
      refine ⟨H.sub (.cons _ (.cons_cons _ (List.nil_sublist _))), ?_⟩
      replace HS := H.sub (.cons _ (.cons_cons _ (List.nil_sublist _)))
      refine t_take 13 rfl (by kernel_rfl) (by kernel_rfl) (by kernel_rfl) (fun _ _ _ h => h) (fun w HS => r_fa rfl fo38_5) HS ?_; refine t_step 14 rfl (by kernel_rfl) (o_s1P (C' := staE (⟨r, d, (0 : UInt64), ⟨none, 0, 0, []⟩, ⟨none, 0, 0, []⟩, ⟨hd a30, lg.len, c31, lg.l⟩, h⟩ : Sta)) (u := .slice (hd a30) lg.len c31) H (i := 0) rfl rfl rfl cs36 rfl (staE_p5 _ (⟨hd a30, lg.len, c31, lg.l⟩)) (fun w H => ?_)); replace H : Hp _ w _ ([.blk b1 (staE (⟨r, d, (0 : UInt64), ⟨none, 0, 0, []⟩, ⟨none, 0, 0, []⟩, ⟨hd a30, lg.len, c31, lg.l⟩, h⟩ : Sta)) 38, _, _]) := H
      refine ⟨H.sub (.cons _ (.cons_cons _ (List.nil_sublist _))), ?_⟩
      replace HS := H.sub (.cons _ (.cons_cons _ (List.nil_sublist _)))
      refine t_done (by kernel_rfl) ?_
      clear HS
      repeat refine c_seq ?_
      refine c_region ?_; refine l_op (o_val (r_fa rfl fo38_3) ?_); refine l_op (o_val (r_l1 (v := .slice none 0 0) H (i := 0) rfl rfl ct34 (staE_c3 _)) ?_); refine l_op (o_val (r_lens el34 rfl) ?_); refine l_op (o_val r_mv ?_); first | refine l_end ?_ | refine l_nil ?_
      repeat refine c_seq ?_
      refine c_block ?_; repeat refine c_seq ?_
      refine c_loop (fun (i32 : Nat) => [(1, .pointer (some ⟨b1, 0, none⟩)), (2, .pointer (some ⟨b2, 0, none⟩)), (20, VI 0), (21, VI (i32 : Int))])
        (fun (i32 : Nat) w => (i32 = 0) ∧ Hp w0 w [] ([.blk b1 (staE (⟨r, d, (0 : UInt64), ⟨none, 0, 0, []⟩, ⟨none, 0, 0, []⟩, ⟨hd a30, lg.len, c31, lg.l⟩, h⟩ : Sta)) 38, .blk b2 (staE (⟨(⟨List.replicate 32 (0 : UInt8), (show (List.replicate 32 (0 : UInt8)).length = 32 from (List.length_replicate ..))⟩ : Id32), 0, (0 : UInt64), ⟨none, 0, 0, []⟩, ⟨none, 0, 0, []⟩, ⟨none, 0, 0, []⟩, (⟨List.replicate 32 (0 : UInt8), (show (List.replicate 32 (0 : UInt8)).length = 32 from (List.length_replicate ..))⟩ : Id32)⟩ : Sta)) 38, .own a30 lg.len c31 ((lg.l).flatMap entE) 55 38]))
        (fun (i32 : Nat) => 0) 0 ⟨rfl, rfl, rfl, rfl, trivial⟩ ⟨rfl, H⟩ ?_
      clear H
      rintro i32 τ w ⟨hi32, H⟩
      repeat refine c_seq ?_
      refine c_region ?_; refine l_op (o_val (r_bin (a := (i32 : Int)) (b := 0) rfl rfl (fun _ => b_lssB false (decide_eq_false (by omega)))) ?_); first | refine l_end ?_ | refine l_nil ?_
      repeat refine c_seq ?_
      refine c_no rfl ?_; refine c_exit ?_; repeat refine c_seq ?_
      refine c_region ?_; refine l_op (o_val (r_ldA (C := staE (⟨r, d, (0 : UInt64), ⟨none, 0, 0, []⟩, ⟨none, 0, 0, []⟩, ⟨hd a30, lg.len, c31, lg.l⟩, h⟩ : Sta)) H (i := 0) rfl rfl rt38 (staE_len _)) ?_); refine l_op (o_stW (C' := staE (⟨r, d, (0 : UInt64), ⟨none, 0, 0, []⟩, ⟨none, 0, 0, []⟩, ⟨hd a30, lg.len, c31, lg.l⟩, h⟩ : Sta)) H (i := 1) rfl rfl rfl cs38 (staE_all _) (staE_len _) (staE_len _) (fun w H => ?_)); replace H : Hp _ w _ ([_, .blk b2 (staE (⟨r, d, (0 : UInt64), ⟨none, 0, 0, []⟩, ⟨none, 0, 0, []⟩, ⟨hd a30, lg.len, c31, lg.l⟩, h⟩ : Sta)) 38, _]) := H
      first | refine l_end ?_ | refine l_nil ?_
      refine c_ret ?_; try dsimp only [Exit.then, Exit.inBlock]
      refine e_retc Tryz.results17 H (i := 1) rfl rfl rt38 (staE_len _).symm ?_
      refine ⟨_, rfl, ?_⟩
      exact ⟨_, _, rfl, H.sub (.cons _ (.cons _ (.cons_cons _ (List.nil_sublist _))))⟩
    ·
     refine (o_val (r_l1 (v := lg.v) H (i := 0) rfl rfl ct36 (staE_c5 _)) ?_)
     refine ⟨H.sub (.cons _ (.cons_cons _ (List.nil_sublist _))), ?_⟩
     replace HS := H.sub (.cons _ (.cons_cons _ (List.nil_sublist _)))
     refine t_step 2 rfl (by kernel_rfl) (o_callR Tryz.func32 rfl rfl rfl (cln32_ret _) ?_); rintro _ w ⟨rfl, Hc⟩
     replace H : Hp _ w _ ([_, _]) := H.call Hc
     clear Hc
     refine ⟨H.sub (.cons _ (.cons_cons _ (List.nil_sublist _))), ?_⟩
     replace HS := H.sub (.cons _ (.cons_cons _ (List.nil_sublist _)))
     refine t_take 9 rfl (by kernel_rfl) (by kernel_rfl) (by kernel_rfl) (fun _ _ _ h => h) (fun w HS => r_fa rfl fo38_3) HS ?_; refine t_step 5 rfl (by kernel_rfl) (o_callR Tryz.func33 rfl rfl rfl (cln33_ret _) ?_); rintro _ w ⟨rfl, Hc⟩
     replace H : Hp _ w _ ([_, _]) := H.call Hc
     clear Hc
     refine ⟨H.sub (.cons _ (.cons_cons _ (List.nil_sublist _))), ?_⟩
     replace HS := H.sub (.cons _ (.cons_cons _ (List.nil_sublist _)))
     refine t_step 8 rfl (by kernel_rfl) (o_callR Tryz.func34 rfl rfl rfl (clne_ret _ lg (hlg.up H) hln hlm) ?_); rintro _ w ⟨a33, c34, rfl, Hc⟩
     replace H : Hp _ w _ ([_, _, .own a33 lg.len c34 ((lg.l).flatMap entE) 55 38]) := H.call Hc
     clear Hc
     refine ⟨H.sub (.cons _ (.cons_cons _ (List.nil_sublist _))), ?_⟩
     replace HS := H.sub (.cons _ (.cons_cons _ (List.nil_sublist _)))
     refine t_step 10 rfl (by kernel_rfl) (o_s1P (C' := staE (⟨r, d, (0 : UInt64), ⟨none, 0, 0, []⟩, ⟨none, 0, 0, []⟩, lg, h⟩ : Sta)) (u := .slice none 0 0) H (i := 0) rfl rfl rfl cs34 rfl (staE_p3 _ (⟨none, 0, 0, []⟩)) (fun w H => ?_)); replace H : Hp _ w _ [_, _, _] := H
     refine ⟨H.sub (.cons _ (.cons_cons _ (List.nil_sublist _))), ?_⟩
     replace HS := H.sub (.cons _ (.cons_cons _ (List.nil_sublist _)))
     refine t_take 11 rfl (by kernel_rfl) (by kernel_rfl) (by kernel_rfl) (fun _ _ _ h => h) (fun w HS => r_fa rfl fo38_4) HS ?_; refine t_step 12 rfl (by kernel_rfl) (o_s1P (C' := staE (⟨r, d, (0 : UInt64), ⟨none, 0, 0, []⟩, ⟨none, 0, 0, []⟩, lg, h⟩ : Sta)) (u := .slice none 0 0) H (i := 0) rfl rfl rfl cs35 rfl (staE_p4 _ (⟨none, 0, 0, []⟩)) (fun w H => ?_)); replace H : Hp _ w _ [_, _, _] := H
     refine ⟨H.sub (.cons _ (.cons_cons _ (List.nil_sublist _))), ?_⟩
     replace HS := H.sub (.cons _ (.cons_cons _ (List.nil_sublist _)))
     refine t_take 13 rfl (by kernel_rfl) (by kernel_rfl) (by kernel_rfl) (fun _ _ _ h => h) (fun w HS => r_fa rfl fo38_5) HS ?_; refine t_step 14 rfl (by kernel_rfl) (o_s1P (C' := staE (⟨r, d, (0 : UInt64), ⟨none, 0, 0, []⟩, ⟨none, 0, 0, []⟩, ⟨hd a33, lg.len, c34, lg.l⟩, h⟩ : Sta)) (u := .slice (hd a33) lg.len c34) H (i := 0) rfl rfl rfl cs36 rfl (staE_p5 _ (⟨hd a33, lg.len, c34, lg.l⟩)) (fun w H => ?_)); replace H : Hp _ w _ ([.blk b1 (staE (⟨r, d, (0 : UInt64), ⟨none, 0, 0, []⟩, ⟨none, 0, 0, []⟩, ⟨hd a33, lg.len, c34, lg.l⟩, h⟩ : Sta)) 38, _, _]) := H
     refine ⟨H.sub (.cons _ (.cons_cons _ (List.nil_sublist _))), ?_⟩
     replace HS := H.sub (.cons _ (.cons_cons _ (List.nil_sublist _)))
     refine t_done (by kernel_rfl) ?_
     clear HS
     repeat refine c_seq ?_
     refine c_region ?_; refine l_op (o_val (r_fa rfl fo38_3) ?_); refine l_op (o_val (r_l1 (v := .slice none 0 0) H (i := 0) rfl rfl ct34 (staE_c3 _)) ?_); refine l_op (o_val (r_lens el34 rfl) ?_); refine l_op (o_val r_mv ?_); first | refine l_end ?_ | refine l_nil ?_
     repeat refine c_seq ?_
     refine c_block ?_; repeat refine c_seq ?_
     refine c_loop (fun (i35 : Nat) => [(1, .pointer (some ⟨b1, 0, none⟩)), (2, .pointer (some ⟨b2, 0, none⟩)), (20, VI 0), (21, VI (i35 : Int))])
       (fun (i35 : Nat) w => (i35 = 0) ∧ Hp w0 w [] ([.blk b1 (staE (⟨r, d, (0 : UInt64), ⟨none, 0, 0, []⟩, ⟨none, 0, 0, []⟩, ⟨hd a33, lg.len, c34, lg.l⟩, h⟩ : Sta)) 38, .blk b2 (staE (⟨(⟨List.replicate 32 (0 : UInt8), (show (List.replicate 32 (0 : UInt8)).length = 32 from (List.length_replicate ..))⟩ : Id32), 0, (0 : UInt64), ⟨none, 0, 0, []⟩, ⟨none, 0, 0, []⟩, ⟨none, 0, 0, []⟩, (⟨List.replicate 32 (0 : UInt8), (show (List.replicate 32 (0 : UInt8)).length = 32 from (List.length_replicate ..))⟩ : Id32)⟩ : Sta)) 38, .own a33 lg.len c34 ((lg.l).flatMap entE) 55 38]))
       (fun (i35 : Nat) => 0) 0 ⟨rfl, rfl, rfl, rfl, trivial⟩ ⟨rfl, H⟩ ?_
     clear H
     rintro i35 τ w ⟨hi35, H⟩
     repeat refine c_seq ?_
     refine c_region ?_; refine l_op (o_val (r_bin (a := (i35 : Int)) (b := 0) rfl rfl (fun _ => b_lssB false (decide_eq_false (by omega)))) ?_); first | refine l_end ?_ | refine l_nil ?_
     repeat refine c_seq ?_
     refine c_no rfl ?_; refine c_exit ?_; repeat refine c_seq ?_
     refine c_region ?_; refine l_op (o_val (r_ldA (C := staE (⟨r, d, (0 : UInt64), ⟨none, 0, 0, []⟩, ⟨none, 0, 0, []⟩, ⟨hd a33, lg.len, c34, lg.l⟩, h⟩ : Sta)) H (i := 0) rfl rfl rt38 (staE_len _)) ?_); refine l_op (o_stW (C' := staE (⟨r, d, (0 : UInt64), ⟨none, 0, 0, []⟩, ⟨none, 0, 0, []⟩, ⟨hd a33, lg.len, c34, lg.l⟩, h⟩ : Sta)) H (i := 1) rfl rfl rfl cs38 (staE_all _) (staE_len _) (staE_len _) (fun w H => ?_)); replace H : Hp _ w _ ([_, .blk b2 (staE (⟨r, d, (0 : UInt64), ⟨none, 0, 0, []⟩, ⟨none, 0, 0, []⟩, ⟨hd a33, lg.len, c34, lg.l⟩, h⟩ : Sta)) 38, _]) := H
     first | refine l_end ?_ | refine l_nil ?_
     refine c_ret ?_; try dsimp only [Exit.then, Exit.inBlock]
     refine e_retc Tryz.results17 H (i := 1) rfl rfl rt38 (staE_len _).symm ?_
     refine ⟨_, rfl, ?_⟩
     exact ⟨_, _, rfl, H.sub (.cons _ (.cons _ (.cons_cons _ (List.nil_sublist _))))⟩
   ·
    refine (o_val (r_l1 (v := lg.v) H (i := 0) rfl rfl ct36 (staE_c5 _)) ?_)
    refine ⟨H.sub (.cons _ (.cons_cons _ (List.nil_sublist _))), ?_⟩
    replace HS := H.sub (.cons _ (.cons_cons _ (List.nil_sublist _)))
    refine t_step 1 rfl (by kernel_rfl) (o_val (r_l1 (v := .slice none 0 0) H (i := 0) rfl rfl ct34 (staE_c3 _)) ?_); refine ⟨H.sub (.cons _ (.cons_cons _ (List.nil_sublist _))), ?_⟩
    replace HS := H.sub (.cons _ (.cons_cons _ (List.nil_sublist _)))
    refine t_step 2 rfl (by kernel_rfl) (o_callR Tryz.func32 rfl rfl rfl (cln32_ret _) ?_); rintro _ w ⟨rfl, Hc⟩
    replace H : Hp _ w _ ([_, _]) := H.call Hc
    clear Hc
    refine ⟨H.sub (.cons _ (.cons_cons _ (List.nil_sublist _))), ?_⟩
    replace HS := H.sub (.cons _ (.cons_cons _ (List.nil_sublist _)))
    refine t_take 9 rfl (by kernel_rfl) (by kernel_rfl) (by kernel_rfl) (fun _ _ _ h => h) (fun w HS => r_fa rfl fo38_3) HS ?_; refine t_step 5 rfl (by kernel_rfl) (o_callR Tryz.func33 rfl rfl rfl (cln33_ret _) ?_); rintro _ w ⟨rfl, Hc⟩
    replace H : Hp _ w _ ([_, _]) := H.call Hc
    clear Hc
    refine ⟨H.sub (.cons _ (.cons_cons _ (List.nil_sublist _))), ?_⟩
    replace HS := H.sub (.cons _ (.cons_cons _ (List.nil_sublist _)))
    refine t_step 8 rfl (by kernel_rfl) (o_callR Tryz.func34 rfl rfl rfl (clne_ret _ lg (hlg.up H) hln hlm) ?_); rintro _ w ⟨a36, c37, rfl, Hc⟩
    replace H : Hp _ w _ ([_, _, .own a36 lg.len c37 ((lg.l).flatMap entE) 55 38]) := H.call Hc
    clear Hc
    refine ⟨H.sub (.cons _ (.cons_cons _ (List.nil_sublist _))), ?_⟩
    replace HS := H.sub (.cons _ (.cons_cons _ (List.nil_sublist _)))
    refine t_step 10 rfl (by kernel_rfl) (o_s1P (C' := staE (⟨r, d, (0 : UInt64), ⟨none, 0, 0, []⟩, ⟨none, 0, 0, []⟩, lg, h⟩ : Sta)) (u := .slice none 0 0) H (i := 0) rfl rfl rfl cs34 rfl (staE_p3 _ (⟨none, 0, 0, []⟩)) (fun w H => ?_)); replace H : Hp _ w _ [_, _, _] := H
    refine ⟨H.sub (.cons _ (.cons_cons _ (List.nil_sublist _))), ?_⟩
    replace HS := H.sub (.cons _ (.cons_cons _ (List.nil_sublist _)))
    refine t_take 11 rfl (by kernel_rfl) (by kernel_rfl) (by kernel_rfl) (fun _ _ _ h => h) (fun w HS => r_fa rfl fo38_4) HS ?_; refine t_step 12 rfl (by kernel_rfl) (o_s1P (C' := staE (⟨r, d, (0 : UInt64), ⟨none, 0, 0, []⟩, ⟨none, 0, 0, []⟩, lg, h⟩ : Sta)) (u := .slice none 0 0) H (i := 0) rfl rfl rfl cs35 rfl (staE_p4 _ (⟨none, 0, 0, []⟩)) (fun w H => ?_)); replace H : Hp _ w _ [_, _, _] := H
    refine ⟨H.sub (.cons _ (.cons_cons _ (List.nil_sublist _))), ?_⟩
    replace HS := H.sub (.cons _ (.cons_cons _ (List.nil_sublist _)))
    refine t_take 13 rfl (by kernel_rfl) (by kernel_rfl) (by kernel_rfl) (fun _ _ _ h => h) (fun w HS => r_fa rfl fo38_5) HS ?_; refine t_step 14 rfl (by kernel_rfl) (o_s1P (C' := staE (⟨r, d, (0 : UInt64), ⟨none, 0, 0, []⟩, ⟨none, 0, 0, []⟩, ⟨hd a36, lg.len, c37, lg.l⟩, h⟩ : Sta)) (u := .slice (hd a36) lg.len c37) H (i := 0) rfl rfl rfl cs36 rfl (staE_p5 _ (⟨hd a36, lg.len, c37, lg.l⟩)) (fun w H => ?_)); replace H : Hp _ w _ ([.blk b1 (staE (⟨r, d, (0 : UInt64), ⟨none, 0, 0, []⟩, ⟨none, 0, 0, []⟩, ⟨hd a36, lg.len, c37, lg.l⟩, h⟩ : Sta)) 38, _, _]) := H
    refine ⟨H.sub (.cons _ (.cons_cons _ (List.nil_sublist _))), ?_⟩
    replace HS := H.sub (.cons _ (.cons_cons _ (List.nil_sublist _)))
    refine t_done (by kernel_rfl) ?_
    clear HS
    repeat refine c_seq ?_
    refine c_region ?_; refine l_op (o_val (r_fa rfl fo38_3) ?_); refine l_op (o_val (r_l1 (v := .slice none 0 0) H (i := 0) rfl rfl ct34 (staE_c3 _)) ?_); refine l_op (o_val (r_lens el34 rfl) ?_); refine l_op (o_val r_mv ?_); first | refine l_end ?_ | refine l_nil ?_
    repeat refine c_seq ?_
    refine c_block ?_; repeat refine c_seq ?_
    refine c_loop (fun (i38 : Nat) => [(1, .pointer (some ⟨b1, 0, none⟩)), (2, .pointer (some ⟨b2, 0, none⟩)), (20, VI 0), (21, VI (i38 : Int))])
      (fun (i38 : Nat) w => (i38 = 0) ∧ Hp w0 w [] ([.blk b1 (staE (⟨r, d, (0 : UInt64), ⟨none, 0, 0, []⟩, ⟨none, 0, 0, []⟩, ⟨hd a36, lg.len, c37, lg.l⟩, h⟩ : Sta)) 38, .blk b2 (staE (⟨(⟨List.replicate 32 (0 : UInt8), (show (List.replicate 32 (0 : UInt8)).length = 32 from (List.length_replicate ..))⟩ : Id32), 0, (0 : UInt64), ⟨none, 0, 0, []⟩, ⟨none, 0, 0, []⟩, ⟨none, 0, 0, []⟩, (⟨List.replicate 32 (0 : UInt8), (show (List.replicate 32 (0 : UInt8)).length = 32 from (List.length_replicate ..))⟩ : Id32)⟩ : Sta)) 38, .own a36 lg.len c37 ((lg.l).flatMap entE) 55 38]))
      (fun (i38 : Nat) => 0) 0 ⟨rfl, rfl, rfl, rfl, trivial⟩ ⟨rfl, H⟩ ?_
    clear H
    rintro i38 τ w ⟨hi38, H⟩
    repeat refine c_seq ?_
    refine c_region ?_; refine l_op (o_val (r_bin (a := (i38 : Int)) (b := 0) rfl rfl (fun _ => b_lssB false (decide_eq_false (by omega)))) ?_); first | refine l_end ?_ | refine l_nil ?_
    repeat refine c_seq ?_
    refine c_no rfl ?_; refine c_exit ?_; repeat refine c_seq ?_
    refine c_region ?_; refine l_op (o_val (r_ldA (C := staE (⟨r, d, (0 : UInt64), ⟨none, 0, 0, []⟩, ⟨none, 0, 0, []⟩, ⟨hd a36, lg.len, c37, lg.l⟩, h⟩ : Sta)) H (i := 0) rfl rfl rt38 (staE_len _)) ?_); refine l_op (o_stW (C' := staE (⟨r, d, (0 : UInt64), ⟨none, 0, 0, []⟩, ⟨none, 0, 0, []⟩, ⟨hd a36, lg.len, c37, lg.l⟩, h⟩ : Sta)) H (i := 1) rfl rfl rfl cs38 (staE_all _) (staE_len _) (staE_len _) (fun w H => ?_)); replace H : Hp _ w _ ([_, .blk b2 (staE (⟨r, d, (0 : UInt64), ⟨none, 0, 0, []⟩, ⟨none, 0, 0, []⟩, ⟨hd a36, lg.len, c37, lg.l⟩, h⟩ : Sta)) 38, _]) := H
    first | refine l_end ?_ | refine l_nil ?_
    refine c_ret ?_; try dsimp only [Exit.then, Exit.inBlock]
    refine e_retc Tryz.results17 H (i := 1) rfl rfl rt38 (staE_len _).symm ?_
    refine ⟨_, rfl, ?_⟩
    exact ⟨_, _, rfl, H.sub (.cons _ (.cons _ (.cons_cons _ (List.nil_sublist _))))⟩
  ·
   refine (o_val (r_l1 (v := lg.v) H (i := 0) rfl rfl ct36 (staE_c5 _)) ?_)
   refine ⟨H.sub (.cons _ (.cons_cons _ (List.nil_sublist _))), ?_⟩
   replace HS := H.sub (.cons _ (.cons_cons _ (List.nil_sublist _)))
   refine t_all [1, 4] (by kernel_rfl) (by simp) (all_cons (w_op 1 rfl ?_) (all_cons (w_op 4 rfl ?_) (all_nil)))
   ·
    refine (o_val (r_l1 (v := .slice none 0 0) H (i := 0) rfl rfl ct34 (staE_c3 _)) ?_)
    refine ⟨H.sub (.cons _ (.cons_cons _ (List.nil_sublist _))), ?_⟩
    replace HS := H.sub (.cons _ (.cons_cons _ (List.nil_sublist _)))
    refine t_all [2, 4] (by kernel_rfl) (by simp) (all_cons (w_op 2 rfl ?_) (all_cons (w_op 4 rfl ?_) (all_nil)))
    ·
     refine (o_callR Tryz.func32 rfl rfl rfl (cln32_ret _) ?_)
     rintro _ w ⟨rfl, Hc⟩
     replace H : Hp _ w _ ([_, _]) := H.call Hc
     clear Hc
     refine ⟨H.sub (.cons _ (.cons_cons _ (List.nil_sublist _))), ?_⟩
     replace HS := H.sub (.cons _ (.cons_cons _ (List.nil_sublist _)))
     refine t_step 4 rfl (by kernel_rfl) (o_val (r_l1 (v := .slice none 0 0) H (i := 0) rfl rfl ct35 (staE_c4 _)) ?_); refine ⟨H.sub (.cons _ (.cons_cons _ (List.nil_sublist _))), ?_⟩
     replace HS := H.sub (.cons _ (.cons_cons _ (List.nil_sublist _)))
     refine t_take 9 rfl (by kernel_rfl) (by kernel_rfl) (by kernel_rfl) (fun _ _ _ h => h) (fun w HS => r_fa rfl fo38_3) HS ?_; refine t_step 5 rfl (by kernel_rfl) (o_callR Tryz.func33 rfl rfl rfl (cln33_ret _) ?_); rintro _ w ⟨rfl, Hc⟩
     replace H : Hp _ w _ ([_, _]) := H.call Hc
     clear Hc
     refine ⟨H.sub (.cons _ (.cons_cons _ (List.nil_sublist _))), ?_⟩
     replace HS := H.sub (.cons _ (.cons_cons _ (List.nil_sublist _)))
     refine t_step 8 rfl (by kernel_rfl) (o_callR Tryz.func34 rfl rfl rfl (clne_ret _ lg (hlg.up H) hln hlm) ?_); rintro _ w ⟨a39, c40, rfl, Hc⟩
     replace H : Hp _ w _ ([_, _, .own a39 lg.len c40 ((lg.l).flatMap entE) 55 38]) := H.call Hc
     clear Hc
     refine ⟨H.sub (.cons _ (.cons_cons _ (List.nil_sublist _))), ?_⟩
     replace HS := H.sub (.cons _ (.cons_cons _ (List.nil_sublist _)))
     refine t_step 10 rfl (by kernel_rfl) (o_s1P (C' := staE (⟨r, d, (0 : UInt64), ⟨none, 0, 0, []⟩, ⟨none, 0, 0, []⟩, lg, h⟩ : Sta)) (u := .slice none 0 0) H (i := 0) rfl rfl rfl cs34 rfl (staE_p3 _ (⟨none, 0, 0, []⟩)) (fun w H => ?_)); replace H : Hp _ w _ [_, _, _] := H
     refine ⟨H.sub (.cons _ (.cons_cons _ (List.nil_sublist _))), ?_⟩
     replace HS := H.sub (.cons _ (.cons_cons _ (List.nil_sublist _)))
     refine t_take 11 rfl (by kernel_rfl) (by kernel_rfl) (by kernel_rfl) (fun _ _ _ h => h) (fun w HS => r_fa rfl fo38_4) HS ?_; refine t_step 12 rfl (by kernel_rfl) (o_s1P (C' := staE (⟨r, d, (0 : UInt64), ⟨none, 0, 0, []⟩, ⟨none, 0, 0, []⟩, lg, h⟩ : Sta)) (u := .slice none 0 0) H (i := 0) rfl rfl rfl cs35 rfl (staE_p4 _ (⟨none, 0, 0, []⟩)) (fun w H => ?_)); replace H : Hp _ w _ [_, _, _] := H
     refine ⟨H.sub (.cons _ (.cons_cons _ (List.nil_sublist _))), ?_⟩
     replace HS := H.sub (.cons _ (.cons_cons _ (List.nil_sublist _)))
     refine t_take 13 rfl (by kernel_rfl) (by kernel_rfl) (by kernel_rfl) (fun _ _ _ h => h) (fun w HS => r_fa rfl fo38_5) HS ?_; refine t_step 14 rfl (by kernel_rfl) (o_s1P (C' := staE (⟨r, d, (0 : UInt64), ⟨none, 0, 0, []⟩, ⟨none, 0, 0, []⟩, ⟨hd a39, lg.len, c40, lg.l⟩, h⟩ : Sta)) (u := .slice (hd a39) lg.len c40) H (i := 0) rfl rfl rfl cs36 rfl (staE_p5 _ (⟨hd a39, lg.len, c40, lg.l⟩)) (fun w H => ?_)); replace H : Hp _ w _ ([.blk b1 (staE (⟨r, d, (0 : UInt64), ⟨none, 0, 0, []⟩, ⟨none, 0, 0, []⟩, ⟨hd a39, lg.len, c40, lg.l⟩, h⟩ : Sta)) 38, _, _]) := H
     refine ⟨H.sub (.cons _ (.cons_cons _ (List.nil_sublist _))), ?_⟩
     replace HS := H.sub (.cons _ (.cons_cons _ (List.nil_sublist _)))
     refine t_done (by kernel_rfl) ?_
     clear HS
     repeat refine c_seq ?_
     refine c_region ?_; refine l_op (o_val (r_fa rfl fo38_3) ?_); refine l_op (o_val (r_l1 (v := .slice none 0 0) H (i := 0) rfl rfl ct34 (staE_c3 _)) ?_); refine l_op (o_val (r_lens el34 rfl) ?_); refine l_op (o_val r_mv ?_); first | refine l_end ?_ | refine l_nil ?_
     repeat refine c_seq ?_
     refine c_block ?_; repeat refine c_seq ?_
     refine c_loop (fun (i41 : Nat) => [(1, .pointer (some ⟨b1, 0, none⟩)), (2, .pointer (some ⟨b2, 0, none⟩)), (20, VI 0), (21, VI (i41 : Int))])
       (fun (i41 : Nat) w => (i41 = 0) ∧ Hp w0 w [] ([.blk b1 (staE (⟨r, d, (0 : UInt64), ⟨none, 0, 0, []⟩, ⟨none, 0, 0, []⟩, ⟨hd a39, lg.len, c40, lg.l⟩, h⟩ : Sta)) 38, .blk b2 (staE (⟨(⟨List.replicate 32 (0 : UInt8), (show (List.replicate 32 (0 : UInt8)).length = 32 from (List.length_replicate ..))⟩ : Id32), 0, (0 : UInt64), ⟨none, 0, 0, []⟩, ⟨none, 0, 0, []⟩, ⟨none, 0, 0, []⟩, (⟨List.replicate 32 (0 : UInt8), (show (List.replicate 32 (0 : UInt8)).length = 32 from (List.length_replicate ..))⟩ : Id32)⟩ : Sta)) 38, .own a39 lg.len c40 ((lg.l).flatMap entE) 55 38]))
       (fun (i41 : Nat) => 0) 0 ⟨rfl, rfl, rfl, rfl, trivial⟩ ⟨rfl, H⟩ ?_
     clear H
     rintro i41 τ w ⟨hi41, H⟩
     repeat refine c_seq ?_
     refine c_region ?_; refine l_op (o_val (r_bin (a := (i41 : Int)) (b := 0) rfl rfl (fun _ => b_lssB false (decide_eq_false (by omega)))) ?_); first | refine l_end ?_ | refine l_nil ?_
     repeat refine c_seq ?_
     refine c_no rfl ?_; refine c_exit ?_; repeat refine c_seq ?_
     refine c_region ?_; refine l_op (o_val (r_ldA (C := staE (⟨r, d, (0 : UInt64), ⟨none, 0, 0, []⟩, ⟨none, 0, 0, []⟩, ⟨hd a39, lg.len, c40, lg.l⟩, h⟩ : Sta)) H (i := 0) rfl rfl rt38 (staE_len _)) ?_); refine l_op (o_stW (C' := staE (⟨r, d, (0 : UInt64), ⟨none, 0, 0, []⟩, ⟨none, 0, 0, []⟩, ⟨hd a39, lg.len, c40, lg.l⟩, h⟩ : Sta)) H (i := 1) rfl rfl rfl cs38 (staE_all _) (staE_len _) (staE_len _) (fun w H => ?_)); replace H : Hp _ w _ ([_, .blk b2 (staE (⟨r, d, (0 : UInt64), ⟨none, 0, 0, []⟩, ⟨none, 0, 0, []⟩, ⟨hd a39, lg.len, c40, lg.l⟩, h⟩ : Sta)) 38, _]) := H
     first | refine l_end ?_ | refine l_nil ?_
     refine c_ret ?_; try dsimp only [Exit.then, Exit.inBlock]
     refine e_retc Tryz.results17 H (i := 1) rfl rfl rt38 (staE_len _).symm ?_
     refine ⟨_, rfl, ?_⟩
     exact ⟨_, _, rfl, H.sub (.cons _ (.cons _ (.cons_cons _ (List.nil_sublist _))))⟩
    ·
     refine (o_val (r_l1 (v := .slice none 0 0) H (i := 0) rfl rfl ct35 (staE_c4 _)) ?_)
     refine ⟨H.sub (.cons _ (.cons_cons _ (List.nil_sublist _))), ?_⟩
     replace HS := H.sub (.cons _ (.cons_cons _ (List.nil_sublist _)))
     refine t_step 2 rfl (by kernel_rfl) (o_callR Tryz.func32 rfl rfl rfl (cln32_ret _) ?_); rintro _ w ⟨rfl, Hc⟩
     replace H : Hp _ w _ ([_, _]) := H.call Hc
     clear Hc
     refine ⟨H.sub (.cons _ (.cons_cons _ (List.nil_sublist _))), ?_⟩
     replace HS := H.sub (.cons _ (.cons_cons _ (List.nil_sublist _)))
     refine t_take 9 rfl (by kernel_rfl) (by kernel_rfl) (by kernel_rfl) (fun _ _ _ h => h) (fun w HS => r_fa rfl fo38_3) HS ?_; refine t_step 5 rfl (by kernel_rfl) (o_callR Tryz.func33 rfl rfl rfl (cln33_ret _) ?_); rintro _ w ⟨rfl, Hc⟩
     replace H : Hp _ w _ ([_, _]) := H.call Hc
     clear Hc
     refine ⟨H.sub (.cons _ (.cons_cons _ (List.nil_sublist _))), ?_⟩
     replace HS := H.sub (.cons _ (.cons_cons _ (List.nil_sublist _)))
     refine t_step 8 rfl (by kernel_rfl) (o_callR Tryz.func34 rfl rfl rfl (clne_ret _ lg (hlg.up H) hln hlm) ?_); rintro _ w ⟨a42, c43, rfl, Hc⟩
     replace H : Hp _ w _ ([_, _, .own a42 lg.len c43 ((lg.l).flatMap entE) 55 38]) := H.call Hc
     clear Hc
     refine ⟨H.sub (.cons _ (.cons_cons _ (List.nil_sublist _))), ?_⟩
     replace HS := H.sub (.cons _ (.cons_cons _ (List.nil_sublist _)))
     refine t_step 10 rfl (by kernel_rfl) (o_s1P (C' := staE (⟨r, d, (0 : UInt64), ⟨none, 0, 0, []⟩, ⟨none, 0, 0, []⟩, lg, h⟩ : Sta)) (u := .slice none 0 0) H (i := 0) rfl rfl rfl cs34 rfl (staE_p3 _ (⟨none, 0, 0, []⟩)) (fun w H => ?_)); replace H : Hp _ w _ [_, _, _] := H
     refine ⟨H.sub (.cons _ (.cons_cons _ (List.nil_sublist _))), ?_⟩
     replace HS := H.sub (.cons _ (.cons_cons _ (List.nil_sublist _)))
     refine t_take 11 rfl (by kernel_rfl) (by kernel_rfl) (by kernel_rfl) (fun _ _ _ h => h) (fun w HS => r_fa rfl fo38_4) HS ?_; refine t_step 12 rfl (by kernel_rfl) (o_s1P (C' := staE (⟨r, d, (0 : UInt64), ⟨none, 0, 0, []⟩, ⟨none, 0, 0, []⟩, lg, h⟩ : Sta)) (u := .slice none 0 0) H (i := 0) rfl rfl rfl cs35 rfl (staE_p4 _ (⟨none, 0, 0, []⟩)) (fun w H => ?_)); replace H : Hp _ w _ [_, _, _] := H
     refine ⟨H.sub (.cons _ (.cons_cons _ (List.nil_sublist _))), ?_⟩
     replace HS := H.sub (.cons _ (.cons_cons _ (List.nil_sublist _)))
     refine t_take 13 rfl (by kernel_rfl) (by kernel_rfl) (by kernel_rfl) (fun _ _ _ h => h) (fun w HS => r_fa rfl fo38_5) HS ?_; refine t_step 14 rfl (by kernel_rfl) (o_s1P (C' := staE (⟨r, d, (0 : UInt64), ⟨none, 0, 0, []⟩, ⟨none, 0, 0, []⟩, ⟨hd a42, lg.len, c43, lg.l⟩, h⟩ : Sta)) (u := .slice (hd a42) lg.len c43) H (i := 0) rfl rfl rfl cs36 rfl (staE_p5 _ (⟨hd a42, lg.len, c43, lg.l⟩)) (fun w H => ?_)); replace H : Hp _ w _ ([.blk b1 (staE (⟨r, d, (0 : UInt64), ⟨none, 0, 0, []⟩, ⟨none, 0, 0, []⟩, ⟨hd a42, lg.len, c43, lg.l⟩, h⟩ : Sta)) 38, _, _]) := H
     refine ⟨H.sub (.cons _ (.cons_cons _ (List.nil_sublist _))), ?_⟩
     replace HS := H.sub (.cons _ (.cons_cons _ (List.nil_sublist _)))
     refine t_done (by kernel_rfl) ?_
     clear HS
     repeat refine c_seq ?_
     refine c_region ?_; refine l_op (o_val (r_fa rfl fo38_3) ?_); refine l_op (o_val (r_l1 (v := .slice none 0 0) H (i := 0) rfl rfl ct34 (staE_c3 _)) ?_); refine l_op (o_val (r_lens el34 rfl) ?_); refine l_op (o_val r_mv ?_); first | refine l_end ?_ | refine l_nil ?_
     repeat refine c_seq ?_
     refine c_block ?_; repeat refine c_seq ?_
     refine c_loop (fun (i44 : Nat) => [(1, .pointer (some ⟨b1, 0, none⟩)), (2, .pointer (some ⟨b2, 0, none⟩)), (20, VI 0), (21, VI (i44 : Int))])
       (fun (i44 : Nat) w => (i44 = 0) ∧ Hp w0 w [] ([.blk b1 (staE (⟨r, d, (0 : UInt64), ⟨none, 0, 0, []⟩, ⟨none, 0, 0, []⟩, ⟨hd a42, lg.len, c43, lg.l⟩, h⟩ : Sta)) 38, .blk b2 (staE (⟨(⟨List.replicate 32 (0 : UInt8), (show (List.replicate 32 (0 : UInt8)).length = 32 from (List.length_replicate ..))⟩ : Id32), 0, (0 : UInt64), ⟨none, 0, 0, []⟩, ⟨none, 0, 0, []⟩, ⟨none, 0, 0, []⟩, (⟨List.replicate 32 (0 : UInt8), (show (List.replicate 32 (0 : UInt8)).length = 32 from (List.length_replicate ..))⟩ : Id32)⟩ : Sta)) 38, .own a42 lg.len c43 ((lg.l).flatMap entE) 55 38]))
       (fun (i44 : Nat) => 0) 0 ⟨rfl, rfl, rfl, rfl, trivial⟩ ⟨rfl, H⟩ ?_
     clear H
     rintro i44 τ w ⟨hi44, H⟩
     repeat refine c_seq ?_
     refine c_region ?_; refine l_op (o_val (r_bin (a := (i44 : Int)) (b := 0) rfl rfl (fun _ => b_lssB false (decide_eq_false (by omega)))) ?_); first | refine l_end ?_ | refine l_nil ?_
     repeat refine c_seq ?_
     refine c_no rfl ?_; refine c_exit ?_; repeat refine c_seq ?_
     refine c_region ?_; refine l_op (o_val (r_ldA (C := staE (⟨r, d, (0 : UInt64), ⟨none, 0, 0, []⟩, ⟨none, 0, 0, []⟩, ⟨hd a42, lg.len, c43, lg.l⟩, h⟩ : Sta)) H (i := 0) rfl rfl rt38 (staE_len _)) ?_); refine l_op (o_stW (C' := staE (⟨r, d, (0 : UInt64), ⟨none, 0, 0, []⟩, ⟨none, 0, 0, []⟩, ⟨hd a42, lg.len, c43, lg.l⟩, h⟩ : Sta)) H (i := 1) rfl rfl rfl cs38 (staE_all _) (staE_len _) (staE_len _) (fun w H => ?_)); replace H : Hp _ w _ ([_, .blk b2 (staE (⟨r, d, (0 : UInt64), ⟨none, 0, 0, []⟩, ⟨none, 0, 0, []⟩, ⟨hd a42, lg.len, c43, lg.l⟩, h⟩ : Sta)) 38, _]) := H
     first | refine l_end ?_ | refine l_nil ?_
     refine c_ret ?_; try dsimp only [Exit.then, Exit.inBlock]
     refine e_retc Tryz.results17 H (i := 1) rfl rfl rt38 (staE_len _).symm ?_
     refine ⟨_, rfl, ?_⟩
     exact ⟨_, _, rfl, H.sub (.cons _ (.cons _ (.cons_cons _ (List.nil_sublist _))))⟩
   ·
    refine (o_val (r_l1 (v := .slice none 0 0) H (i := 0) rfl rfl ct35 (staE_c4 _)) ?_)
    refine ⟨H.sub (.cons _ (.cons_cons _ (List.nil_sublist _))), ?_⟩
    replace HS := H.sub (.cons _ (.cons_cons _ (List.nil_sublist _)))
    refine t_step 1 rfl (by kernel_rfl) (o_val (r_l1 (v := .slice none 0 0) H (i := 0) rfl rfl ct34 (staE_c3 _)) ?_); refine ⟨H.sub (.cons _ (.cons_cons _ (List.nil_sublist _))), ?_⟩
    replace HS := H.sub (.cons _ (.cons_cons _ (List.nil_sublist _)))
    refine t_step 2 rfl (by kernel_rfl) (o_callR Tryz.func32 rfl rfl rfl (cln32_ret _) ?_); rintro _ w ⟨rfl, Hc⟩
    replace H : Hp _ w _ ([_, _]) := H.call Hc
    clear Hc
    refine ⟨H.sub (.cons _ (.cons_cons _ (List.nil_sublist _))), ?_⟩
    replace HS := H.sub (.cons _ (.cons_cons _ (List.nil_sublist _)))
    refine t_take 9 rfl (by kernel_rfl) (by kernel_rfl) (by kernel_rfl) (fun _ _ _ h => h) (fun w HS => r_fa rfl fo38_3) HS ?_; refine t_step 5 rfl (by kernel_rfl) (o_callR Tryz.func33 rfl rfl rfl (cln33_ret _) ?_); rintro _ w ⟨rfl, Hc⟩
    replace H : Hp _ w _ ([_, _]) := H.call Hc
    clear Hc
    refine ⟨H.sub (.cons _ (.cons_cons _ (List.nil_sublist _))), ?_⟩
    replace HS := H.sub (.cons _ (.cons_cons _ (List.nil_sublist _)))
    refine t_step 8 rfl (by kernel_rfl) (o_callR Tryz.func34 rfl rfl rfl (clne_ret _ lg (hlg.up H) hln hlm) ?_); rintro _ w ⟨a45, c46, rfl, Hc⟩
    replace H : Hp _ w _ ([_, _, .own a45 lg.len c46 ((lg.l).flatMap entE) 55 38]) := H.call Hc
    clear Hc
    refine ⟨H.sub (.cons _ (.cons_cons _ (List.nil_sublist _))), ?_⟩
    replace HS := H.sub (.cons _ (.cons_cons _ (List.nil_sublist _)))
    refine t_step 10 rfl (by kernel_rfl) (o_s1P (C' := staE (⟨r, d, (0 : UInt64), ⟨none, 0, 0, []⟩, ⟨none, 0, 0, []⟩, lg, h⟩ : Sta)) (u := .slice none 0 0) H (i := 0) rfl rfl rfl cs34 rfl (staE_p3 _ (⟨none, 0, 0, []⟩)) (fun w H => ?_)); replace H : Hp _ w _ [_, _, _] := H
    refine ⟨H.sub (.cons _ (.cons_cons _ (List.nil_sublist _))), ?_⟩
    replace HS := H.sub (.cons _ (.cons_cons _ (List.nil_sublist _)))
    refine t_take 11 rfl (by kernel_rfl) (by kernel_rfl) (by kernel_rfl) (fun _ _ _ h => h) (fun w HS => r_fa rfl fo38_4) HS ?_; refine t_step 12 rfl (by kernel_rfl) (o_s1P (C' := staE (⟨r, d, (0 : UInt64), ⟨none, 0, 0, []⟩, ⟨none, 0, 0, []⟩, lg, h⟩ : Sta)) (u := .slice none 0 0) H (i := 0) rfl rfl rfl cs35 rfl (staE_p4 _ (⟨none, 0, 0, []⟩)) (fun w H => ?_)); replace H : Hp _ w _ [_, _, _] := H
    refine ⟨H.sub (.cons _ (.cons_cons _ (List.nil_sublist _))), ?_⟩
    replace HS := H.sub (.cons _ (.cons_cons _ (List.nil_sublist _)))
    refine t_take 13 rfl (by kernel_rfl) (by kernel_rfl) (by kernel_rfl) (fun _ _ _ h => h) (fun w HS => r_fa rfl fo38_5) HS ?_; refine t_step 14 rfl (by kernel_rfl) (o_s1P (C' := staE (⟨r, d, (0 : UInt64), ⟨none, 0, 0, []⟩, ⟨none, 0, 0, []⟩, ⟨hd a45, lg.len, c46, lg.l⟩, h⟩ : Sta)) (u := .slice (hd a45) lg.len c46) H (i := 0) rfl rfl rfl cs36 rfl (staE_p5 _ (⟨hd a45, lg.len, c46, lg.l⟩)) (fun w H => ?_)); replace H : Hp _ w _ ([.blk b1 (staE (⟨r, d, (0 : UInt64), ⟨none, 0, 0, []⟩, ⟨none, 0, 0, []⟩, ⟨hd a45, lg.len, c46, lg.l⟩, h⟩ : Sta)) 38, _, _]) := H
    refine ⟨H.sub (.cons _ (.cons_cons _ (List.nil_sublist _))), ?_⟩
    replace HS := H.sub (.cons _ (.cons_cons _ (List.nil_sublist _)))
    refine t_done (by kernel_rfl) ?_
    clear HS
    repeat refine c_seq ?_
    refine c_region ?_; refine l_op (o_val (r_fa rfl fo38_3) ?_); refine l_op (o_val (r_l1 (v := .slice none 0 0) H (i := 0) rfl rfl ct34 (staE_c3 _)) ?_); refine l_op (o_val (r_lens el34 rfl) ?_); refine l_op (o_val r_mv ?_); first | refine l_end ?_ | refine l_nil ?_
    repeat refine c_seq ?_
    refine c_block ?_; repeat refine c_seq ?_
    refine c_loop (fun (i47 : Nat) => [(1, .pointer (some ⟨b1, 0, none⟩)), (2, .pointer (some ⟨b2, 0, none⟩)), (20, VI 0), (21, VI (i47 : Int))])
      (fun (i47 : Nat) w => (i47 = 0) ∧ Hp w0 w [] ([.blk b1 (staE (⟨r, d, (0 : UInt64), ⟨none, 0, 0, []⟩, ⟨none, 0, 0, []⟩, ⟨hd a45, lg.len, c46, lg.l⟩, h⟩ : Sta)) 38, .blk b2 (staE (⟨(⟨List.replicate 32 (0 : UInt8), (show (List.replicate 32 (0 : UInt8)).length = 32 from (List.length_replicate ..))⟩ : Id32), 0, (0 : UInt64), ⟨none, 0, 0, []⟩, ⟨none, 0, 0, []⟩, ⟨none, 0, 0, []⟩, (⟨List.replicate 32 (0 : UInt8), (show (List.replicate 32 (0 : UInt8)).length = 32 from (List.length_replicate ..))⟩ : Id32)⟩ : Sta)) 38, .own a45 lg.len c46 ((lg.l).flatMap entE) 55 38]))
      (fun (i47 : Nat) => 0) 0 ⟨rfl, rfl, rfl, rfl, trivial⟩ ⟨rfl, H⟩ ?_
    clear H
    rintro i47 τ w ⟨hi47, H⟩
    repeat refine c_seq ?_
    refine c_region ?_; refine l_op (o_val (r_bin (a := (i47 : Int)) (b := 0) rfl rfl (fun _ => b_lssB false (decide_eq_false (by omega)))) ?_); first | refine l_end ?_ | refine l_nil ?_
    repeat refine c_seq ?_
    refine c_no rfl ?_; refine c_exit ?_; repeat refine c_seq ?_
    refine c_region ?_; refine l_op (o_val (r_ldA (C := staE (⟨r, d, (0 : UInt64), ⟨none, 0, 0, []⟩, ⟨none, 0, 0, []⟩, ⟨hd a45, lg.len, c46, lg.l⟩, h⟩ : Sta)) H (i := 0) rfl rfl rt38 (staE_len _)) ?_); refine l_op (o_stW (C' := staE (⟨r, d, (0 : UInt64), ⟨none, 0, 0, []⟩, ⟨none, 0, 0, []⟩, ⟨hd a45, lg.len, c46, lg.l⟩, h⟩ : Sta)) H (i := 1) rfl rfl rfl cs38 (staE_all _) (staE_len _) (staE_len _) (fun w H => ?_)); replace H : Hp _ w _ ([_, .blk b2 (staE (⟨r, d, (0 : UInt64), ⟨none, 0, 0, []⟩, ⟨none, 0, 0, []⟩, ⟨hd a45, lg.len, c46, lg.l⟩, h⟩ : Sta)) 38, _]) := H
    first | refine l_end ?_ | refine l_nil ?_
    refine c_ret ?_; try dsimp only [Exit.then, Exit.inBlock]
    refine e_retc Tryz.results17 H (i := 1) rfl rfl rt38 (staE_len _).symm ?_
    refine ⟨_, rfl, ?_⟩
    exact ⟨_, _, rfl, H.sub (.cons _ (.cons _ (.cons_cons _ (List.nil_sublist _))))⟩
end Go.Proofs.YtiepekfcegdkoaaGreatDoor
namespace Go.Proofs.YtiepekfcegdkoaaGreatDoor
open Go
set_option maxRecDepth 100000
theorem tok1_may (r : Id32) : mayT (⟨0, [], 15, 0, 9223372036854775807, ⟨none, 0, 0, []⟩, hmac r.1 (framed [headB 0 [] 15 0 9223372036854775807])⟩ : Tok) = true := by first | rfl | (simp [mayT]; decide)
theorem tok1_bd (r : Id32) : Tok.bd (⟨0, [], 15, 0, 9223372036854775807, ⟨none, 0, 0, []⟩, hmac r.1 (framed [headB 0 [] 15 0 9223372036854775807])⟩ : Tok) := ⟨by dsimp only; omega, by dsimp only; omega, fun c h => absurd h List.not_mem_nil⟩
theorem tok1_parse (r : Id32) : parseT (Tok.bytes (⟨0, [], 15, 0, 9223372036854775807, ⟨none, 0, 0, []⟩, hmac r.1 (framed [headB 0 [] 15 0 9223372036854775807])⟩ : Tok)) = some (Tok.tv (⟨0, [], 15, 0, 9223372036854775807, ⟨none, 0, 0, []⟩, hmac r.1 (framed [headB 0 [] 15 0 9223372036854775807])⟩ : Tok)) := by
  refine (parse_iff _ _).2 ⟨by rw [← mayT_tv _ rfl]; exact tok1_may r, ⟨(tok1_bd r).f, (tok1_bd r).u, (tok1_bd r).cs, hmac_len _ _⟩, (bytes_tv _ rfl).symm⟩
theorem tok1_check (r : Id32) : checkT r.1 (⟨0, [], 15, 0, 9223372036854775807, ⟨none, 0, 0, []⟩, hmac r.1 (framed [headB 0 [] 15 0 9223372036854775807])⟩ : Tok) 0 = 0 := by
  have e : onF (hmac r.1 (framed [Tok.head (⟨0, [], 15, 0, 9223372036854775807, ⟨none, 0, 0, []⟩, hmac r.1 (framed [headB 0 [] 15 0 9223372036854775807])⟩ : Tok)])) (Tok.cs (⟨0, [], 15, 0, 9223372036854775807, ⟨none, 0, 0, []⟩, hmac r.1 (framed [headB 0 [] 15 0 9223372036854775807])⟩ : Tok)).l = Tok.tag (⟨0, [], 15, 0, 9223372036854775807, ⟨none, 0, 0, []⟩, hmac r.1 (framed [headB 0 [] 15 0 9223372036854775807])⟩ : Tok) := rfl
  rw [checkT, if_neg (by rw [tok1_may r]; decide), if_neg (not_not_intro e), if_neg (by show ¬ ((0 : Int) < 0 ∨ (9223372036854775807 : Int) ≤ 0); omega)]
theorem take1_ret (w0 : World) (r : Id32) (s : Sl) (hs : s.ok w0) (hsl : s.l = Tok.bytes (⟨0, [], 15, 0, 9223372036854775807, ⟨none, 0, 0, []⟩, hmac r.1 (framed [headB 0 [] 15 0 9223372036854775807])⟩ : Tok) ∧ s.len ≤ 4096) : Ret Tryz.prog 41 [s.v] w0 fun v w' =>
    ∃ (a : Option Nat) (k : Nat), v = .tuple #[.agg ([V64 (0 : UInt64), .string ⟨(([] : List UInt8)).toArray⟩, V8 (15 : UInt8), VI 0, VI 9223372036854775807, .slice (hd a) 0 k] ++ (hmac r.1 (framed [headB 0 [] 15 0 9223372036854775807])).map V8).toArray, VI 0] ∧ Hp w0 w' [] [.own a 0 k (([] : List Cav).flatMap cavE) 63 2] := by
  refine (capTake_ret w0 s hs (by omega)).mono fun v w' h => ?_
  have hp := tok1_parse r
  rw [← hsl.1] at hp
  rcases h with ⟨h, _⟩ | ⟨T', a, k, h, hv, H⟩
  · rw [hp] at h; cases h
  · rw [hp] at h; cases h; exact ⟨a, k, hv, H⟩
theorem pass0_ret (w0 : World) (wb nb : Nat) (z : Sta) (hO : Own w0 [.blk wb (wrkE (⟨some nb, (⟨17, [], zId, 0, 0, 0, ⟨none, 0, 0, []⟩, ⟨none, 0, 0, []⟩, 0, zId⟩ : Opr), none, 0⟩ : Wrk)) 73, .blk nb (staE z) 38]) :
    Ret Tryz.prog 20 [.pointer (some ⟨wb, 0, none⟩)] w0 fun v w' => v = .agg (ansE (⟨401, ⟨none, 0, 0, []⟩⟩ : Ans)).toArray ∧ Hp w0 w' (keys [.blk wb (wrkE (⟨some nb, (⟨17, [], zId, 0, 0, 0, ⟨none, 0, 0, []⟩, ⟨none, 0, 0, []⟩, 0, zId⟩ : Opr), none, 0⟩ : Wrk)) 73, .blk nb (staE z) 38]) [.blk wb (wrkE (⟨some nb, (⟨17, [], zId, 0, 0, 0, ⟨none, 0, 0, []⟩, ⟨none, 0, 0, []⟩, 0, zId⟩ : Opr), none, 0⟩ : Wrk)) 73, .blk nb (staE z) 38] := by
  refine ret_mk Tryz.func20 rfl Tryz.ntmps20 (by simp) ?_
  have H : Hp w0 w0 (keys [.blk wb (wrkE (⟨some nb, (⟨17, [], zId, 0, 0, 0, ⟨none, 0, 0, []⟩, ⟨none, 0, 0, []⟩, 0, zId⟩ : Opr), none, 0⟩ : Wrk)) 73, .blk nb (staE z) 38]) [.blk wb (wrkE (⟨some nb, (⟨17, [], zId, 0, 0, 0, ⟨none, 0, 0, []⟩, ⟨none, 0, 0, []⟩, 0, zId⟩ : Opr), none, 0⟩ : Wrk)) 73, .blk nb (staE z) 38] := hO.start
  repeat refine c_seq ?_
  refine c_region ?_; refine l_op (o_alloc H zc49 (fun b1 w H hb1 => ?_)); replace H : Hp _ w _ ([.blk wb (wrkE (⟨(some nb), (⟨17, ([] : List UInt8), zId, 0, 0, (0 : UInt8), ⟨none, 0, 0, []⟩, ⟨none, 0, 0, []⟩, 0, zId⟩ : Opr), none, (0 : UInt64)⟩ : Wrk)) 73, .blk nb (staE z) 38, .blk b1 (ansE (⟨0, ⟨none, 0, 0, []⟩⟩ : Ans)) 49]) := H
  first | refine l_end ?_ | refine l_nil ?_
  repeat refine c_seq ?_
  refine c_region ?_; refine l_op (o_val r_mv ?_); refine l_op (o_val (r_nilc rfl) ?_); refine l_op (o_val (r_fa rfl fo73_1) ?_); refine l_op (o_val (r_fa rfl fo53_7) ?_); refine l_op (o_val (r_l1 (v := .slice none 0 0) H (i := 0) rfl rfl ct24 ((wrkE_c1 _).comp (oprE_c7 _))) ?_); refine l_op (o_val (r_lens el24 rfl) ?_); refine l_op (o_val (r_bin (a := 0) (b := 0) rfl rfl (fun _ => b_eqlB true (decide_eq_true (by decide)))) ?_); first | refine l_end ?_ | refine l_nil ?_
  repeat refine c_seq ?_
  refine c_yes rfl ?_; repeat refine c_seq ?_
  refine c_region ?_; refine l_op (o_callR Tryz.func18 rfl rfl rfl (only_ret _ (401)) ?_); rintro _ w ⟨rfl, Hc⟩
  replace H : Hp _ w _ ([_, _, _]) := H.call Hc
  clear Hc
  refine l_op (o_stW (C' := ansE (⟨401, ⟨none, 0, 0, []⟩⟩ : Ans)) H (i := 2) rfl rfl rfl cs49 (ansE_all _) (ansE_len _) (ansE_len _) (fun w H => ?_)); replace H : Hp _ w _ ([_, _, .blk b1 (ansE (⟨401, ⟨none, 0, 0, []⟩⟩ : Ans)) 49]) := H
  first | refine l_end ?_ | refine l_nil ?_
  refine c_ret ?_; try dsimp only [Exit.then, Exit.inBlock]
  refine e_retc Tryz.results20 H (i := 2) rfl rfl rt49 (ansE_len _).symm ?_
  refine ⟨_, rfl, ?_⟩
  exact ⟨rfl, H.sub (.cons_cons _ (.cons_cons _ (List.nil_sublist _)))⟩
theorem pass1_ret (w0 : World) (wb nb : Nat) (r : Id32) (d : Int) (h : Id32) (s : Sl) (hs : s.ok w0) (hap : s.l ≠ [] → Apart s.a (keys [.blk wb (wrkE (⟨some nb, (⟨17, [], zId, 0, 0, 0, ⟨none, 0, 0, []⟩, s, 0, zId⟩ : Opr), none, 0⟩ : Wrk)) 73, .blk nb (staE (⟨r, d, 0, ⟨none, 0, 0, []⟩, ⟨none, 0, 0, []⟩, ⟨none, 0, 0, []⟩, h⟩ : Sta)) 38])) (hsl : s.l = Tok.bytes (⟨0, [], 15, 0, 9223372036854775807, ⟨none, 0, 0, []⟩, hmac r.1 (framed [headB 0 [] 15 0 9223372036854775807])⟩ : Tok) ∧ s.len ≤ 4096) (hO : Own w0 [.blk wb (wrkE (⟨some nb, (⟨17, [], zId, 0, 0, 0, ⟨none, 0, 0, []⟩, s, 0, zId⟩ : Opr), none, 0⟩ : Wrk)) 73, .blk nb (staE (⟨r, d, 0, ⟨none, 0, 0, []⟩, ⟨none, 0, 0, []⟩, ⟨none, 0, 0, []⟩, h⟩ : Sta)) 38]) :
    Ret Tryz.prog 20 [.pointer (some ⟨wb, 0, none⟩)] w0 fun v w' => v = .agg (ansE (⟨0, ⟨none, 0, 0, []⟩⟩ : Ans)).toArray ∧ Hp w0 w' (keys [.blk wb (wrkE (⟨some nb, (⟨17, [], zId, 0, 0, 0, ⟨none, 0, 0, []⟩, s, 0, zId⟩ : Opr), none, 0⟩ : Wrk)) 73, .blk nb (staE (⟨r, d, 0, ⟨none, 0, 0, []⟩, ⟨none, 0, 0, []⟩, ⟨none, 0, 0, []⟩, h⟩ : Sta)) 38]) [.blk wb (wrkE (⟨some nb, (⟨17, [], zId, 0, 0, 0, ⟨none, 0, 0, []⟩, s, 0, zId⟩ : Opr), none, 0⟩ : Wrk)) 73, .blk nb (staE (⟨r, d, 0, ⟨none, 0, 0, []⟩, ⟨none, 0, 0, []⟩, ⟨none, 0, 0, []⟩, h⟩ : Sta)) 38] := by
  refine ret_mk Tryz.func20 rfl Tryz.ntmps20 (by simp) ?_
  have H : Hp w0 w0 (keys [.blk wb (wrkE (⟨some nb, (⟨17, [], zId, 0, 0, 0, ⟨none, 0, 0, []⟩, s, 0, zId⟩ : Opr), none, 0⟩ : Wrk)) 73, .blk nb (staE (⟨r, d, 0, ⟨none, 0, 0, []⟩, ⟨none, 0, 0, []⟩, ⟨none, 0, 0, []⟩, h⟩ : Sta)) 38]) [.blk wb (wrkE (⟨some nb, (⟨17, [], zId, 0, 0, 0, ⟨none, 0, 0, []⟩, s, 0, zId⟩ : Opr), none, 0⟩ : Wrk)) 73, .blk nb (staE (⟨r, d, 0, ⟨none, 0, 0, []⟩, ⟨none, 0, 0, []⟩, ⟨none, 0, 0, []⟩, h⟩ : Sta)) 38] := hO.start
  have hsn := hs.ln
  have hs0 : s.len ≠ 0 := by
    intro h0
    rw [h0, hsl.1] at hsn
    simp [Tok.bytes] at hsn
  repeat refine c_seq ?_
  refine c_region ?_; refine l_op (o_alloc H zc49 (fun b1 w H hb1 => ?_)); replace H : Hp _ w _ ([.blk wb (wrkE (⟨(some nb), (⟨17, ([] : List UInt8), zId, 0, 0, (0 : UInt8), ⟨none, 0, 0, []⟩, s, 0, zId⟩ : Opr), none, (0 : UInt64)⟩ : Wrk)) 73, .blk nb (staE (⟨r, d, (0 : UInt64), ⟨none, 0, 0, []⟩, ⟨none, 0, 0, []⟩, ⟨none, 0, 0, []⟩, h⟩ : Sta)) 38, .blk b1 (ansE (⟨0, ⟨none, 0, 0, []⟩⟩ : Ans)) 49]) := H
  first | refine l_end ?_ | refine l_nil ?_
  repeat refine c_seq ?_
  refine c_region ?_; refine l_op (o_val r_mv ?_); refine l_op (o_val (r_nilc rfl) ?_); refine l_op (o_val (r_fa rfl fo73_1) ?_); refine l_op (o_val (r_fa rfl fo53_7) ?_); refine l_op (o_val (r_l1 (v := s.v) H (i := 0) rfl rfl ct24 ((wrkE_c1 _).comp (oprE_c7 _))) ?_); refine l_op (o_val (r_lens el24 rfl) ?_); refine l_op (o_val (r_bin (a := (s.len : Int)) (b := 0) rfl rfl (fun _ => b_eqlB false (decide_eq_false (by omega)))) ?_); first | refine l_end ?_ | refine l_nil ?_
  repeat refine c_seq ?_
  refine c_no rfl ?_; refine c_skip ?_; repeat refine c_seq ?_
  refine c_region ?_; refine l_op (o_val r_mv ?_); refine l_op (o_val (r_nilc rfl) ?_); refine l_op (o_val (r_fa rfl fo73_1) ?_); refine l_op (o_val (r_fa rfl fo53_7) ?_); refine l_op (o_val (r_l1 (v := s.v) H (i := 0) rfl rfl ct24 ((wrkE_c1 _).comp (oprE_c7 _))) ?_); refine l_op (o_callR Tryz.func41 rfl rfl rfl (take1_ret _ r s (hs.up H hap) hsl) ?_); rintro _ w ⟨a2, c3, rfl, Hc⟩
  replace H : Hp _ w _ ([_, _, _, .own a2 0 c3 ((([] : List Cav)).flatMap cavE) 63 2]) := H.call Hc
  clear Hc
  refine l_op (o_val r_mv ?_); refine l_op (o_val (r_ext rfl rfl) ?_); refine l_op (o_val (r_ext rfl rfl) ?_); refine l_op (o_alloc H zc46 (fun b4 w H hb4 => ?_)); replace H : Hp _ w _ ([_, _, _, _, .blk b4 ([V64 (0 : UInt64), .string ⟨(([] : List UInt8)).toArray⟩, V8 (0 : UInt8), VI 0, VI 0, .slice none 0 0] ++ (List.replicate 32 (0 : UInt8)).map V8) 46]) := H
  refine l_op (o_stW (C' := [V64 (0 : UInt64), .string ⟨(([] : List UInt8)).toArray⟩, V8 (15 : UInt8), VI 0, VI 9223372036854775807, .slice (hd a2) 0 c3] ++ (hmac r.1 (framed [headB 0 [] 15 0 9223372036854775807])).map V8) H (i := 4) rfl rfl rfl cs46 (by simp [Value.oneCell']) (by rw [List.length_append, List.length_map, (show (List.replicate 32 (0 : UInt8)).length = 32 from (List.length_replicate ..))]; rfl) (by rw [List.length_append, List.length_map, (show (hmac r.1 (framed [headB 0 [] 15 0 9223372036854775807])).length = 32 from hmac_len _ _)]; rfl) (fun w H => ?_)); replace H : Hp _ w _ ([_, _, _, _, .blk b4 ([V64 (0 : UInt64), .string ⟨(([] : List UInt8)).toArray⟩, V8 (15 : UInt8), VI 0, VI 9223372036854775807, .slice (hd a2) 0 c3] ++ (hmac r.1 (framed [headB 0 [] 15 0 9223372036854775807])).map V8) 46]) := H
  refine l_op (o_val r_as ?_); first | refine l_end ?_ | refine l_nil ?_
  repeat refine c_seq ?_
  refine wp_held (fun w => Hp w0 w (keys [.blk wb (wrkE (⟨some nb, (⟨17, [], zId, 0, 0, 0, ⟨none, 0, 0, []⟩, s, 0, zId⟩ : Opr), none, 0⟩ : Wrk)) 73, .blk nb (staE (⟨r, d, 0, ⟨none, 0, 0, []⟩, ⟨none, 0, 0, []⟩, ⟨none, 0, 0, []⟩, h⟩ : Sta)) 38]) [.blk wb (wrkE (⟨(some nb), (⟨17, ([] : List UInt8), zId, 0, 0, (0 : UInt8), ⟨none, 0, 0, []⟩, s, 0, zId⟩ : Opr), none, (0 : UInt64)⟩ : Wrk)) 73, .blk nb (staE (⟨r, d, (0 : UInt64), ⟨none, 0, 0, []⟩, ⟨none, 0, 0, []⟩, ⟨none, 0, 0, []⟩, h⟩ : Sta)) 38, .blk b1 (ansE (⟨0, ⟨none, 0, 0, []⟩⟩ : Ans)) 49, .own a2 0 c3 ((([] : List Cav)).flatMap cavE) 63 2, .blk b4 ([V64 (0 : UInt64), .string ⟨(([] : List UInt8)).toArray⟩, V8 (15 : UInt8), VI 0, VI 9223372036854775807, .slice (hd a2) 0 c3] ++ (hmac r.1 (framed [headB 0 [] 15 0 9223372036854775807])).map V8) 46]) mixed ?_; replace H := H.drew
  have HS := H
  refine t_take 0 rfl (by kernel_rfl) (by kernel_rfl) (by kernel_rfl) (fun _ _ _ h => h) (fun w HS => r_mv) HS ?_; refine t_take 1 rfl (by kernel_rfl) (by kernel_rfl) (by kernel_rfl) (fun _ _ _ h => h) (fun w HS => r_bin (a := 0) (b := 0) rfl rfl (fun _ => b_neqB false (decide_eq_false (by decide)))) HS ?_; refine t_take 2 rfl (by kernel_rfl) (by kernel_rfl) (by kernel_rfl) (fun _ _ _ h => h) (fun w HS => r_mv) HS ?_; refine t_takeg 3 rfl (by kernel_rfl) (by kernel_rfl) (by kernel_rfl) (fun _ _ _ h => h) (yielded_mk _ _ _ rfl _ rfl rfl) (fun w HS => r_mv) HS ?_; refine t_takeg 4 rfl (by kernel_rfl) (by kernel_rfl) (by kernel_rfl) (fun _ _ _ h => h) (yielded_mk _ _ _ rfl _ rfl rfl) (fun w HS => r_nilc rfl) HS ?_; refine t_takeg 5 rfl (by kernel_rfl) (by kernel_rfl) (by kernel_rfl) (fun _ _ _ h => h) (yielded_mk _ _ _ rfl _ rfl rfl) (fun w HS => r_fa rfl fo73_0) HS ?_; refine t_takeg 6 rfl (by kernel_rfl) (by kernel_rfl) (by kernel_rfl) (fun _ _ _ h => h) (yielded_mk _ _ _ rfl _ rfl rfl) (fun w HS => r_l1 (v := .pointer (some ⟨nb, 0, none⟩)) HS (i := 0) rfl rfl ct70 (wrkE_c0 _)) HS ?_; refine t_takeg 7 rfl (by kernel_rfl) (by kernel_rfl) (by kernel_rfl) (fun _ _ _ h => h) (yielded_mk _ _ _ rfl _ rfl rfl) (fun w HS => r_nilc rfl) HS ?_; refine t_takeg 8 rfl (by kernel_rfl) (by kernel_rfl) (by kernel_rfl) (fun _ _ _ h => h) (yielded_mk _ _ _ rfl _ rfl rfl) (fun w HS => r_fa rfl fo38_0) HS ?_; refine t_takeg 9 rfl (by kernel_rfl) (by kernel_rfl) (by kernel_rfl) (fun _ _ _ h => h) (yielded_mk _ _ _ rfl _ rfl rfl) (fun w HS => r_lk HS (i := 1) rfl rfl rt23 (staE_c0 _)) HS ?_; refine t_takeg 10 rfl (by kernel_rfl) (by kernel_rfl) (by kernel_rfl) (fun _ _ _ h => h) (yielded_mk _ _ _ rfl _ rfl rfl) (fun w HS => r_ldA (C := [V64 (0 : UInt64), .string ⟨(([] : List UInt8)).toArray⟩, V8 (15 : UInt8), VI 0, VI 9223372036854775807, .slice (hd a2) 0 c3] ++ (hmac r.1 (framed [headB 0 [] 15 0 9223372036854775807])).map V8) HS (i := 4) rfl rfl rt46 (by rw [List.length_append, List.length_map, (show (hmac r.1 (framed [headB 0 [] 15 0 9223372036854775807])).length = 32 from hmac_len _ _)]; rfl)) HS ?_; refine t_takeg 11 rfl (by kernel_rfl) (by kernel_rfl) (by kernel_rfl) (fun _ _ _ h => h) (yielded_mk _ _ _ rfl _ rfl rfl) (fun w HS => r_mv) HS ?_; refine t_takeg 12 rfl (by kernel_rfl) (by kernel_rfl) (by kernel_rfl) (fun _ _ _ h => h) (yielded_mk _ _ _ rfl _ rfl rfl) (fun w HS => r_nilc rfl) HS ?_; refine t_takeg 13 rfl (by kernel_rfl) (by kernel_rfl) (by kernel_rfl) (fun _ _ _ h => h) (yielded_mk _ _ _ rfl _ rfl rfl) (fun w HS => r_fa rfl fo73_1) HS ?_; refine t_takeg 14 rfl (by kernel_rfl) (by kernel_rfl) (by kernel_rfl) (fun _ _ _ h => h) (yielded_mk _ _ _ rfl _ rfl rfl) (fun w HS => r_fa rfl fo53_8) HS ?_; refine t_takeg 15 rfl (by kernel_rfl) (by kernel_rfl) (by kernel_rfl) (fun _ _ _ h => h) (yielded_mk _ _ _ rfl _ rfl rfl) (fun w HS => r_l1 (v := VI 0) HS (i := 0) rfl rfl ct2 ((wrkE_c1 _).comp (oprE_c8 _))) HS ?_; refine t_stepg 16 rfl (by kernel_rfl) (yielded_mk _ _ _ rfl _ rfl rfl) (o_callR Tryz.func42 rfl rfl rfl (check14_ret _ (r.1) (show (r.1).length = 32 from r.2) (⟨(0 : UInt64), ([] : List UInt8), (15 : UInt8), 0, 9223372036854775807, ⟨hd a2, 0, c3, ([] : List Cav)⟩, hmac r.1 (framed [headB 0 [] 15 0 9223372036854775807])⟩ : Tok) (H.glOwn (i := 3) rfl (by decide) (fun _ _ => rfl)) (show (hmac r.1 (framed [headB 0 [] 15 0 9223372036854775807])).length = 32 from hmac_len _ _) (by first | omega | (dsimp only; omega) | simp) (0)) ?_); rintro _ w ⟨rfl, Hc⟩
  replace H : Hp _ w _ ([_, _, _, _, _]) := H.call Hc
  clear Hc
  refine ⟨H, ?_⟩
  replace HS := H
  refine t_takeg 17 rfl (by kernel_rfl) (by kernel_rfl) (by kernel_rfl) (fun _ _ _ h => h) (yielded_mk _ _ _ rfl _ rfl rfl) (fun w HS => r_bin (a := checkT (r.1) (⟨(0 : UInt64), ([] : List UInt8), (15 : UInt8), 0, 9223372036854775807, ⟨hd a2, 0, c3, ([] : List Cav)⟩, hmac r.1 (framed [headB 0 [] 15 0 9223372036854775807])⟩ : Tok) (0)) (b := 0) rfl rfl (fun _ => b_neqB false (decide_eq_false (fun hne => hne (tok1_check r))))) HS ?_; refine t_take 18 rfl (by kernel_rfl) (by kernel_rfl) (by kernel_rfl) (fun _ _ _ h => h) (fun w HS => r_pick rfl) HS ?_; refine t_done (by kernel_rfl) ?_
  clear HS
  repeat refine c_seq ?_
  refine c_no rfl ?_; refine c_skip ?_; repeat refine c_seq ?_
  refine wp_held (fun w => Hp w0 w (keys [.blk wb (wrkE (⟨some nb, (⟨17, [], zId, 0, 0, 0, ⟨none, 0, 0, []⟩, s, 0, zId⟩ : Opr), none, 0⟩ : Wrk)) 73, .blk nb (staE (⟨r, d, 0, ⟨none, 0, 0, []⟩, ⟨none, 0, 0, []⟩, ⟨none, 0, 0, []⟩, h⟩ : Sta)) 38]) [.blk wb (wrkE (⟨(some nb), (⟨17, ([] : List UInt8), zId, 0, 0, (0 : UInt8), ⟨none, 0, 0, []⟩, s, 0, zId⟩ : Opr), none, (0 : UInt64)⟩ : Wrk)) 73, .blk nb (staE (⟨r, d, (0 : UInt64), ⟨none, 0, 0, []⟩, ⟨none, 0, 0, []⟩, ⟨none, 0, 0, []⟩, h⟩ : Sta)) 38, .blk b1 (ansE (⟨0, ⟨none, 0, 0, []⟩⟩ : Ans)) 49, .own a2 0 c3 ((([] : List Cav)).flatMap cavE) 63 2, .blk b4 ([V64 (0 : UInt64), .string ⟨(([] : List UInt8)).toArray⟩, V8 (15 : UInt8), VI 0, VI 9223372036854775807, .slice (hd a2) 0 c3] ++ (hmac r.1 (framed [headB 0 [] 15 0 9223372036854775807])).map V8) 46]) mixed ?_; replace H := H.drew
  have HS := H
  refine t_take 0 rfl (by kernel_rfl) (by kernel_rfl) (by kernel_rfl) (fun _ _ _ h => h) (fun w HS => r_mv) HS ?_; refine t_take 1 rfl (by kernel_rfl) (by kernel_rfl) (by kernel_rfl) (fun _ _ _ h => h) (fun w HS => r_nilc rfl) HS ?_; refine t_take 2 rfl (by kernel_rfl) (by kernel_rfl) (by kernel_rfl) (fun _ _ _ h => h) (fun w HS => r_fa rfl fo73_0) HS ?_; refine t_take 3 rfl (by kernel_rfl) (by kernel_rfl) (by kernel_rfl) (fun _ _ _ h => h) (fun w HS => r_l1 (v := .pointer (some ⟨nb, 0, none⟩)) HS (i := 0) rfl rfl ct70 (wrkE_c0 _)) HS ?_; refine t_take 4 rfl (by kernel_rfl) (by kernel_rfl) (by kernel_rfl) (fun _ _ _ h => h) (fun w HS => r_nilc rfl) HS ?_; refine t_take 5 rfl (by kernel_rfl) (by kernel_rfl) (by kernel_rfl) (fun _ _ _ h => h) (fun w HS => r_fa rfl fo38_4) HS ?_; refine t_take 6 rfl (by kernel_rfl) (by kernel_rfl) (by kernel_rfl) (fun _ _ _ h => h) (fun w HS => r_l1 (v := .slice none 0 0) HS (i := 1) rfl rfl ct35 (staE_c4 _)) HS ?_; refine t_take 7 rfl (by kernel_rfl) (by kernel_rfl) (by kernel_rfl) (fun _ _ _ h => h) (fun w HS => r_fa rfl fo46_0) HS ?_; refine t_take 8 rfl (by kernel_rfl) (by kernel_rfl) (by kernel_rfl) (fun _ _ _ h => h) (fun w HS => r_ld (v := V64 (0 : UInt64)) HS (i := 4) rfl rfl ct33 rfl) HS ?_; refine t_step 9 rfl (by kernel_rfl) (o_callR Tryz.func43 rfl rfl rfl (bsu_ret _ ((0 : UInt64))) ?_); rintro _ w ⟨rfl, Hc⟩
  replace H : Hp _ w _ ([_, _, _, _, _]) := H.call Hc
  clear Hc
  refine ⟨H, ?_⟩
  replace HS := H
  refine t_take 10 rfl (by kernel_rfl) (by kernel_rfl) (by kernel_rfl) (fun _ _ _ h => h) (fun w HS => r_mv) HS ?_; refine t_take 11 rfl (by kernel_rfl) (by kernel_rfl) (by kernel_rfl) (fun _ _ _ h => h) (fun w HS => r_ext rfl rfl) HS ?_; refine t_take 12 rfl (by kernel_rfl) (by kernel_rfl) (by kernel_rfl) (fun _ _ _ h => h) (fun w HS => r_ext rfl rfl) HS ?_; refine t_take 13 rfl (by kernel_rfl) (by kernel_rfl) (by kernel_rfl) (fun _ _ _ h => h) (fun w HS => r_as) HS ?_; refine t_take 14 rfl (by kernel_rfl) (by kernel_rfl) (by kernel_rfl) (fun _ _ _ h => h) (fun w HS => r_as) HS ?_; refine t_done (by kernel_rfl) ?_
  clear HS
  repeat refine c_seq ?_
  refine c_region ?_; refine l_op (o_val r_mv ?_); first | refine l_end ?_ | refine l_nil ?_
  repeat refine c_seq ?_
  refine c_no rfl ?_; refine c_skip ?_; repeat refine c_seq ?_
  refine c_region ?_; refine l_op (o_val r_mv ?_); refine l_op (o_val (r_fa rfl fo46_0) ?_); refine l_op (o_val (r_ld (v := V64 (0 : UInt64)) H (i := 4) rfl rfl ct33 rfl) ?_); refine l_op (o_val (r_nilc rfl) ?_); refine l_op (o_val (r_fa rfl fo73_3) ?_); refine l_op (o_s1P (C' := wrkE (⟨(some nb), (⟨17, ([] : List UInt8), zId, 0, 0, (0 : UInt8), ⟨none, 0, 0, []⟩, s, 0, zId⟩ : Opr), none, (0 : UInt64)⟩ : Wrk)) (u := V64 (0 : UInt64)) H (i := 0) rfl rfl rfl cs33 rfl (wrkE_p3 _ (0 : UInt64)) (fun w H => ?_)); replace H : Hp _ w _ [_, _, _, _, _] := H
  first | refine l_end ?_ | refine l_nil ?_
  repeat refine c_seq ?_
  refine c_region ?_; refine l_op (o_val r_mv ?_); refine l_op (o_val (r_nilc rfl) ?_); refine l_op (o_val (r_fa rfl fo73_1) ?_); refine l_op (o_val (r_fa rfl fo53_0) ?_); refine l_op (o_val (r_l1 (v := VI 17) H (i := 0) rfl rfl ct3 ((wrkE_c1 _).comp (oprE_c0 _))) ?_); refine l_op (o_callR Tryz.func44 rfl rfl rfl (needs17_ret _) ?_); rintro _ w ⟨rfl, Hc⟩
  replace H : Hp _ w _ ([_, _, _, _, _]) := H.call Hc
  clear Hc
  refine l_op (o_val r_mv ?_); refine l_op (o_val (r_ext rfl rfl) ?_); refine l_op (o_val (r_ext rfl rfl) ?_); refine l_op (o_val r_as ?_); refine l_op (o_val r_as ?_); first | refine l_end ?_ | refine l_nil ?_
  repeat refine c_seq ?_
  refine c_region ?_; refine l_op (o_val (r_ldA (C := [V64 (0 : UInt64), .string ⟨(([] : List UInt8)).toArray⟩, V8 (15 : UInt8), VI 0, VI 9223372036854775807, .slice (hd a2) 0 c3] ++ (hmac r.1 (framed [headB 0 [] 15 0 9223372036854775807])).map V8) H (i := 4) rfl rfl rt46 (by rw [List.length_append, List.length_map, (show (hmac r.1 (framed [headB 0 [] 15 0 9223372036854775807])).length = 32 from hmac_len _ _)]; rfl)) ?_); refine l_op (o_callR Tryz.func45 rfl rfl rfl (effect_ret _ (⟨(0 : UInt64), ([] : List UInt8), (15 : UInt8), 0, 9223372036854775807, ⟨hd a2, 0, c3, ([] : List Cav)⟩, hmac r.1 (framed [headB 0 [] 15 0 9223372036854775807])⟩ : Tok) (H.glOwn (i := 3) rfl (by decide) (fun _ _ => rfl)) (show (hmac r.1 (framed [headB 0 [] 15 0 9223372036854775807])).length = 32 from hmac_len _ _)) ?_); rintro _ w ⟨rfl, Hc⟩
  replace H : Hp _ w _ ([_, _, _, _, _]) := H.call Hc
  clear Hc
  refine l_op (o_val r_mv ?_); refine l_op (o_val (r_ext rfl rfl) ?_); refine l_op (o_val (r_ext rfl rfl) ?_); refine l_op (o_val r_as ?_); refine l_op (o_val r_as ?_); first | refine l_end ?_ | refine l_nil ?_
  repeat refine c_seq ?_
  refine wp_held (fun w => Hp w0 w (keys [.blk wb (wrkE (⟨some nb, (⟨17, [], zId, 0, 0, 0, ⟨none, 0, 0, []⟩, s, 0, zId⟩ : Opr), none, 0⟩ : Wrk)) 73, .blk nb (staE (⟨r, d, 0, ⟨none, 0, 0, []⟩, ⟨none, 0, 0, []⟩, ⟨none, 0, 0, []⟩, h⟩ : Sta)) 38]) [.blk wb (wrkE (⟨(some nb), (⟨17, ([] : List UInt8), zId, 0, 0, (0 : UInt8), ⟨none, 0, 0, []⟩, s, 0, zId⟩ : Opr), none, (0 : UInt64)⟩ : Wrk)) 73, .blk nb (staE (⟨r, d, (0 : UInt64), ⟨none, 0, 0, []⟩, ⟨none, 0, 0, []⟩, ⟨none, 0, 0, []⟩, h⟩ : Sta)) 38, .blk b1 (ansE (⟨0, ⟨none, 0, 0, []⟩⟩ : Ans)) 49, .own a2 0 c3 ((([] : List Cav)).flatMap cavE) 63 2, .blk b4 ([V64 (0 : UInt64), .string ⟨(([] : List UInt8)).toArray⟩, V8 (15 : UInt8), VI 0, VI 9223372036854775807, .slice (hd a2) 0 c3] ++ (hmac r.1 (framed [headB 0 [] 15 0 9223372036854775807])).map V8) 46]) mixed ?_; replace H := H.drew
  have HS := H
  refine t_take 0 rfl (by kernel_rfl) (by kernel_rfl) (by kernel_rfl) (fun _ _ _ h => h) (fun w HS => r_mv) HS ?_; refine t_take 1 rfl (by kernel_rfl) (by kernel_rfl) (by kernel_rfl) (fun _ _ _ h => h) (fun w HS => r_mv) HS ?_; refine t_step 2 rfl (by kernel_rfl) (o_callR Tryz.func46 rfl rfl rfl (rcov_ret _ ((effF ((15 : UInt8)) (9223372036854775807) ([] : List Cav)).1) ((8 : UInt8))) ?_); rintro _ w' ⟨rfl, hw5⟩
  rw [hw5]; clear hw5 w'
  have hk6 : (rCov ((effF ((15 : UInt8)) (9223372036854775807) ([] : List Cav)).1) ((8 : UInt8))) = true := (by rfl)
  refine ⟨H, ?_⟩
  replace HS := H
  refine t_take 3 rfl (by kernel_rfl) (by kernel_rfl) (by kernel_rfl) (fun _ _ _ h => h) (fun w HS => r_not rfl) HS ?_; refine t_take 4 rfl (by kernel_rfl) (by kernel_rfl) (by kernel_rfl) (fun _ _ _ h => h) (fun w HS => r_mv) HS ?_; refine t_takeg 5 rfl (by kernel_rfl) (by kernel_rfl) (by kernel_rfl) (fun _ _ _ h => h) (yielded_mk _ _ _ rfl _ rfl (by exact congrArg Value.bool (congrArg not hk6))) (fun w HS => r_fa rfl fo46_1) HS ?_; refine t_takeg 6 rfl (by kernel_rfl) (by kernel_rfl) (by kernel_rfl) (fun _ _ _ h => h) (yielded_mk _ _ _ rfl _ rfl (by exact congrArg Value.bool (congrArg not hk6))) (fun w HS => r_ld (v := .string ⟨(([] : List UInt8)).toArray⟩) HS (i := 4) rfl rfl ct9 rfl) HS ?_; refine t_takeg 7 rfl (by kernel_rfl) (by kernel_rfl) (by kernel_rfl) (fun _ _ _ h => h) (yielded_mk _ _ _ rfl _ rfl (by exact congrArg Value.bool (congrArg not hk6))) (fun w HS => r_strne (a := ([] : List UInt8)) (b := ([] : List UInt8)) rfl rfl) HS ?_; refine t_takeg 8 rfl (by kernel_rfl) (by kernel_rfl) (by kernel_rfl) (fun _ _ _ h => h) (yielded_mk _ _ _ rfl _ rfl (by exact congrArg Value.bool (congrArg not hk6))) (fun w HS => r_mv) HS ?_; refine t_no 9 rfl (by kernel_rfl) (by kernel_rfl) (by kernel_rfl) (fun _ _ _ h => h) (yielded_mk _ _ _ rfl _ rfl (by exact congrArg Value.bool (congrArg not (decide_eq_true (rfl : ([] : List UInt8) = ([] : List UInt8)))))) rfl HS ?_; refine t_no 10 rfl (by kernel_rfl) (by kernel_rfl) (by kernel_rfl) (fun _ _ _ h => h) (yielded_mk _ _ _ rfl _ rfl (by exact congrArg Value.bool (congrArg not (decide_eq_true (rfl : ([] : List UInt8) = ([] : List UInt8)))))) rfl HS ?_; refine t_no 11 rfl (by kernel_rfl) (by kernel_rfl) (by kernel_rfl) (fun _ _ _ h => h) (yielded_mk _ _ _ rfl _ rfl (by exact congrArg Value.bool (congrArg not (decide_eq_true (rfl : ([] : List UInt8) = ([] : List UInt8)))))) rfl HS ?_; refine t_no 12 rfl (by kernel_rfl) (by kernel_rfl) (by kernel_rfl) (fun _ _ _ h => h) (yielded_mk _ _ _ rfl _ rfl (by exact congrArg Value.bool (congrArg not (decide_eq_true (rfl : ([] : List UInt8) = ([] : List UInt8)))))) rfl HS ?_; refine t_no 13 rfl (by kernel_rfl) (by kernel_rfl) (by kernel_rfl) (fun _ _ _ h => h) (yielded_mk _ _ _ rfl _ rfl (by exact congrArg Value.bool (congrArg not (decide_eq_true (rfl : ([] : List UInt8) = ([] : List UInt8)))))) rfl HS ?_; refine t_no 14 rfl (by kernel_rfl) (by kernel_rfl) (by kernel_rfl) (fun _ _ _ h => h) (yielded_mk _ _ _ rfl _ rfl (by exact congrArg Value.bool (congrArg not (decide_eq_true (rfl : ([] : List UInt8) = ([] : List UInt8)))))) rfl HS ?_; refine t_no 15 rfl (by kernel_rfl) (by kernel_rfl) (by kernel_rfl) (fun _ _ _ h => h) (yielded_mk _ _ _ rfl _ rfl (by exact congrArg Value.bool (congrArg not (decide_eq_true (rfl : ([] : List UInt8) = ([] : List UInt8)))))) rfl HS ?_; refine t_non 16 rfl (by kernel_rfl) (by kernel_rfl) (by kernel_rfl) (fun _ _ _ h => h) rfl rfl rfl HS ?_; refine t_non 17 rfl (by kernel_rfl) (by kernel_rfl) (by kernel_rfl) (fun _ _ _ h => h) rfl rfl rfl HS ?_; refine t_non 18 rfl (by kernel_rfl) (by kernel_rfl) (by kernel_rfl) (fun _ _ _ h => h) rfl rfl rfl HS ?_; refine t_non 19 rfl (by kernel_rfl) (by kernel_rfl) (by kernel_rfl) (fun _ _ _ h => h) rfl rfl rfl HS ?_; refine t_non 20 rfl (by kernel_rfl) (by kernel_rfl) (by kernel_rfl) (fun _ _ _ h => h) rfl rfl rfl HS ?_; refine t_non 21 rfl (by kernel_rfl) (by kernel_rfl) (by kernel_rfl) (fun _ _ _ h => h) rfl rfl rfl HS ?_; refine t_non 22 rfl (by kernel_rfl) (by kernel_rfl) (by kernel_rfl) (fun _ _ _ h => h) rfl rfl rfl HS ?_; refine t_non 23 rfl (by kernel_rfl) (by kernel_rfl) (by kernel_rfl) (fun _ _ _ h => h) rfl rfl rfl HS ?_; refine t_no 24 rfl (by kernel_rfl) (by kernel_rfl) (by kernel_rfl) (fun _ _ _ h => h) (yielded_mk _ _ _ rfl _ rfl (by exact congrArg Value.bool (congrArg not (decide_eq_true (rfl : ([] : List UInt8) = ([] : List UInt8)))))) rfl HS ?_; refine t_takeg 25 rfl (by kernel_rfl) (by kernel_rfl) (by kernel_rfl) (fun _ _ _ h => h) (yielded_mk _ _ _ rfl _ rfl (by exact congrArg Value.bool (congrArg not hk6))) (fun w HS => r_pick (b := false) (congrArg Value.bool (congrArg not (decide_eq_true (rfl : ([] : List UInt8) = ([] : List UInt8)))))) HS ?_
  refine t_take 26 rfl (by kernel_rfl) (by kernel_rfl) (by kernel_rfl) (fun _ _ _ h => h) (fun w HS => r_pick (b := false) (congrArg Value.bool (congrArg not hk6))) HS ?_; refine t_done (by kernel_rfl) ?_
  clear HS
  repeat refine c_seq ?_
  refine c_no rfl ?_; refine c_skip ?_; repeat refine c_seq ?_
  refine wp_held (fun w => Hp w0 w (keys [.blk wb (wrkE (⟨some nb, (⟨17, [], zId, 0, 0, 0, ⟨none, 0, 0, []⟩, s, 0, zId⟩ : Opr), none, 0⟩ : Wrk)) 73, .blk nb (staE (⟨r, d, 0, ⟨none, 0, 0, []⟩, ⟨none, 0, 0, []⟩, ⟨none, 0, 0, []⟩, h⟩ : Sta)) 38]) [.blk wb (wrkE (⟨(some nb), (⟨17, ([] : List UInt8), zId, 0, 0, (0 : UInt8), ⟨none, 0, 0, []⟩, s, 0, zId⟩ : Opr), none, (0 : UInt64)⟩ : Wrk)) 73, .blk nb (staE (⟨r, d, (0 : UInt64), ⟨none, 0, 0, []⟩, ⟨none, 0, 0, []⟩, ⟨none, 0, 0, []⟩, h⟩ : Sta)) 38, .blk b1 (ansE (⟨0, ⟨none, 0, 0, []⟩⟩ : Ans)) 49, .own a2 0 c3 ((([] : List Cav)).flatMap cavE) 63 2, .blk b4 ([V64 (0 : UInt64), .string ⟨(([] : List UInt8)).toArray⟩, V8 (15 : UInt8), VI 0, VI 9223372036854775807, .slice (hd a2) 0 c3] ++ (hmac r.1 (framed [headB 0 [] 15 0 9223372036854775807])).map V8) 46]) mixed ?_; replace H := H.drew
  have HS := H
  refine t_take 0 rfl (by kernel_rfl) (by kernel_rfl) (by kernel_rfl) (fun _ _ _ h => h) (fun w HS => r_mv) HS ?_; refine t_take 1 rfl (by kernel_rfl) (by kernel_rfl) (by kernel_rfl) (fun _ _ _ h => h) (fun w HS => r_nilc rfl) HS ?_; refine t_take 2 rfl (by kernel_rfl) (by kernel_rfl) (by kernel_rfl) (fun _ _ _ h => h) (fun w HS => r_fa rfl fo73_0) HS ?_; refine t_take 3 rfl (by kernel_rfl) (by kernel_rfl) (by kernel_rfl) (fun _ _ _ h => h) (fun w HS => r_l1 (v := .pointer (some ⟨nb, 0, none⟩)) HS (i := 0) rfl rfl ct70 (wrkE_c0 _)) HS ?_; refine t_take 4 rfl (by kernel_rfl) (by kernel_rfl) (by kernel_rfl) (fun _ _ _ h => h) (fun w HS => r_nilc rfl) HS ?_; refine t_take 5 rfl (by kernel_rfl) (by kernel_rfl) (by kernel_rfl) (fun _ _ _ h => h) (fun w HS => r_fa rfl fo38_3) HS ?_; refine t_take 6 rfl (by kernel_rfl) (by kernel_rfl) (by kernel_rfl) (fun _ _ _ h => h) (fun w HS => r_l1 (v := .slice none 0 0) HS (i := 1) rfl rfl ct34 (staE_c3 _)) HS ?_; refine t_take 7 rfl (by kernel_rfl) (by kernel_rfl) (by kernel_rfl) (fun _ _ _ h => h) (fun w HS => r_mv) HS ?_; refine t_take 8 rfl (by kernel_rfl) (by kernel_rfl) (by kernel_rfl) (fun _ _ _ h => h) (fun w HS => r_nilc rfl) HS ?_; refine t_take 9 rfl (by kernel_rfl) (by kernel_rfl) (by kernel_rfl) (fun _ _ _ h => h) (fun w HS => r_fa rfl fo73_1) HS ?_; refine t_take 10 rfl (by kernel_rfl) (by kernel_rfl) (by kernel_rfl) (fun _ _ _ h => h) (fun w HS => r_fa rfl fo53_1) HS ?_; refine t_take 11 rfl (by kernel_rfl) (by kernel_rfl) (by kernel_rfl) (fun _ _ _ h => h) (fun w HS => r_l1 (v := .string ⟨(([] : List UInt8)).toArray⟩) HS (i := 0) rfl rfl ct9 ((wrkE_c1 _).comp (oprE_c1 _))) HS ?_; refine t_step 12 rfl (by kernel_rfl) (o_callR Tryz.func48 rfl rfl rfl (bst_ret _ (([] : List UInt8)) (.func (.func 49) #[] #[])) ?_); rintro _ w ⟨rfl, Hc⟩
  replace H : Hp _ w _ ([_, _, _, _, _]) := H.call Hc
  clear Hc
  refine ⟨H, ?_⟩
  replace HS := H
  refine t_take 13 rfl (by kernel_rfl) (by kernel_rfl) (by kernel_rfl) (fun _ _ _ h => h) (fun w HS => r_mv) HS ?_; refine t_take 14 rfl (by kernel_rfl) (by kernel_rfl) (by kernel_rfl) (fun _ _ _ h => h) (fun w HS => r_ext rfl rfl) HS ?_; refine t_take 15 rfl (by kernel_rfl) (by kernel_rfl) (by kernel_rfl) (fun _ _ _ h => h) (fun w HS => r_ext rfl rfl) HS ?_; refine t_take 16 rfl (by kernel_rfl) (by kernel_rfl) (by kernel_rfl) (fun _ _ _ h => h) (fun w HS => r_as) HS ?_; refine t_take 17 rfl (by kernel_rfl) (by kernel_rfl) (by kernel_rfl) (fun _ _ _ h => h) (fun w HS => r_as) HS ?_; refine t_done (by kernel_rfl) ?_
  clear HS
  repeat refine c_seq ?_
  refine c_region ?_; refine l_op (o_val r_mv ?_); first | refine l_end ?_ | refine l_nil ?_
  repeat refine c_seq ?_
  refine c_no rfl ?_; refine c_skip ?_; repeat refine c_seq ?_
  refine c_region ?_; refine l_op (o_val r_mv ?_); refine l_op (o_val (r_nilc rfl) ?_); refine l_op (o_val (r_fa rfl fo73_1) ?_); refine l_op (o_val (r_fa rfl fo53_0) ?_); refine l_op (o_val (r_l1 (v := VI 17) H (i := 0) rfl rfl ct3 ((wrkE_c1 _).comp (oprE_c0 _))) ?_); refine l_op (o_val r_as ?_); first | refine l_end ?_ | refine l_nil ?_
  repeat refine c_seq ?_
  refine c_block ?_; repeat refine c_seq ?_
  refine c_region ?_; refine l_op (o_val r_mv ?_); refine l_op (o_val (r_bin (a := 17) (b := 10) rfl rfl (fun _ => b_eqlB false (decide_eq_false (by decide)))) ?_); refine l_op (o_val r_as ?_); first | refine l_end ?_ | refine l_nil ?_
  repeat refine c_seq ?_
  refine c_no rfl ?_; repeat refine c_seq ?_
  refine c_region ?_; refine l_op (o_val r_mv ?_); refine l_op (o_val (r_bin (a := 17) (b := 13) rfl rfl (fun _ => b_eqlB false (decide_eq_false (by decide)))) ?_); refine l_op (o_val r_as ?_); first | refine l_end ?_ | refine l_nil ?_
  repeat refine c_seq ?_
  refine c_no rfl ?_; repeat refine c_seq ?_
  refine c_region ?_; refine l_op (o_val r_mv ?_); refine l_op (o_val (r_bin (a := 17) (b := 16) rfl rfl (fun _ => b_eqlB false (decide_eq_false (by decide)))) ?_); refine l_op (o_val r_as ?_); first | refine l_end ?_ | refine l_nil ?_
  repeat refine c_seq ?_
  refine c_no rfl ?_; repeat refine c_seq ?_
  refine c_region ?_; refine l_op (o_val r_mv ?_); refine l_op (o_val (r_bin (a := 17) (b := 17) rfl rfl (fun _ => b_eqlB true (decide_eq_true (by decide)))) ?_); refine l_op (o_val r_as ?_); first | refine l_end ?_ | refine l_nil ?_
  repeat refine c_seq ?_
  refine c_yes rfl ?_; refine c_skip ?_; repeat refine c_seq ?_
  refine c_region ?_; refine l_op (o_callR Tryz.func18 rfl rfl rfl (only_ret _ (0)) ?_); rintro _ w ⟨rfl, Hc⟩
  replace H : Hp _ w _ ([_, _, _, _, _]) := H.call Hc
  clear Hc
  refine l_op (o_stW (C' := ansE (⟨0, ⟨none, 0, 0, []⟩⟩ : Ans)) H (i := 2) rfl rfl rfl cs49 (ansE_all _) (ansE_len _) (ansE_len _) (fun w H => ?_)); replace H : Hp _ w _ [_, _, _, _, _] := H
  first | refine l_end ?_ | refine l_nil ?_
  refine c_ret ?_; try dsimp only [Exit.then, Exit.inBlock]
  refine e_retc Tryz.results20 H (i := 2) rfl rfl rt49 (ansE_len _).symm ?_
  refine ⟨_, rfl, ?_⟩
  exact ⟨rfl, H.sub (.cons_cons _ (.cons_cons _ (List.nil_sublist _)))⟩
theorem do1_ret (w0 : World) (wb nb : Nat) (z : Sta) (s : Sl) (hO : Own w0 [.blk wb (wrkE (⟨some nb, (⟨17, [], zId, 0, 0, 0, ⟨none, 0, 0, []⟩, s, 0, zId⟩ : Opr), none, 0⟩ : Wrk)) 73, .blk nb (staE z) 38]) :
    Ret Tryz.prog 21 [.pointer (some ⟨wb, 0, none⟩)] w0 fun v w' => ∃ a c, v = .agg (ansE (⟨200, ⟨hd a, 32, c, z.head.1⟩⟩ : Ans)).toArray ∧ Hp w0 w' (keys [.blk wb (wrkE (⟨some nb, (⟨17, [], zId, 0, 0, 0, ⟨none, 0, 0, []⟩, s, 0, zId⟩ : Opr), none, 0⟩ : Wrk)) 73, .blk nb (staE z) 38]) [.blk wb (wrkE (⟨some nb, (⟨17, [], zId, 0, 0, 0, ⟨none, 0, 0, []⟩, s, 0, zId⟩ : Opr), none, 0⟩ : Wrk)) 73, .blk nb (staE z) 38, .own a 32 c (z.head.1.map V8) 5 1] := by
  refine ret_mk Tryz.func21 rfl Tryz.ntmps21 (by simp) ?_
  have H : Hp w0 w0 (keys [.blk wb (wrkE (⟨some nb, (⟨17, [], zId, 0, 0, 0, ⟨none, 0, 0, []⟩, s, 0, zId⟩ : Opr), none, 0⟩ : Wrk)) 73, .blk nb (staE z) 38]) [.blk wb (wrkE (⟨some nb, (⟨17, [], zId, 0, 0, 0, ⟨none, 0, 0, []⟩, s, 0, zId⟩ : Opr), none, 0⟩ : Wrk)) 73, .blk nb (staE z) 38] := hO.start
  repeat refine c_seq ?_
  refine c_region ?_; refine l_op (o_alloc H zc49 (fun b1 w H hb1 => ?_)); replace H : Hp _ w _ ([.blk wb (wrkE (⟨(some nb), (⟨17, ([] : List UInt8), zId, 0, 0, (0 : UInt8), ⟨none, 0, 0, []⟩, s, 0, zId⟩ : Opr), none, (0 : UInt64)⟩ : Wrk)) 73, .blk nb (staE z) 38, .blk b1 (ansE (⟨0, ⟨none, 0, 0, []⟩⟩ : Ans)) 49]) := H
  first | refine l_end ?_ | refine l_nil ?_
  repeat refine c_seq ?_
  refine c_region ?_; refine l_op (o_val r_mv ?_); refine l_op (o_val (r_nilc rfl) ?_); refine l_op (o_val (r_fa rfl fo73_1) ?_); refine l_op (o_val (r_fa rfl fo53_0) ?_); refine l_op (o_val (r_l1 (v := VI 17) H (i := 0) rfl rfl ct3 ((wrkE_c1 _).comp (oprE_c0 _))) ?_); first | refine l_end ?_ | refine l_nil ?_
  repeat refine c_seq ?_
  refine c_block ?_; repeat refine c_seq ?_
  refine c_region ?_; refine l_op (o_val (r_bin (a := 17) (b := 1) rfl rfl (fun _ => b_eqlB false (decide_eq_false (by decide)))) ?_); refine l_op (o_val r_as ?_); first | refine l_end ?_ | refine l_nil ?_
  repeat refine c_seq ?_
  refine c_no rfl ?_; repeat refine c_seq ?_
  refine c_region ?_; refine l_op (o_val (r_bin (a := 17) (b := 2) rfl rfl (fun _ => b_eqlB false (decide_eq_false (by decide)))) ?_); refine l_op (o_val r_as ?_); first | refine l_end ?_ | refine l_nil ?_
  repeat refine c_seq ?_
  refine c_no rfl ?_; repeat refine c_seq ?_
  refine c_region ?_; refine l_op (o_val (r_bin (a := 17) (b := 3) rfl rfl (fun _ => b_eqlB false (decide_eq_false (by decide)))) ?_); refine l_op (o_val r_as ?_); first | refine l_end ?_ | refine l_nil ?_
  repeat refine c_seq ?_
  refine c_no rfl ?_; repeat refine c_seq ?_
  refine c_region ?_; refine l_op (o_val (r_bin (a := 17) (b := 4) rfl rfl (fun _ => b_eqlB false (decide_eq_false (by decide)))) ?_); refine l_op (o_val r_as ?_); first | refine l_end ?_ | refine l_nil ?_
  repeat refine c_seq ?_
  refine c_no rfl ?_; repeat refine c_seq ?_
  refine c_region ?_; refine l_op (o_val (r_bin (a := 17) (b := 5) rfl rfl (fun _ => b_eqlB false (decide_eq_false (by decide)))) ?_); refine l_op (o_val r_as ?_); first | refine l_end ?_ | refine l_nil ?_
  repeat refine c_seq ?_
  refine c_no rfl ?_; repeat refine c_seq ?_
  refine c_region ?_; refine l_op (o_val (r_bin (a := 17) (b := 6) rfl rfl (fun _ => b_eqlB false (decide_eq_false (by decide)))) ?_); refine l_op (o_val r_as ?_); first | refine l_end ?_ | refine l_nil ?_
  repeat refine c_seq ?_
  refine c_no rfl ?_; repeat refine c_seq ?_
  refine c_region ?_; refine l_op (o_val (r_bin (a := 17) (b := 7) rfl rfl (fun _ => b_eqlB false (decide_eq_false (by decide)))) ?_); refine l_op (o_val r_as ?_); first | refine l_end ?_ | refine l_nil ?_
  repeat refine c_seq ?_
  refine c_no rfl ?_; repeat refine c_seq ?_
  refine c_region ?_; refine l_op (o_val (r_bin (a := 17) (b := 8) rfl rfl (fun _ => b_eqlB false (decide_eq_false (by decide)))) ?_); refine l_op (o_val r_as ?_); first | refine l_end ?_ | refine l_nil ?_
  repeat refine c_seq ?_
  refine c_no rfl ?_; repeat refine c_seq ?_
  refine c_region ?_; refine l_op (o_val (r_bin (a := 17) (b := 9) rfl rfl (fun _ => b_eqlB false (decide_eq_false (by decide)))) ?_); refine l_op (o_val r_as ?_); first | refine l_end ?_ | refine l_nil ?_
  repeat refine c_seq ?_
  refine c_no rfl ?_; repeat refine c_seq ?_
  refine c_region ?_; refine l_op (o_val (r_bin (a := 17) (b := 10) rfl rfl (fun _ => b_eqlB false (decide_eq_false (by decide)))) ?_); refine l_op (o_val r_as ?_); first | refine l_end ?_ | refine l_nil ?_
  repeat refine c_seq ?_
  refine c_no rfl ?_; repeat refine c_seq ?_
  refine c_region ?_; refine l_op (o_val (r_bin (a := 17) (b := 11) rfl rfl (fun _ => b_eqlB false (decide_eq_false (by decide)))) ?_); refine l_op (o_val r_as ?_); first | refine l_end ?_ | refine l_nil ?_
  repeat refine c_seq ?_
  refine c_no rfl ?_; repeat refine c_seq ?_
  refine c_region ?_; refine l_op (o_val (r_bin (a := 17) (b := 12) rfl rfl (fun _ => b_eqlB false (decide_eq_false (by decide)))) ?_); refine l_op (o_val r_as ?_); first | refine l_end ?_ | refine l_nil ?_
  repeat refine c_seq ?_
  refine c_no rfl ?_; repeat refine c_seq ?_
  refine c_region ?_; refine l_op (o_val (r_bin (a := 17) (b := 13) rfl rfl (fun _ => b_eqlB false (decide_eq_false (by decide)))) ?_); refine l_op (o_val r_as ?_); first | refine l_end ?_ | refine l_nil ?_
  repeat refine c_seq ?_
  refine c_no rfl ?_; repeat refine c_seq ?_
  refine c_region ?_; refine l_op (o_val (r_bin (a := 17) (b := 14) rfl rfl (fun _ => b_eqlB false (decide_eq_false (by decide)))) ?_); refine l_op (o_val r_as ?_); first | refine l_end ?_ | refine l_nil ?_
  repeat refine c_seq ?_
  refine c_no rfl ?_; repeat refine c_seq ?_
  refine c_region ?_; refine l_op (o_val (r_bin (a := 17) (b := 15) rfl rfl (fun _ => b_eqlB false (decide_eq_false (by decide)))) ?_); refine l_op (o_val r_as ?_); first | refine l_end ?_ | refine l_nil ?_
  repeat refine c_seq ?_
  refine c_no rfl ?_; repeat refine c_seq ?_
  refine c_region ?_; refine l_op (o_val (r_bin (a := 17) (b := 16) rfl rfl (fun _ => b_eqlB false (decide_eq_false (by decide)))) ?_); refine l_op (o_val r_as ?_); first | refine l_end ?_ | refine l_nil ?_
  repeat refine c_seq ?_
  refine c_no rfl ?_; refine c_skip ?_; repeat refine c_seq ?_
  refine c_region ?_; refine l_op (o_val r_mv ?_); refine l_op (o_val (r_nilc rfl) ?_); refine l_op (o_val (r_fa rfl fo73_0) ?_); refine l_op (o_val (r_l1 (v := .pointer (some ⟨nb, 0, none⟩)) H (i := 0) rfl rfl ct70 (wrkE_c0 _)) ?_); refine l_op (o_val (r_nilc rfl) ?_); refine l_op (o_val (r_fa rfl fo38_6) ?_); refine l_op (o_val (r_slAo (o := 37) (h := 32) (m := 32) (lv := none) (hv := none) (mv := none) rfl ar23 rfl rfl rfl (fun w => sbn w)) ?_); refine l_op (o_callR Tryz.func57 rfl rfl rfl (clone8_ret _ (⟨some ⟨nb, 37, none⟩, 32, 32, z.head.1⟩ : Sl) (H.slMid (i := 1) rfl (staE_c6 _) (by decide)) rfl (by first | decide | omega | (dsimp only; omega))) ?_); rintro _ w ⟨a2, c3, rfl, Hc⟩
  replace H : Hp _ w _ ([_, _, _, .own a2 32 c3 ((z.head.1).map V8) 5 1]) := H.call Hc
  clear Hc
  refine l_op (o_callR Tryz.func56 rfl rfl rfl (told_ret _ (⟨hd a2, 32, c3, z.head.1⟩)) ?_); rintro _ w ⟨rfl, Hc⟩
  replace H : Hp _ w _ ([_, _, _, _]) := H.call Hc
  clear Hc
  refine l_op (o_stW (C' := ansE (⟨200, ⟨hd a2, 32, c3, z.head.1⟩⟩ : Ans)) H (i := 2) rfl rfl rfl cs49 (ansE_all _) (ansE_len _) (ansE_len _) (fun w H => ?_)); replace H : Hp _ w _ ([_, _, .blk b1 (ansE (⟨200, ⟨hd a2, 32, c3, z.head.1⟩⟩ : Ans)) 49, _]) := H
  first | refine l_end ?_ | refine l_nil ?_
  refine c_ret ?_; try dsimp only [Exit.then, Exit.inBlock]
  refine e_retc Tryz.results21 H (i := 2) rfl rfl rt49 (ansE_len _).symm ?_
  refine ⟨_, rfl, ?_⟩
  exact ⟨_, _, rfl, H.sub (.cons_cons _ (.cons_cons _ (.cons _ (.cons_cons _ (List.nil_sublist _)))))⟩
end Go.Proofs.YtiepekfcegdkoaaGreatDoor
namespace Go.Proofs.YtiepekfcegdkoaaGreatDoor
open Go Go.ChangeMaps
set_option maxRecDepth 100000
theorem RdS.apartK {w0 : World} {a : Option Addr} {vs : List Value} {S : List Nat} (hr : RdS w0 a vs) (hv : vs ≠ []) (hS : ∀ b ∈ S, w0.heap.size ≤ b) : Apart a S := by
  intro y hy hm
  rcases hr with h | ⟨b', o, C, T, fr, ha, hh, _⟩
  · exact hv h
  · rw [ha] at hy
    cases hy
    have h1 := (Array.getElem?_eq_some_iff.1 hh).1
    have h2 : w0.heap.size ≤ b' := hS _ hm
    omega
theorem Sl.ok.apartK {w0 : World} {x : Sl} {S : List Nat} (hx : x.ok w0) (hS : ∀ b ∈ S, w0.heap.size ≤ b) : x.l ≠ [] → Apart x.a S := fun hn => hx.rd.apartK (by simpa using hn) hS
section
variable {κ α : Type} [DecidableEq κ] {P : Program} {n : Nat} {σ : Nat → Value} {w w0 : World}
  {ty : TypeId} {pos : String} {aft : Array Edge} {g : Option (Nat × Bool)} {d : Nat} {t kt et : TypeId} {x y : Operand} {S : List Nat} {L : List Ch}
end
end Go.Proofs.YtiepekfcegdkoaaGreatDoor
