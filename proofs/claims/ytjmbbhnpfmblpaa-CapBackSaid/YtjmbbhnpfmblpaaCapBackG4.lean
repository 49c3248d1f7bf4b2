/- Lemmas for the statement CapBack, part 4: rules of operations, walks through functions, plain laws. -/
import Derived.Test.YtjmbbhnpfmblpaaCapBackG3
namespace Go.Proofs.Ytjmbbhnpfmblpaa
open Go
set_option maxRecDepth 100000
theorem may_tagless (T : TV) (cs : Gl Cav) (h : T.may = true) (hl : cs.l = T.cs) (hn : cs.l.length = cs.len) (tag : List UInt8) : mayT ⟨T.serial, T.tenant, T.rights, T.from_, T.until_, cs, tag⟩ = true := by
  rw [mayT_tv _ hn, TV.may]; rw [TV.may] at h
  simp only [Tok.tv, hl]; exact h
theorem capTake_ret (w0 : World) (s : Sl) (hs : s.ok w0) (hm : s.len ≤ 1048576) :
    Ret Try.prog 102 [s.v] w0 fun v w' => (parseT s.l = none ∧ v = .tuple #[.agg (([V64 0, .string ⟨([] : List UInt8).toArray⟩, V8 0, VI 0, VI 0, .slice none 0 0] : List Value) ++ (List.replicate 32 (0 : UInt8)).map V8).toArray, VI 4] ∧ Hp w0 w' [] []) ∨ ∃ (T : TV) (a : Option Nat) (k : Nat), parseT s.l = some T ∧ v = .tuple #[.agg ([V64 T.serial, .string ⟨T.tenant.toArray⟩, V8 T.rights, VI T.from_, VI T.until_, .slice (hd a) T.cs.length k] ++ T.tag.map V8).toArray, VI 0] ∧ Hp w0 w' [] [.own a T.cs.length k (T.cs.flatMap cavE) 78 2] := by
  refine ret_mk Try.func102 rfl Try.ntmps102 (by simp) ?_
  have H := Hp.refl w0 []
  have hsl := hs.ln
  have hse := hs.le
  repeat refine c_seq ?_
  refine c_region ?_
  refine l_op (o_alloc H zc76 (fun b1 w H hb1 => ?_))
  replace H : Hp _ w _ ([.blk b1 ([V64 (0 : UInt64), .string ⟨(([] : List UInt8)).toArray⟩, V8 (0 : UInt8), VI 0, VI 0, .slice none 0 0] ++ (List.replicate 32 (0 : UInt8)).map V8) 76]) := H
  refine l_op (o_val (r_as) ?_)
  first | refine l_end ?_ | refine l_nil ?_
  repeat refine c_seq ?_
  refine c_region ?_
  refine l_op (o_val (r_mv) ?_)
  refine l_op (o_val (r_bld' (cells := ([s.v, .bool false]).toArray) (pv := [(0, s.v)]) bd144 rfl rfl) ?_)
  refine l_op (o_box (v := .agg ([s.v, .bool false]).toArray) H rfl (fun b2 w H hb2 => ?_))
  replace H : Hp _ w _ ([_, .blk b2 ([s.v, .bool false]) 144]) := H
  refine l_op (o_val (r_as) ?_)
  first | refine l_end ?_ | refine l_nil ?_
  repeat refine c_seq ?_
  refine c_region ?_
  refine l_op (o_val (r_mv) ?_)
  refine l_op (o_callR Try.func130 rfl rfl rfl (number_ret (x := s) H (i := 1) rfl (hs.up H (fun _ => apart_nil _)) 1 (by omega) (by omega)) ?_)
  rintro _ w ⟨rfl, Hc⟩
  clear H
  have H := Hc; clear Hc
  replace H : Hp _ w _ ([_, .blk b2 ([(s.nx 1).v, .bool (false || short 1 s.l)]) 144]) := H
  refine l_op (o_val (r_as) ?_)
  first | refine l_end ?_ | refine l_nil ?_
  repeat refine c_seq ?_
  refine c_region ?_
  refine l_op (o_val (r_mv) ?_)
  refine l_op (o_callR Try.func130 rfl rfl rfl (number_ret (x := (s.nx 1)) H (i := 1) rfl ((hs.up H (fun _ => apart_nil _)).nx 1) 8 (by omega) (by omega)) ?_)
  rintro _ w ⟨rfl, Hc⟩
  clear H
  have H := Hc; clear Hc
  replace H : Hp _ w _ ([_, .blk b2 ([((s.nx 1).nx 8).v, .bool ((false || short 1 s.l) || short 8 (s.nx 1).l)]) 144]) := H
  refine l_op (o_val (r_mv) ?_)
  refine l_op (o_callR Try.func131 rfl rfl rfl (textR_ret (x := ((s.nx 1).nx 8)) H (i := 1) rfl (((hs.up H (fun _ => apart_nil _)).nx 1).nx 8) (by have := nx_len (s.nx 1) 8; have := nx_len s 1; omega)) ?_)
  rintro _ w ⟨t3, k4, bd5, rfl, hkl6, htx7, Hc⟩
  clear H
  have H := Hc; clear Hc
  replace H : Hp _ w _ ([_, .blk b2 ([(((s.nx 1).nx 8).tl k4).v, .bool bd5]) 144]) := H
  refine l_op (o_val (r_mv) ?_)
  refine l_op (o_callR Try.func130 rfl rfl rfl (number_ret (x := (((s.nx 1).nx 8).tl k4)) H (i := 1) rfl ((((hs.up H (fun _ => apart_nil _)).nx 1).nx 8).tl (n := k4) hkl6) 1 (by omega) (by omega)) ?_)
  rintro _ w ⟨rfl, Hc⟩
  clear H
  have H := Hc; clear Hc
  replace H : Hp _ w _ ([_, .blk b2 ([((((s.nx 1).nx 8).tl k4).nx 1).v, .bool (bd5 || short 1 (((s.nx 1).nx 8).tl k4).l)]) 144]) := H
  refine l_op (o_val (r_conv Try.underlying35 Try.underlying73 rfl (w_u8_64 _)) ?_)
  refine l_op (o_val (r_bld' (cells := ([V64 (numV 8 (s.nx 1).l), .string ⟨(t3).toArray⟩, V8 ((numV 1 (((s.nx 1).nx 8).tl k4).l).toUInt8), VI 0, VI 0, .slice none 0 0] ++ (List.replicate 32 (0 : UInt8)).map V8).toArray) (pv := [(0, V64 (numV 8 (s.nx 1).l)), (1, .string ⟨(t3).toArray⟩), (2, V8 ((numV 1 (((s.nx 1).nx 8).tl k4).l).toUInt8))]) bd76 rfl rfl) ?_)
  refine l_op (o_alloc H zc76 (fun b8 w H hb8 => ?_))
  replace H : Hp _ w _ ([_, _, .blk b8 ([V64 (0 : UInt64), .string ⟨(([] : List UInt8)).toArray⟩, V8 (0 : UInt8), VI 0, VI 0, .slice none 0 0] ++ (List.replicate 32 (0 : UInt8)).map V8) 76]) := H
  refine l_op (o_stW (C' := [V64 (numV 8 (s.nx 1).l), .string ⟨(t3).toArray⟩, V8 ((numV 1 (((s.nx 1).nx 8).tl k4).l).toUInt8), VI 0, VI 0, .slice none 0 0] ++ (List.replicate 32 (0 : UInt8)).map V8) H (i := 2) rfl rfl rfl cs76 (by simp [Value.oneCell']) (by rw [List.length_append, List.length_map, (show (List.replicate 32 (0 : UInt8)).length = 32 from (List.length_replicate ..))]; rfl) (by rw [List.length_append, List.length_map, (show (List.replicate 32 (0 : UInt8)).length = 32 from (List.length_replicate ..))]; rfl) (fun w H => ?_))
  replace H : Hp _ w _ ([_, _, .blk b8 ([V64 (numV 8 (s.nx 1).l), .string ⟨(t3).toArray⟩, V8 ((numV 1 (((s.nx 1).nx 8).tl k4).l).toUInt8), VI 0, VI 0, .slice none 0 0] ++ (List.replicate 32 (0 : UInt8)).map V8) 76]) := H
  first | refine l_end ?_ | refine l_nil ?_
  repeat refine c_seq ?_
  refine c_region ?_
  refine l_op (o_val (r_mv) ?_)
  refine l_op (o_callR Try.func130 rfl rfl rfl (number_ret (x := ((((s.nx 1).nx 8).tl k4).nx 1)) H (i := 1) rfl (((((hs.up H (fun _ => apart_nil _)).nx 1).nx 8).tl (n := k4) hkl6).nx 1) 8 (by omega) (by omega)) ?_)
  rintro _ w ⟨rfl, Hc⟩
  clear H
  have H := Hc; clear Hc
  replace H : Hp _ w _ ([_, .blk b2 ([(((((s.nx 1).nx 8).tl k4).nx 1).nx 8).v, .bool ((bd5 || short 1 (((s.nx 1).nx 8).tl k4).l) || short 8 ((((s.nx 1).nx 8).tl k4).nx 1).l)]) 144, _]) := H
  refine l_op (o_callR Try.func132 rfl rfl rfl (zag_ret _ (numV 8 ((((s.nx 1).nx 8).tl k4).nx 1).l)) ?_)
  rintro _ w ⟨rfl, Hc⟩
  replace H : Hp _ w _ ([_, _, _]) := H.call Hc
  clear Hc
  refine l_op (o_val (r_mv) ?_)
  refine l_op (o_callR Try.func130 rfl rfl rfl (number_ret (x := (((((s.nx 1).nx 8).tl k4).nx 1).nx 8)) H (i := 1) rfl ((((((hs.up H (fun _ => apart_nil _)).nx 1).nx 8).tl (n := k4) hkl6).nx 1).nx 8) 8 (by omega) (by omega)) ?_)
  rintro _ w ⟨rfl, Hc⟩
  clear H
  have H := Hc; clear Hc
  replace H : Hp _ w _ ([_, .blk b2 ([((((((s.nx 1).nx 8).tl k4).nx 1).nx 8).nx 8).v, .bool (((bd5 || short 1 (((s.nx 1).nx 8).tl k4).l) || short 8 ((((s.nx 1).nx 8).tl k4).nx 1).l) || short 8 (((((s.nx 1).nx 8).tl k4).nx 1).nx 8).l)]) 144, _]) := H
  refine l_op (o_callR Try.func132 rfl rfl rfl (zag_ret _ (numV 8 (((((s.nx 1).nx 8).tl k4).nx 1).nx 8).l)) ?_)
  rintro _ w ⟨rfl, Hc⟩
  replace H : Hp _ w _ ([_, _, _]) := H.call Hc
  clear Hc
  refine l_op (o_val (r_fa rfl fo76_3) ?_)
  refine l_op (o_st (v := VI (zagU (numV 8 ((((s.nx 1).nx 8).tl k4).nx 1).l))) H (i := 2) rfl rfl rfl cs2 rfl (by simp only [List.length_append, List.length_cons, List.length_nil]; omega) (fun w H => ?_))
  replace H : Hp _ w _ ([_, _, .blk b8 ([V64 (numV 8 (s.nx 1).l), .string ⟨(t3).toArray⟩, V8 ((numV 1 (((s.nx 1).nx 8).tl k4).l).toUInt8), VI (zagU (numV 8 ((((s.nx 1).nx 8).tl k4).nx 1).l)), VI 0, .slice none 0 0] ++ (List.replicate 32 (0 : UInt8)).map V8) 76]) := H
  refine l_op (o_val (r_fa rfl fo76_4) ?_)
  refine l_op (o_st (v := VI (zagU (numV 8 (((((s.nx 1).nx 8).tl k4).nx 1).nx 8).l))) H (i := 2) rfl rfl rfl cs2 rfl (by simp only [List.length_append, List.length_cons, List.length_nil]; omega) (fun w H => ?_))
  replace H : Hp _ w _ ([_, _, .blk b8 ([V64 (numV 8 (s.nx 1).l), .string ⟨(t3).toArray⟩, V8 ((numV 1 (((s.nx 1).nx 8).tl k4).l).toUInt8), VI (zagU (numV 8 ((((s.nx 1).nx 8).tl k4).nx 1).l)), VI (zagU (numV 8 (((((s.nx 1).nx 8).tl k4).nx 1).nx 8).l)), .slice none 0 0] ++ (List.replicate 32 (0 : UInt8)).map V8) 76]) := H
  first | refine l_end ?_ | refine l_nil ?_
  repeat refine c_seq ?_
  refine c_region ?_
  refine l_op (o_val (r_mv) ?_)
  refine l_op (o_callR Try.func130 rfl rfl rfl (number_ret (x := ((((((s.nx 1).nx 8).tl k4).nx 1).nx 8).nx 8)) H (i := 1) rfl (((((((hs.up H (fun _ => apart_nil _)).nx 1).nx 8).tl (n := k4) hkl6).nx 1).nx 8).nx 8) 1 (by omega) (by omega)) ?_)
  rintro _ w ⟨rfl, Hc⟩
  clear H
  have H := Hc; clear Hc
  replace H : Hp _ w _ ([_, .blk b2 ([(((((((s.nx 1).nx 8).tl k4).nx 1).nx 8).nx 8).nx 1).v, .bool ((((bd5 || short 1 (((s.nx 1).nx 8).tl k4).l) || short 8 ((((s.nx 1).nx 8).tl k4).nx 1).l) || short 8 (((((s.nx 1).nx 8).tl k4).nx 1).nx 8).l) || short 1 ((((((s.nx 1).nx 8).tl k4).nx 1).nx 8).nx 8).l)]) 144, _]) := H
  refine l_op (o_val (r_as) ?_)
  first | refine l_end ?_ | refine l_nil ?_
  have htl := htx7.2.2
  have hhd : HdRd s.l t3 (((s.nx 1).nx 8).tl k4).l bd5 := by
    have e : nxl 8 (nxl 1 s.l) = ((s.nx 1).nx 8).l := by simp only [nx_l]
    have e1 : nxl 1 s.l = (s.nx 1).l := by rw [nx_l]
    unfold HdRd; rw [e, e1]; exact htx7
  have hB : ((((bd5 || short 1 (((s.nx 1).nx 8).tl k4).l) || short 8 ((((s.nx 1).nx 8).tl k4).nx 1).l) || short 8 (((((s.nx 1).nx 8).tl k4).nx 1).nx 8).l) || short 1 ((((((s.nx 1).nx 8).tl k4).nx 1).nx 8).nx 8).l) = hdBad (((s.nx 1).nx 8).tl k4).l bd5 := by simp only [hdBad, nx_l]
  have n7 : nxl 8 (nxl 8 (nxl 1 (((s.nx 1).nx 8).tl k4).l)) = ((((((s.nx 1).nx 8).tl k4).nx 1).nx 8).nx 8).l := by simp only [nx_l]
  have n8 : nxl 1 (nxl 8 (nxl 8 (nxl 1 (((s.nx 1).nx 8).tl k4).l))) = (((((((s.nx 1).nx 8).tl k4).nx 1).nx 8).nx 8).nx 1).l := by simp only [nx_l]
  repeat refine c_seq ?_
  refine c_region ?_
  refine l_op (o_val (r_mv) ?_)
  refine l_op (o_val (r_nilc rfl) ?_)
  refine l_op (o_val (r_fa rfl fo144_1) ?_)
  refine l_op (o_val (r_ld (v := .bool ((((bd5 || short 1 (((s.nx 1).nx 8).tl k4).l) || short 8 ((((s.nx 1).nx 8).tl k4).nx 1).l) || short 8 (((((s.nx 1).nx 8).tl k4).nx 1).nx 8).l) || short 1 ((((((s.nx 1).nx 8).tl k4).nx 1).nx 8).nx 8).l)) H (i := 1) rfl rfl ct4 rfl) ?_)
  refine l_op (o_val (r_mv) ?_)
  rcases Bool.eq_false_or_eq_true ((((bd5 || short 1 (((s.nx 1).nx 8).tl k4).l) || short 8 ((((s.nx 1).nx 8).tl k4).nx 1).l) || short 8 (((((s.nx 1).nx 8).tl k4).nx 1).nx 8).l) || short 1 ((((((s.nx 1).nx 8).tl k4).nx 1).nx 8).nx 8).l) with hc9 | hc9
  ·
   refine l_no rfl rfl (by exact congrArg Value.bool hc9) rfl ?_
   refine l_no rfl rfl (by exact congrArg Value.bool hc9) rfl ?_
   refine l_op (o_val (r_pick (b := true) (congrArg Value.bool hc9)) ?_)
   refine l_op (o_val (r_mv) ?_)
   refine l_no rfl rfl rfl rfl ?_
   refine l_no rfl rfl rfl rfl ?_
   refine l_op (o_val (r_pick rfl) ?_)
   first | refine l_end ?_ | refine l_nil ?_
   repeat refine c_seq ?_
   refine c_yes rfl ?_
   repeat refine c_seq ?_
   refine c_region ?_
   refine l_op (o_val (r_bld' (cells := ([V64 (0 : UInt64), .string ⟨(([] : List UInt8)).toArray⟩, V8 (0 : UInt8), VI 0, VI 0, .slice none 0 0] ++ (List.replicate 32 (0 : UInt8)).map V8).toArray) (pv := []) bd76 rfl rfl) ?_)
   refine l_op (o_stW (C' := [V64 (0 : UInt64), .string ⟨(([] : List UInt8)).toArray⟩, V8 (0 : UInt8), VI 0, VI 0, .slice none 0 0] ++ (List.replicate 32 (0 : UInt8)).map V8) H (i := 0) rfl rfl rfl cs76 (by simp [Value.oneCell']) (by rw [List.length_append, List.length_map, (show (List.replicate 32 (0 : UInt8)).length = 32 from (List.length_replicate ..))]; rfl) (by rw [List.length_append, List.length_map, (show (List.replicate 32 (0 : UInt8)).length = 32 from (List.length_replicate ..))]; rfl) (fun w H => ?_))
   replace H : Hp _ w _ [_, _, _] := H
   refine l_op (o_val (r_as) ?_)
   first | refine l_end ?_ | refine l_nil ?_
   refine c_ret ?_
   try dsimp only [Exit.then, Exit.inBlock]
   refine e_retN (vs := [.agg ([V64 (0 : UInt64), .string ⟨(([] : List UInt8)).toArray⟩, V8 (0 : UInt8), VI 0, VI 0, .slice none 0 0] ++ (List.replicate 32 (0 : UInt8)).map V8).toArray, VI 4]) _ Try.results102 rfl (H.resR (C := [V64 (0 : UInt64), .string ⟨(([] : List UInt8)).toArray⟩, V8 (0 : UInt8), VI 0, VI 0, .slice none 0 0] ++ (List.replicate 32 (0 : UInt8)).map V8) (i := 0) rfl rfl rt76 (by rw [List.length_append, List.length_map, (show (List.replicate 32 (0 : UInt8)).length = 32 from (List.length_replicate ..))]; rfl) (resT (v := VI 4) rfl (resZ))) ?_
   refine ⟨_, rfl, ?_⟩
   refine .inl ⟨?_, rfl, H.sub (List.nil_sublist _)⟩
   cases hp : parseT s.l with
   | none => rfl
   | some T =>
     exfalso
     obtain ⟨z1, z2, z3, z4, z5, z6, z7, z8, z9⟩ := hd_complete hp hhd
     have hTm := may_cs T ((parse_iff _ _).1 hp).1
     have z2' := congrArg UInt64.toNat z2
     have e1 : (1 : UInt64).toNat = 1 := rfl
     rw [n7] at z8
     exact Bool.noConfusion ((hc9).symm.trans (hB.trans z1))
  ·
   refine l_yes rfl rfl (by exact congrArg Value.bool hc9) (o_val (r_mv) ?_)
   refine l_yes rfl rfl (by exact congrArg Value.bool hc9) (o_val (r_bin (a := ((numV 1 s.l).toNat : Int)) (b := 1) rfl rfl (fun _ => b_neq)) ?_)
   refine l_op (o_val (r_pick (b := false) (congrArg Value.bool hc9)) ?_)
   refine l_op (o_val (r_mv) ?_)
   by_cases hc10 : ((numV 1 s.l).toNat : Int) ≠ 1
   ·
    refine l_no rfl rfl (by exact congrArg Value.bool (decide_eq_true hc10)) rfl ?_
    refine l_no rfl rfl (by exact congrArg Value.bool (decide_eq_true hc10)) rfl ?_
    refine l_op (o_val (r_pick (b := true) (congrArg Value.bool (decide_eq_true hc10))) ?_)
    first | refine l_end ?_ | refine l_nil ?_
    repeat refine c_seq ?_
    refine c_yes rfl ?_
    repeat refine c_seq ?_
    refine c_region ?_
    refine l_op (o_val (r_bld' (cells := ([V64 (0 : UInt64), .string ⟨(([] : List UInt8)).toArray⟩, V8 (0 : UInt8), VI 0, VI 0, .slice none 0 0] ++ (List.replicate 32 (0 : UInt8)).map V8).toArray) (pv := []) bd76 rfl rfl) ?_)
    refine l_op (o_stW (C' := [V64 (0 : UInt64), .string ⟨(([] : List UInt8)).toArray⟩, V8 (0 : UInt8), VI 0, VI 0, .slice none 0 0] ++ (List.replicate 32 (0 : UInt8)).map V8) H (i := 0) rfl rfl rfl cs76 (by simp [Value.oneCell']) (by rw [List.length_append, List.length_map, (show (List.replicate 32 (0 : UInt8)).length = 32 from (List.length_replicate ..))]; rfl) (by rw [List.length_append, List.length_map, (show (List.replicate 32 (0 : UInt8)).length = 32 from (List.length_replicate ..))]; rfl) (fun w H => ?_))
    replace H : Hp _ w _ [_, _, _] := H
    refine l_op (o_val (r_as) ?_)
    first | refine l_end ?_ | refine l_nil ?_
    refine c_ret ?_
    try dsimp only [Exit.then, Exit.inBlock]
    refine e_retN (vs := [.agg ([V64 (0 : UInt64), .string ⟨(([] : List UInt8)).toArray⟩, V8 (0 : UInt8), VI 0, VI 0, .slice none 0 0] ++ (List.replicate 32 (0 : UInt8)).map V8).toArray, VI 4]) _ Try.results102 rfl (H.resR (C := [V64 (0 : UInt64), .string ⟨(([] : List UInt8)).toArray⟩, V8 (0 : UInt8), VI 0, VI 0, .slice none 0 0] ++ (List.replicate 32 (0 : UInt8)).map V8) (i := 0) rfl rfl rt76 (by rw [List.length_append, List.length_map, (show (List.replicate 32 (0 : UInt8)).length = 32 from (List.length_replicate ..))]; rfl) (resT (v := VI 4) rfl (resZ))) ?_
    refine ⟨_, rfl, ?_⟩
    refine .inl ⟨?_, rfl, H.sub (List.nil_sublist _)⟩
    cases hp : parseT s.l with
    | none => rfl
    | some T =>
      exfalso
      obtain ⟨z1, z2, z3, z4, z5, z6, z7, z8, z9⟩ := hd_complete hp hhd
      have hTm := may_cs T ((parse_iff _ _).1 hp).1
      have z2' := congrArg UInt64.toNat z2
      have e1 : (1 : UInt64).toNat = 1 := rfl
      rw [n7] at z8
      omega
   ·
    refine l_yes rfl rfl (by exact congrArg Value.bool (decide_eq_false hc10)) (o_val (r_mv) ?_)
    refine l_yes rfl rfl (by exact congrArg Value.bool (decide_eq_false hc10)) (o_val (r_bin (a := ((numV 1 ((((((s.nx 1).nx 8).tl k4).nx 1).nx 8).nx 8).l).toNat : Int)) (b := 8) rfl rfl (fun _ => b_gtr)) ?_)
    refine l_op (o_val (r_pick (b := false) (congrArg Value.bool (decide_eq_false hc10))) ?_)
    first | refine l_end ?_ | refine l_nil ?_
    by_cases hc11 : 8 < ((numV 1 ((((((s.nx 1).nx 8).tl k4).nx 1).nx 8).nx 8).l).toNat : Int)
    ·
     repeat refine c_seq ?_
     refine c_yes (by exact congrArg Value.bool (decide_eq_true hc11)) ?_
     repeat refine c_seq ?_
     refine c_region ?_
     refine l_op (o_val (r_bld' (cells := ([V64 (0 : UInt64), .string ⟨(([] : List UInt8)).toArray⟩, V8 (0 : UInt8), VI 0, VI 0, .slice none 0 0] ++ (List.replicate 32 (0 : UInt8)).map V8).toArray) (pv := []) bd76 rfl rfl) ?_)
     refine l_op (o_stW (C' := [V64 (0 : UInt64), .string ⟨(([] : List UInt8)).toArray⟩, V8 (0 : UInt8), VI 0, VI 0, .slice none 0 0] ++ (List.replicate 32 (0 : UInt8)).map V8) H (i := 0) rfl rfl rfl cs76 (by simp [Value.oneCell']) (by rw [List.length_append, List.length_map, (show (List.replicate 32 (0 : UInt8)).length = 32 from (List.length_replicate ..))]; rfl) (by rw [List.length_append, List.length_map, (show (List.replicate 32 (0 : UInt8)).length = 32 from (List.length_replicate ..))]; rfl) (fun w H => ?_))
     replace H : Hp _ w _ [_, _, _] := H
     refine l_op (o_val (r_as) ?_)
     first | refine l_end ?_ | refine l_nil ?_
     refine c_ret ?_
     try dsimp only [Exit.then, Exit.inBlock]
     refine e_retN (vs := [.agg ([V64 (0 : UInt64), .string ⟨(([] : List UInt8)).toArray⟩, V8 (0 : UInt8), VI 0, VI 0, .slice none 0 0] ++ (List.replicate 32 (0 : UInt8)).map V8).toArray, VI 4]) _ Try.results102 rfl (H.resR (C := [V64 (0 : UInt64), .string ⟨(([] : List UInt8)).toArray⟩, V8 (0 : UInt8), VI 0, VI 0, .slice none 0 0] ++ (List.replicate 32 (0 : UInt8)).map V8) (i := 0) rfl rfl rt76 (by rw [List.length_append, List.length_map, (show (List.replicate 32 (0 : UInt8)).length = 32 from (List.length_replicate ..))]; rfl) (resT (v := VI 4) rfl (resZ))) ?_
     refine ⟨_, rfl, ?_⟩
     refine .inl ⟨?_, rfl, H.sub (List.nil_sublist _)⟩
     cases hp : parseT s.l with
     | none => rfl
     | some T =>
       exfalso
       obtain ⟨z1, z2, z3, z4, z5, z6, z7, z8, z9⟩ := hd_complete hp hhd
       have hTm := may_cs T ((parse_iff _ _).1 hp).1
       have z2' := congrArg UInt64.toNat z2
       have e1 : (1 : UInt64).toNat = 1 := rfl
       rw [n7] at z8
       omega
    ·
     repeat refine c_seq ?_
     refine c_no (by exact congrArg Value.bool (decide_eq_false hc11)) ?_
     refine c_skip ?_
     have hy0 : ((((((((s.nx 1).nx 8).tl k4).nx 1).nx 8).nx 8).nx 1)).ok w0 := ((((((hs.nx 1).nx 8).tl (n := k4) hkl6).nx 1).nx 8).nx 8).nx 1
     repeat refine c_seq ?_
     refine c_region ?_
     refine l_op (o_val (r_mv) ?_)
     refine l_op (o_val (r_mvV (c64 0 (by decide))) ?_)
     first | refine l_end ?_ | refine l_nil ?_
     repeat refine c_seq ?_
     refine c_block ?_
     repeat refine c_seq ?_
     refine c_loop6 (fun (i : Nat) (yy : Sl) (bb : Bool) (cs : List Cav) (a : Option Nat) (k : Nat) => [(2, .pointer (some ⟨b1, 0, none⟩)), (4, .pointer (some ⟨b2, 0, none⟩)), (6, .pointer (some ⟨b8, 0, none⟩)), (45, V64 (numV 1 ((((((s.nx 1).nx 8).tl k4).nx 1).nx 8).nx 8).l)), (46, V64 (UInt64.ofNat i))])
       (fun (i : Nat) (yy : Sl) (bb : Bool) (cs : List Cav) (a : Option Nat) (k : Nat) w => (i ≤ (numV 1 ((((((s.nx 1).nx 8).tl k4).nx 1).nx 8).nx 8).l).toNat ∧ yy.ok w0 ∧ cavRun (((((((s.nx 1).nx 8).tl k4).nx 1).nx 8).nx 8).nx 1).l ((((bd5 || short 1 (((s.nx 1).nx 8).tl k4).l) || short 8 ((((s.nx 1).nx 8).tl k4).nx 1).l) || short 8 (((((s.nx 1).nx 8).tl k4).nx 1).nx 8).l) || short 1 ((((((s.nx 1).nx 8).tl k4).nx 1).nx 8).nx 8).l) i = (cs, yy.l, bb)) ∧ Hp w0 w [] ([.blk b1 ([V64 (0 : UInt64), .string ⟨(([] : List UInt8)).toArray⟩, V8 (0 : UInt8), VI 0, VI 0, .slice none 0 0] ++ (List.replicate 32 (0 : UInt8)).map V8) 76, .blk b2 ([yy.v, .bool bb]) 144, .blk b8 ([V64 (numV 8 (s.nx 1).l), .string ⟨(t3).toArray⟩, V8 ((numV 1 (((s.nx 1).nx 8).tl k4).l).toUInt8), VI (zagU (numV 8 ((((s.nx 1).nx 8).tl k4).nx 1).l)), VI (zagU (numV 8 (((((s.nx 1).nx 8).tl k4).nx 1).nx 8).l)), .slice (hd a) i k] ++ (List.replicate 32 (0 : UInt8)).map V8) 76, .own a i k ((cs).flatMap cavE) 78 2]))
       (fun (i : Nat) (yy : Sl) (bb : Bool) (cs : List Cav) (a : Option Nat) (k : Nat) => (numV 1 ((((((s.nx 1).nx 8).tl k4).nx 1).nx 8).nx 8).l).toNat - i) 0 (((((((s.nx 1).nx 8).tl k4).nx 1).nx 8).nx 8).nx 1) ((((bd5 || short 1 (((s.nx 1).nx 8).tl k4).l) || short 8 ((((s.nx 1).nx 8).tl k4).nx 1).l) || short 8 (((((s.nx 1).nx 8).tl k4).nx 1).nx 8).l) || short 1 ((((((s.nx 1).nx 8).tl k4).nx 1).nx 8).nx 8).l) ([]) none 0 ⟨rfl, rfl, rfl, rfl, rfl, trivial⟩ ⟨⟨Nat.zero_le _, hy0, rfl⟩, (H.nilEnd 78 2)⟩ ?_
     clear H
     rintro i yy bb cs a k τ w ⟨⟨hi, hy, hrun⟩, H⟩
     have hoi : (UInt64.ofNat i).toNat = i := ofNat_nat _ (by omega)
     repeat refine c_seq ?_
     refine c_region ?_
     refine l_op (o_val (r_bin (a := ((UInt64.ofNat i).toNat : Int)) (b := ((numV 1 ((((((s.nx 1).nx 8).tl k4).nx 1).nx 8).nx 8).l).toNat : Int)) rfl rfl (fun _ => b_lss)) ?_)
     first | refine l_end ?_ | refine l_nil ?_
     by_cases hc12 : ((UInt64.ofNat i).toNat : Int) < ((numV 1 ((((((s.nx 1).nx 8).tl k4).nx 1).nx 8).nx 8).l).toNat : Int)
     ·
      repeat refine c_seq ?_
      refine c_yes (by exact congrArg Value.bool (decide_eq_true hc12)) ?_
      refine c_skip ?_
      repeat refine c_seq ?_
      refine c_block ?_
      repeat refine c_seq ?_
      refine c_region ?_
      refine l_op (o_val (r_mv) ?_)
      refine l_op (o_callR Try.func130 rfl rfl rfl (number_ret (x := yy) H (i := 1) rfl (hy.up H (fun _ => apart_nil _)) 1 (by omega) (by omega)) ?_)
      rintro _ w ⟨rfl, Hc⟩
      clear H
      have H := Hc; clear Hc
      replace H : Hp _ w _ ([_, .blk b2 ([(yy.nx 1).v, .bool (bb || short 1 yy.l)]) 144, _, _]) := H
      refine l_op (o_val (r_conv Try.underlying35 Try.underlying73 rfl (w_u8_64 _)) ?_)
      refine l_op (o_val (r_bld' (cells := ([V8 ((numV 1 yy.l).toUInt8), VI 0]).toArray) (pv := [(0, V8 ((numV 1 yy.l).toUInt8))]) bd78 rfl rfl) ?_)
      refine l_op (o_alloc H zc78 (fun b13 w H hb13 => ?_))
      replace H : Hp _ w _ ([_, _, _, _, .blk b13 ([V8 (0 : UInt8), VI 0]) 78]) := H
      refine l_op (o_stW (C' := [V8 ((numV 1 yy.l).toUInt8), VI 0]) H (i := 4) rfl rfl rfl cs78 (by simp [Value.oneCell']) (by rfl) (by rfl) (fun w H => ?_))
      replace H : Hp _ w _ ([_, _, _, _, .blk b13 ([V8 ((numV 1 yy.l).toUInt8), VI 0]) 78]) := H
      first | refine l_end ?_ | refine l_nil ?_
      repeat refine c_seq ?_
      refine c_region ?_
      refine l_op (o_val (r_mv) ?_)
      refine l_op (o_callR Try.func130 rfl rfl rfl (number_ret (x := (yy.nx 1)) H (i := 1) rfl ((hy.up H (fun _ => apart_nil _)).nx 1) 8 (by omega) (by omega)) ?_)
      rintro _ w ⟨rfl, Hc⟩
      clear H
      have H := Hc; clear Hc
      replace H : Hp _ w _ ([_, .blk b2 ([((yy.nx 1).nx 8).v, .bool ((bb || short 1 yy.l) || short 8 (yy.nx 1).l)]) 144, _, _, _]) := H
      refine l_op (o_callR Try.func132 rfl rfl rfl (zag_ret _ (numV 8 (yy.nx 1).l)) ?_)
      rintro _ w ⟨rfl, Hc⟩
      replace H : Hp _ w _ ([_, _, _, _, _]) := H.call Hc
      clear Hc
      refine l_op (o_val (r_fa rfl fo78_1) ?_)
      refine l_op (o_st (v := VI (zagU (numV 8 (yy.nx 1).l))) H (i := 4) rfl rfl rfl cs2 rfl (by simp only [List.length_cons, List.length_nil]; omega) (fun w H => ?_))
      replace H : Hp _ w _ ([_, _, _, _, .blk b13 ([V8 ((numV 1 yy.l).toUInt8), VI (zagU (numV 8 (yy.nx 1).l))]) 78]) := H
      first | refine l_end ?_ | refine l_nil ?_
      repeat refine c_seq ?_
      refine c_region ?_
      refine l_op (o_val (r_fa rfl fo76_5) ?_)
      refine l_op (o_val (r_ld (v := .slice (hd a) i k) H (i := 2) rfl rfl ct74 rfl) ?_)
      refine l_op (o_val (r_ldA (C := [V8 ((numV 1 yy.l).toUInt8), VI (zagU (numV 8 (yy.nx 1).l))]) H (i := 4) rfl rfl rt78 (by rfl)) ?_)
      refine l_op (o_bslG1 (enc := cavE) (((numV 1 yy.l).toUInt8, zagU (numV 8 (yy.nx 1).l))) H sl74 zc78 (by rfl) (by decide) (by decide) rfl rfl (fun b14 w H hb14 => ?_))
      replace H : Hp _ w _ ([_, _, _, _, _, .own (some b14) 1 1 (([((numV 1 yy.l).toUInt8, zagU (numV 8 (yy.nx 1).l))]).flatMap cavE) 78 2]) := H
      refine l_op (o_appG (enc := cavE) (s := ⟨hd (some b14), 1, 1, [((numV 1 yy.l).toUInt8, zagU (numV 8 (yy.nx 1).l))]⟩) (l' := cs ++ ([((numV 1 yy.l).toUInt8, zagU (numV 8 (yy.nx 1).l))])) (len' := i + 1) rfl rfl H (i := 3) rfl sl74 Try.underlying74 rfl rfl (H.glOwn (i := 5) rfl (by decide) (fun _ _ => rfl)) (by decide) (fun _ _ => rfl) (by omega) (by decide) (fun a15 c16 w H => ?_))
      replace H : Hp _ w _ ([_, _, _, .own a15 (i + 1) c16 ((cs ++ ([((numV 1 yy.l).toUInt8, zagU (numV 8 (yy.nx 1).l))])).flatMap cavE) 78 2, _, _]) := H
      refine l_op (o_val (r_fa rfl fo76_5) ?_)
      refine l_op (o_st (v := .slice (hd a15) (i + 1) c16) H (i := 2) rfl rfl rfl cs74 rfl (by simp only [List.length_append, List.length_cons, List.length_nil]; omega) (fun w H => ?_))
      replace H : Hp _ w _ ([_, _, .blk b8 ([V64 (numV 8 (s.nx 1).l), .string ⟨(t3).toArray⟩, V8 ((numV 1 (((s.nx 1).nx 8).tl k4).l).toUInt8), VI (zagU (numV 8 ((((s.nx 1).nx 8).tl k4).nx 1).l)), VI (zagU (numV 8 (((((s.nx 1).nx 8).tl k4).nx 1).nx 8).l)), .slice (hd a15) (i + 1) c16] ++ (List.replicate 32 (0 : UInt8)).map V8) 76, _, _, _]) := H
      first | refine l_end ?_ | refine l_nil ?_
      repeat refine c_seq ?_
      refine c_region ?_
      refine l_op (o_val (r_bin rfl (c64 1 (by decide)) (fun _ => b_add_u64N)) ?_)
      refine l_op (o_val (r_mv) ?_)
      first | refine l_end ?_ | refine l_nil ?_
      refine round_end (i + 1, ((yy.nx 1).nx 8), (bb || short 1 yy.l) || short 8 (yy.nx 1).l, cs ++ ([((numV 1 yy.l).toUInt8, zagU (numV 8 (yy.nx 1).l))]), a15, c16) ?_ ?_ ?_
      · exact ⟨rfl, rfl, rfl, rfl, show V64 (UInt64.ofNat (i + 1)) = V64 (UInt64.ofNat (i + 1 : Nat)) from congrArg V64 rfl, trivial⟩
      · refine ⟨?_, ?_⟩
        · try dsimp only
          exact ⟨by omega, (hy.nx 1).nx 8, cavRun_next hrun⟩
        · exact H.sub (.cons_cons _ (.cons_cons _ (.cons_cons _ (.cons_cons _ (List.nil_sublist _)))))
      · show (numV 1 ((((((s.nx 1).nx 8).tl k4).nx 1).nx 8).nx 8).l).toNat - (i + 1 : Nat) < (numV 1 ((((((s.nx 1).nx 8).tl k4).nx 1).nx 8).nx 8).l).toNat - i; omega
     ·
      repeat refine c_seq ?_
      refine c_no (by exact congrArg Value.bool (decide_eq_false hc12)) ?_
      refine c_exit ?_
      have hgl : cs.length = i := ((H.glOwn (i := 3) rfl (by decide) (fun _ _ => rfl))).ln
      have hyl := hy.ln
      repeat refine c_seq ?_
      refine c_region ?_
      refine l_op (o_val (r_mv) ?_)
      refine l_op (o_val (r_nilc rfl) ?_)
      refine l_op (o_val (r_fa rfl fo144_1) ?_)
      refine l_op (o_val (r_ld (v := .bool bb) H (i := 1) rfl rfl ct4 rfl) ?_)
      refine l_op (o_val (r_mv) ?_)
      rcases Bool.eq_false_or_eq_true (bb) with hc17 | hc17
      ·
       refine l_no rfl rfl (by exact congrArg Value.bool hc17) rfl ?_
       refine l_no rfl rfl (by exact congrArg Value.bool hc17) rfl ?_
       refine l_no rfl rfl (by exact congrArg Value.bool hc17) rfl ?_
       refine l_no rfl rfl (by exact congrArg Value.bool hc17) rfl ?_
       refine l_no rfl rfl (by exact congrArg Value.bool hc17) rfl ?_
       refine l_no rfl rfl (by exact congrArg Value.bool hc17) rfl ?_
       refine l_op (o_val (r_pick (b := true) (congrArg Value.bool hc17)) ?_)
       refine l_op (o_val (r_mv) ?_)
       refine l_no rfl rfl rfl rfl ?_
       refine l_no rfl rfl rfl rfl ?_
       refine l_no rfl rfl rfl rfl ?_
       refine l_op (o_val (r_pick rfl) ?_)
       first | refine l_end ?_ | refine l_nil ?_
       repeat refine c_seq ?_
       refine c_yes rfl ?_
       repeat refine c_seq ?_
       refine c_region ?_
       refine l_op (o_val (r_bld' (cells := ([V64 (0 : UInt64), .string ⟨(([] : List UInt8)).toArray⟩, V8 (0 : UInt8), VI 0, VI 0, .slice none 0 0] ++ (List.replicate 32 (0 : UInt8)).map V8).toArray) (pv := []) bd76 rfl rfl) ?_)
       refine l_op (o_stW (C' := [V64 (0 : UInt64), .string ⟨(([] : List UInt8)).toArray⟩, V8 (0 : UInt8), VI 0, VI 0, .slice none 0 0] ++ (List.replicate 32 (0 : UInt8)).map V8) H (i := 0) rfl rfl rfl cs76 (by simp [Value.oneCell']) (by rw [List.length_append, List.length_map, (show (List.replicate 32 (0 : UInt8)).length = 32 from (List.length_replicate ..))]; rfl) (by rw [List.length_append, List.length_map, (show (List.replicate 32 (0 : UInt8)).length = 32 from (List.length_replicate ..))]; rfl) (fun w H => ?_))
       replace H : Hp _ w _ [_, _, _, _] := H
       refine l_op (o_val (r_as) ?_)
       first | refine l_end ?_ | refine l_nil ?_
       refine c_ret ?_
       try dsimp only [Exit.then, Exit.inBlock]
       refine e_retN (vs := [.agg ([V64 (0 : UInt64), .string ⟨(([] : List UInt8)).toArray⟩, V8 (0 : UInt8), VI 0, VI 0, .slice none 0 0] ++ (List.replicate 32 (0 : UInt8)).map V8).toArray, VI 4]) _ Try.results102 rfl (H.resR (C := [V64 (0 : UInt64), .string ⟨(([] : List UInt8)).toArray⟩, V8 (0 : UInt8), VI 0, VI 0, .slice none 0 0] ++ (List.replicate 32 (0 : UInt8)).map V8) (i := 0) rfl rfl rt76 (by rw [List.length_append, List.length_map, (show (List.replicate 32 (0 : UInt8)).length = 32 from (List.length_replicate ..))]; rfl) (resT (v := VI 4) rfl (resZ))) ?_
       refine ⟨_, rfl, ?_⟩
       refine .inl ⟨?_, rfl, H.sub (List.nil_sublist _)⟩
       cases hp : parseT s.l with
       | none => rfl
       | some T =>
         exfalso
         obtain ⟨z1, z2, z3, z4, z5, z6, z7, z8, z9⟩ := hd_complete hp hhd
         have hTok := (parse_iff _ _).1 hp
         rw [n7] at z8
         rw [n8] at z9
         have hin : i = T.cs.length := by omega
         have hrc := cavRun_of T.cs T.tag hTok.2.1.c i (by omega)
         rw [hB, z1, z9, hrc] at hrun
         obtain ⟨q1, q2⟩ := Prod.mk.inj hrun
         obtain ⟨q2, q3⟩ := Prod.mk.inj q2
         have hr1 : cs = T.cs := q1.symm.trans (by rw [hin]; exact List.take_length)
         have hr2 : yy.l = T.tag := q2.symm.trans (by rw [hin, List.drop_length]; rfl)
         have hr3 : bb = false := q3.symm
         rw [hr3] at hc17; cases hc17
      ·
       refine l_yes rfl rfl (by exact congrArg Value.bool hc17) (o_val (r_mv) ?_)
       refine l_yes rfl rfl (by exact congrArg Value.bool hc17) (o_val (r_nilc rfl) ?_)
       refine l_yes rfl rfl (by exact congrArg Value.bool hc17) (o_val (r_fa rfl fo144_0) ?_)
       refine l_yes rfl rfl (by exact congrArg Value.bool hc17) (o_val (r_ld (v := yy.v) H (i := 1) rfl rfl ct29 rfl) ?_)
       refine l_yes rfl rfl (by exact congrArg Value.bool hc17) (o_val (r_lens el29 rfl) ?_)
       refine l_yes rfl rfl (by exact congrArg Value.bool hc17) (o_val (r_bin (a := (yy.len : Int)) (b := 32) rfl rfl (fun _ => b_neq)) ?_)
       refine l_op (o_val (r_pick (b := false) (congrArg Value.bool hc17)) ?_)
       refine l_op (o_val (r_mv) ?_)
       by_cases hc18 : (yy.len : Int) ≠ 32
       ·
        refine l_no rfl rfl (by exact congrArg Value.bool (decide_eq_true hc18)) rfl ?_
        refine l_no rfl rfl (by exact congrArg Value.bool (decide_eq_true hc18)) rfl ?_
        refine l_no rfl rfl (by exact congrArg Value.bool (decide_eq_true hc18)) rfl ?_
        refine l_op (o_val (r_pick (b := true) (congrArg Value.bool (decide_eq_true hc18))) ?_)
        first | refine l_end ?_ | refine l_nil ?_
        repeat refine c_seq ?_
        refine c_yes rfl ?_
        repeat refine c_seq ?_
        refine c_region ?_
        refine l_op (o_val (r_bld' (cells := ([V64 (0 : UInt64), .string ⟨(([] : List UInt8)).toArray⟩, V8 (0 : UInt8), VI 0, VI 0, .slice none 0 0] ++ (List.replicate 32 (0 : UInt8)).map V8).toArray) (pv := []) bd76 rfl rfl) ?_)
        refine l_op (o_stW (C' := [V64 (0 : UInt64), .string ⟨(([] : List UInt8)).toArray⟩, V8 (0 : UInt8), VI 0, VI 0, .slice none 0 0] ++ (List.replicate 32 (0 : UInt8)).map V8) H (i := 0) rfl rfl rfl cs76 (by simp [Value.oneCell']) (by rw [List.length_append, List.length_map, (show (List.replicate 32 (0 : UInt8)).length = 32 from (List.length_replicate ..))]; rfl) (by rw [List.length_append, List.length_map, (show (List.replicate 32 (0 : UInt8)).length = 32 from (List.length_replicate ..))]; rfl) (fun w H => ?_))
        replace H : Hp _ w _ [_, _, _, _] := H
        refine l_op (o_val (r_as) ?_)
        first | refine l_end ?_ | refine l_nil ?_
        refine c_ret ?_
        try dsimp only [Exit.then, Exit.inBlock]
        refine e_retN (vs := [.agg ([V64 (0 : UInt64), .string ⟨(([] : List UInt8)).toArray⟩, V8 (0 : UInt8), VI 0, VI 0, .slice none 0 0] ++ (List.replicate 32 (0 : UInt8)).map V8).toArray, VI 4]) _ Try.results102 rfl (H.resR (C := [V64 (0 : UInt64), .string ⟨(([] : List UInt8)).toArray⟩, V8 (0 : UInt8), VI 0, VI 0, .slice none 0 0] ++ (List.replicate 32 (0 : UInt8)).map V8) (i := 0) rfl rfl rt76 (by rw [List.length_append, List.length_map, (show (List.replicate 32 (0 : UInt8)).length = 32 from (List.length_replicate ..))]; rfl) (resT (v := VI 4) rfl (resZ))) ?_
        refine ⟨_, rfl, ?_⟩
        refine .inl ⟨?_, rfl, H.sub (List.nil_sublist _)⟩
        cases hp : parseT s.l with
        | none => rfl
        | some T =>
          exfalso
          obtain ⟨z1, z2, z3, z4, z5, z6, z7, z8, z9⟩ := hd_complete hp hhd
          have hTok := (parse_iff _ _).1 hp
          rw [n7] at z8
          rw [n8] at z9
          have hin : i = T.cs.length := by omega
          have hrc := cavRun_of T.cs T.tag hTok.2.1.c i (by omega)
          rw [hB, z1, z9, hrc] at hrun
          obtain ⟨q1, q2⟩ := Prod.mk.inj hrun
          obtain ⟨q2, q3⟩ := Prod.mk.inj q2
          have hr1 : cs = T.cs := q1.symm.trans (by rw [hin]; exact List.take_length)
          have hr2 : yy.l = T.tag := q2.symm.trans (by rw [hin, List.drop_length]; rfl)
          have hr3 : bb = false := q3.symm
          have h32 := hTok.2.1.tag
          have := hy.ln
          rw [hr2] at this
          omega
       ·
        refine l_yes rfl rfl (by exact congrArg Value.bool (decide_eq_false hc18)) (o_val (r_ldA (C := [V64 (numV 8 (s.nx 1).l), .string ⟨(t3).toArray⟩, V8 ((numV 1 (((s.nx 1).nx 8).tl k4).l).toUInt8), VI (zagU (numV 8 ((((s.nx 1).nx 8).tl k4).nx 1).l)), VI (zagU (numV 8 (((((s.nx 1).nx 8).tl k4).nx 1).nx 8).l)), .slice (hd a) i k] ++ (List.replicate 32 (0 : UInt8)).map V8) H (i := 2) rfl rfl rt76 (by rw [List.length_append, List.length_map, (show (List.replicate 32 (0 : UInt8)).length = 32 from (List.length_replicate ..))]; rfl)) ?_)
        refine l_yes rfl rfl (by exact congrArg Value.bool (decide_eq_false hc18)) (o_callR Try.func75 rfl rfl rfl (may_ret _ (⟨numV 8 (s.nx 1).l, t3, (numV 1 (((s.nx 1).nx 8).tl k4).l).toUInt8, zagU (numV 8 ((((s.nx 1).nx 8).tl k4).nx 1).l), zagU (numV 8 (((((s.nx 1).nx 8).tl k4).nx 1).nx 8).l), ⟨hd a, i, k, cs⟩, List.replicate 32 (0 : UInt8)⟩ : Tok) (H.glOwn (i := 3) rfl (by decide) (fun _ _ => rfl)) (show (List.replicate 32 (0 : UInt8)).length = 32 from (List.length_replicate ..)) (by first | omega | (dsimp only; omega) | simp)) ?_)
        rintro _ w ⟨rfl, Hc⟩
        replace H : Hp _ w _ ([_, _, _, _]) := H.call Hc
        clear Hc
        refine l_yes rfl rfl (by exact congrArg Value.bool (decide_eq_false hc18)) (o_val (r_not rfl) ?_)
        refine l_op (o_val (r_pick (b := false) (congrArg Value.bool (decide_eq_false hc18))) ?_)
        first | refine l_end ?_ | refine l_nil ?_
        rcases Bool.eq_false_or_eq_true (mayT (⟨numV 8 (s.nx 1).l, t3, (numV 1 (((s.nx 1).nx 8).tl k4).l).toUInt8, zagU (numV 8 ((((s.nx 1).nx 8).tl k4).nx 1).l), zagU (numV 8 (((((s.nx 1).nx 8).tl k4).nx 1).nx 8).l), ⟨hd a, i, k, cs⟩, List.replicate 32 (0 : UInt8)⟩ : Tok)) with hc19 | hc19
        ·
         repeat refine c_seq ?_
         refine c_no (by exact congrArg Value.bool (congrArg not hc19)) ?_
         refine c_skip ?_
         repeat refine c_seq ?_
         refine c_region ?_
         refine l_op (o_val (r_mv) ?_)
         refine l_op (o_val (r_nilc rfl) ?_)
         refine l_op (o_val (r_fa rfl fo144_0) ?_)
         refine l_op (o_val (r_ld (v := yy.v) H (i := 1) rfl rfl ct29 rfl) ?_)
         refine l_op (o_val (r_sap Try.underlying31 rfl (by (try simp only [Sl.cut]); omega)) ?_)
         have ah22 := ((hy.up H (fun _ => apart_nil _))).addr (by (try simp only [Sl.cut]); omega)
         obtain ⟨ab20, ao21, ah22⟩ := ah22
         refine l_op (o_val (r_ldSE (s := yy) (k := 32) (hy.up H (fun _ => apart_nil _)) ah22 rfl rt31 (by decide) (by omega)) ?_)
         refine l_op (o_val (r_fa rfl fo76_6) ?_)
         refine l_op (o_stT (pre := [V64 (numV 8 (s.nx 1).l), .string ⟨(t3).toArray⟩, V8 ((numV 1 (((s.nx 1).nx 8).tl k4).l).toUInt8), VI (zagU (numV 8 ((((s.nx 1).nx 8).tl k4).nx 1).l)), VI (zagU (numV 8 (((((s.nx 1).nx 8).tl k4).nx 1).nx 8).l)), .slice (hd a) i k]) (l := List.replicate 32 (0 : UInt8)) (l' := yy.l) H (i := 2) rfl rfl rfl cs31 rfl (show (List.replicate 32 (0 : UInt8)).length = 32 from (List.length_replicate ..)) (show (yy.l).length = 32 from (by omega)) (fun w H => ?_))
         replace H : Hp _ w _ ([_, _, .blk b8 ([V64 (numV 8 (s.nx 1).l), .string ⟨(t3).toArray⟩, V8 ((numV 1 (((s.nx 1).nx 8).tl k4).l).toUInt8), VI (zagU (numV 8 ((((s.nx 1).nx 8).tl k4).nx 1).l)), VI (zagU (numV 8 (((((s.nx 1).nx 8).tl k4).nx 1).nx 8).l)), .slice (hd a) i k] ++ (yy.l).map V8) 76, _]) := H
         first | refine l_end ?_ | refine l_nil ?_
         repeat refine c_seq ?_
         refine c_region ?_
         refine l_op (o_val (r_ldA (C := [V64 (numV 8 (s.nx 1).l), .string ⟨(t3).toArray⟩, V8 ((numV 1 (((s.nx 1).nx 8).tl k4).l).toUInt8), VI (zagU (numV 8 ((((s.nx 1).nx 8).tl k4).nx 1).l)), VI (zagU (numV 8 (((((s.nx 1).nx 8).tl k4).nx 1).nx 8).l)), .slice (hd a) i k] ++ (yy.l).map V8) H (i := 2) rfl rfl rt76 (by rw [List.length_append, List.length_map, (show (yy.l).length = 32 from (by omega))]; rfl)) ?_)
         refine l_op (o_stW (C' := [V64 (numV 8 (s.nx 1).l), .string ⟨(t3).toArray⟩, V8 ((numV 1 (((s.nx 1).nx 8).tl k4).l).toUInt8), VI (zagU (numV 8 ((((s.nx 1).nx 8).tl k4).nx 1).l)), VI (zagU (numV 8 (((((s.nx 1).nx 8).tl k4).nx 1).nx 8).l)), .slice (hd a) i k] ++ (yy.l).map V8) H (i := 0) rfl rfl rfl cs76 (by simp [Value.oneCell']) (by rw [List.length_append, List.length_map, (show (List.replicate 32 (0 : UInt8)).length = 32 from (List.length_replicate ..))]; rfl) (by rw [List.length_append, List.length_map, (show (yy.l).length = 32 from (by omega))]; rfl) (fun w H => ?_))
         replace H : Hp _ w _ ([.blk b1 ([V64 (numV 8 (s.nx 1).l), .string ⟨(t3).toArray⟩, V8 ((numV 1 (((s.nx 1).nx 8).tl k4).l).toUInt8), VI (zagU (numV 8 ((((s.nx 1).nx 8).tl k4).nx 1).l)), VI (zagU (numV 8 (((((s.nx 1).nx 8).tl k4).nx 1).nx 8).l)), .slice (hd a) i k] ++ (yy.l).map V8) 76, _, _, _]) := H
         refine l_op (o_val (r_as) ?_)
         first | refine l_end ?_ | refine l_nil ?_
         refine c_ret ?_
         try dsimp only [Exit.then, Exit.inBlock]
         refine e_retN (vs := [.agg ([V64 (numV 8 (s.nx 1).l), .string ⟨(t3).toArray⟩, V8 ((numV 1 (((s.nx 1).nx 8).tl k4).l).toUInt8), VI (zagU (numV 8 ((((s.nx 1).nx 8).tl k4).nx 1).l)), VI (zagU (numV 8 (((((s.nx 1).nx 8).tl k4).nx 1).nx 8).l)), .slice (hd a) i k] ++ (yy.l).map V8).toArray, VI 0]) _ Try.results102 rfl (H.resR (C := [V64 (numV 8 (s.nx 1).l), .string ⟨(t3).toArray⟩, V8 ((numV 1 (((s.nx 1).nx 8).tl k4).l).toUInt8), VI (zagU (numV 8 ((((s.nx 1).nx 8).tl k4).nx 1).l)), VI (zagU (numV 8 (((((s.nx 1).nx 8).tl k4).nx 1).nx 8).l)), .slice (hd a) i k] ++ (yy.l).map V8) (i := 0) rfl rfl rt76 (by rw [List.length_append, List.length_map, (show (yy.l).length = 32 from (by omega))]; rfl) (resT (v := VI 0) rfl (resZ))) ?_
         refine ⟨_, rfl, ?_⟩
         refine .inr ?_
         have hin : (numV 1 ((((((s.nx 1).nx 8).tl k4).nx 1).nx 8).nx 8).l).toNat = i := by omega
         rw [hB] at hrun
         have hp := take_sound (k := i) hhd (by omega) (by rw [n7]; exact hin) (by rw [n8, hrun]; exact hc17) (by rw [n8, hrun]; have := hy.ln; show yy.l.length = 32; omega) (by
           rw [n8, hrun]
           have hmm := hc19
           rw [mayT_tv _ hgl] at hmm
           simp only [nx_l] at hmm ⊢
           exact hmm)
         rw [n8, hrun] at hp
         have hp2 : parseT s.l = some ⟨numV 8 (s.nx 1).l, t3, (numV 1 (((s.nx 1).nx 8).tl k4).l).toUInt8, zagU (numV 8 ((((s.nx 1).nx 8).tl k4).nx 1).l), zagU (numV 8 (((((s.nx 1).nx 8).tl k4).nx 1).nx 8).l), cs, yy.l⟩ := by rw [hp]; simp only [nx_l]
         refine ⟨_, a, k, hp2, ?_, ?_⟩
         · simp only [hgl]
         · simp only [hgl]; exact H.sub (.cons _ (.cons _ (.cons _ (.cons_cons _ (List.nil_sublist _)))))
        ·
         repeat refine c_seq ?_
         refine c_yes (by exact congrArg Value.bool (congrArg not hc19)) ?_
         repeat refine c_seq ?_
         refine c_region ?_
         refine l_op (o_val (r_bld' (cells := ([V64 (0 : UInt64), .string ⟨(([] : List UInt8)).toArray⟩, V8 (0 : UInt8), VI 0, VI 0, .slice none 0 0] ++ (List.replicate 32 (0 : UInt8)).map V8).toArray) (pv := []) bd76 rfl rfl) ?_)
         refine l_op (o_stW (C' := [V64 (0 : UInt64), .string ⟨(([] : List UInt8)).toArray⟩, V8 (0 : UInt8), VI 0, VI 0, .slice none 0 0] ++ (List.replicate 32 (0 : UInt8)).map V8) H (i := 0) rfl rfl rfl cs76 (by simp [Value.oneCell']) (by rw [List.length_append, List.length_map, (show (List.replicate 32 (0 : UInt8)).length = 32 from (List.length_replicate ..))]; rfl) (by rw [List.length_append, List.length_map, (show (List.replicate 32 (0 : UInt8)).length = 32 from (List.length_replicate ..))]; rfl) (fun w H => ?_))
         replace H : Hp _ w _ [_, _, _, _] := H
         refine l_op (o_val (r_as) ?_)
         first | refine l_end ?_ | refine l_nil ?_
         refine c_ret ?_
         try dsimp only [Exit.then, Exit.inBlock]
         refine e_retN (vs := [.agg ([V64 (0 : UInt64), .string ⟨(([] : List UInt8)).toArray⟩, V8 (0 : UInt8), VI 0, VI 0, .slice none 0 0] ++ (List.replicate 32 (0 : UInt8)).map V8).toArray, VI 4]) _ Try.results102 rfl (H.resR (C := [V64 (0 : UInt64), .string ⟨(([] : List UInt8)).toArray⟩, V8 (0 : UInt8), VI 0, VI 0, .slice none 0 0] ++ (List.replicate 32 (0 : UInt8)).map V8) (i := 0) rfl rfl rt76 (by rw [List.length_append, List.length_map, (show (List.replicate 32 (0 : UInt8)).length = 32 from (List.length_replicate ..))]; rfl) (resT (v := VI 4) rfl (resZ))) ?_
         refine ⟨_, rfl, ?_⟩
         refine .inl ⟨?_, rfl, H.sub (List.nil_sublist _)⟩
         cases hp : parseT s.l with
         | none => rfl
         | some T =>
           exfalso
           obtain ⟨z1, z2, z3, z4, z5, z6, z7, z8, z9⟩ := hd_complete hp hhd
           have hTok := (parse_iff _ _).1 hp
           rw [n7] at z8
           rw [n8] at z9
           have hin : i = T.cs.length := by omega
           have hrc := cavRun_of T.cs T.tag hTok.2.1.c i (by omega)
           rw [hB, z1, z9, hrc] at hrun
           obtain ⟨q1, q2⟩ := Prod.mk.inj hrun
           obtain ⟨q2, q3⟩ := Prod.mk.inj q2
           have hr1 : cs = T.cs := q1.symm.trans (by rw [hin]; exact List.take_length)
           have hr2 : yy.l = T.tag := q2.symm.trans (by rw [hin, List.drop_length]; rfl)
           have hr3 : bb = false := q3.symm
           have hmm := may_tagless T ⟨hd a, i, k, cs⟩ hTok.1 hr1 hgl (List.replicate 32 (0 : UInt8))
           rw [← z3, ← z4, ← z5, ← z6, ← z7] at hmm
           simp only [nx_l] at hmm hc19
           rw [hmm] at hc19; cases hc19
end Go.Proofs.Ytjmbbhnpfmblpaa
namespace Go.Proofs.Ytjmbbhnpfmblpaa
open Go
set_option maxRecDepth 100000
/-- a twin: where it stands. -/
def Sl.at (t : Sl) : Prop := ∃ b, t.a = some ⟨b, 0, none⟩ ∧ t.l.length = t.len ∧ t.cap = t.len + 3 ∧ t.len ≤ 1048576
end Go.Proofs.Ytjmbbhnpfmblpaa
namespace Go.Proofs.Ytjmbbhnpfmblpaa
open Go
set_option maxRecDepth 100000
theorem checkT_own (key : List UInt8) (t : Tok) (now : Int) (hm : mayT t = true) (ht : onF (hmac key (framed [t.head])) t.cs.l = t.tag) : checkT key t now = if now < t.from_ ∨ (effF t.rights t.until_ t.cs.l).2 ≤ now then 14 else 0 := by
  rw [checkT, if_neg (by rw [hm]; decide), if_neg (not_not_intro ht)]
theorem checkT_iff (key : List UInt8) (t : Tok) (now : Int) (hm : mayT t = true) (ht : onF (hmac key (framed [t.head])) t.cs.l = t.tag) : (checkT key t now = 0 ∨ checkT key t now = 14) ∧ (checkT key t now = 0 ↔ t.from_ ≤ now ∧ now < (effF t.rights t.until_ t.cs.l).2) := by
  rw [checkT_own key t now hm ht]
  by_cases h : now < t.from_ ∨ (effF t.rights t.until_ t.cs.l).2 ≤ now
  · rw [if_pos h]; exact ⟨.inr rfl, by constructor <;> intro h2 <;> omega⟩
  · rw [if_neg h]; exact ⟨.inl rfl, by constructor <;> intro h2 <;> omega⟩
theorem begun14_ret (w0 : World) :
    Ret Try.prog 65 [] w0 fun v w' => v = .bool true ∧ Hp w0 w' [] [] := by
  refine ret_mk Try.func65 rfl Try.ntmps65 (by simp) ?_
  have H := Hp.refl w0 []
  repeat refine c_seq ?_
  refine c_region ?_
  refine l_op (o_val (r_as) ?_)
  first | refine l_end ?_ | refine l_nil ?_
  repeat refine c_seq ?_
  refine c_region ?_
  refine l_op (o_val (r_bld' (cells := ((((1 : UInt8) :: List.replicate 31 (0 : UInt8))).map V8).toArray) (pv := [(0, V8 (1 : UInt8))]) bd31 rfl rfl) ?_)
  refine l_op (o_alloc H zc31 (fun b1 w H hb1 => ?_))
  replace H : Hp _ w _ ([.blk b1 ((List.replicate 32 (0 : UInt8)).map V8) 31]) := H
  refine l_op (o_stA (l' := ((1 : UInt8) :: List.replicate 31 (0 : UInt8))) H (i := 0) rfl rfl rfl cs31 (show (List.replicate 32 (0 : UInt8)).length = 32 from (List.length_replicate ..)) (show (((1 : UInt8) :: List.replicate 31 (0 : UInt8))).length = 32 from rfl) (fun w H => ?_))
  replace H : Hp _ w _ ([.blk b1 ((((1 : UInt8) :: List.replicate 31 (0 : UInt8))).map V8) 31]) := H
  first | refine l_end ?_ | refine l_nil ?_
  repeat refine c_seq ?_
  refine c_region ?_
  refine l_op (o_val (r_ldAA (l := ((1 : UInt8) :: List.replicate 31 (0 : UInt8))) H (i := 0) rfl rfl rt31 (show (((1 : UInt8) :: List.replicate 31 (0 : UInt8))).length = 32 from rfl)) ?_)
  refine l_op (o_val (r_bld' (cells := ([V64 (1 : UInt64), .string ⟨(([] : List UInt8)).toArray⟩, V8 (7 : UInt8), VI 0, VI 9, .slice none 0 0] ++ (List.replicate 32 (0 : UInt8)).map V8).toArray) (pv := [(0, V64 (1 : UInt64)), (2, V8 (7 : UInt8)), (4, VI 9)]) bd76 rfl rfl) ?_)
  refine l_op (o_callR Try.func68 rfl rfl rfl (issue_ok _ (((1 : UInt8) :: List.replicate 31 (0 : UInt8))) (show (((1 : UInt8) :: List.replicate 31 (0 : UInt8))).length = 32 from rfl) (⟨(1 : UInt64), ([] : List UInt8), (7 : UInt8), 0, 9, ⟨none, 0, 0, []⟩, List.replicate 32 (0 : UInt8)⟩ : Tok) (Gl.ok_nil _) (show (List.replicate 32 (0 : UInt8)).length = 32 from (List.length_replicate ..)) (by first | omega | (dsimp only; omega) | simp) (by first | rfl | (simp [mayT]; decide)) rfl) ?_)
  rintro _ w ⟨rfl, Hc⟩
  replace H : Hp _ w _ ([_]) := H.call Hc
  clear Hc
  refine l_op (o_val (r_mv) ?_)
  refine l_op (o_val (r_ext rfl rfl) ?_)
  refine l_op (o_val (r_ext rfl rfl) ?_)
  refine l_op (o_alloc H zc76 (fun b2 w H hb2 => ?_))
  replace H : Hp _ w _ ([_, .blk b2 ([V64 (0 : UInt64), .string ⟨(([] : List UInt8)).toArray⟩, V8 (0 : UInt8), VI 0, VI 0, .slice none 0 0] ++ (List.replicate 32 (0 : UInt8)).map V8) 76]) := H
  refine l_op (o_stW (C' := [V64 (1 : UInt64), .string ⟨(([] : List UInt8)).toArray⟩, V8 (7 : UInt8), VI 0, VI 9, .slice none 0 0] ++ (hmac (((1 : UInt8) :: List.replicate 31 (0 : UInt8))) (framed [headB ((1 : UInt64)) (([] : List UInt8)) ((7 : UInt8)) (0) (9)])).map V8) H (i := 1) rfl rfl rfl cs76 (by simp [Value.oneCell']) (by rw [List.length_append, List.length_map, (show (List.replicate 32 (0 : UInt8)).length = 32 from (List.length_replicate ..))]; rfl) (by rw [List.length_append, List.length_map, (show (hmac (((1 : UInt8) :: List.replicate 31 (0 : UInt8))) (framed [headB ((1 : UInt64)) (([] : List UInt8)) ((7 : UInt8)) (0) (9)])).length = 32 from hmac_len _ _)]; rfl) (fun w H => ?_))
  replace H : Hp _ w _ ([_, .blk b2 ([V64 (1 : UInt64), .string ⟨(([] : List UInt8)).toArray⟩, V8 (7 : UInt8), VI 0, VI 9, .slice none 0 0] ++ (hmac (((1 : UInt8) :: List.replicate 31 (0 : UInt8))) (framed [headB ((1 : UInt64)) (([] : List UInt8)) ((7 : UInt8)) (0) (9)])).map V8) 76]) := H
  refine l_op (o_val (r_as) ?_)
  first | refine l_end ?_ | refine l_nil ?_
  repeat refine c_seq ?_
  refine c_region ?_
  refine l_op (o_val (r_ldA (C := [V64 (1 : UInt64), .string ⟨(([] : List UInt8)).toArray⟩, V8 (7 : UInt8), VI 0, VI 9, .slice none 0 0] ++ (hmac (((1 : UInt8) :: List.replicate 31 (0 : UInt8))) (framed [headB ((1 : UInt64)) (([] : List UInt8)) ((7 : UInt8)) (0) (9)])).map V8) H (i := 1) rfl rfl rt76 (by rw [List.length_append, List.length_map, (show (hmac (((1 : UInt8) :: List.replicate 31 (0 : UInt8))) (framed [headB ((1 : UInt64)) (([] : List UInt8)) ((7 : UInt8)) (0) (9)])).length = 32 from hmac_len _ _)]; rfl)) ?_)
  refine l_op (o_val (r_bld' (cells := ([V8 (1 : UInt8), VI 5]).toArray) (pv := [(0, V8 (1 : UInt8)), (1, VI 5)]) bd78 rfl rfl) ?_)
  refine l_op (o_callR Try.func70 rfl rfl rfl (less_ok _ (⟨(1 : UInt64), ([] : List UInt8), (7 : UInt8), 0, 9, ⟨none, 0, 0, []⟩, hmac (((1 : UInt8) :: List.replicate 31 (0 : UInt8))) (framed [headB ((1 : UInt64)) (([] : List UInt8)) ((7 : UInt8)) (0) (9)])⟩ : Tok) ((1 : UInt8), 5) (Gl.ok_nil _) (show (hmac (((1 : UInt8) :: List.replicate 31 (0 : UInt8))) (framed [headB ((1 : UInt64)) (([] : List UInt8)) ((7 : UInt8)) (0) (9)])).length = 32 from hmac_len _ _) (by first | omega | (dsimp only; omega) | simp) (by first | rfl | (simp [mayT]; decide)) (by rfl) (by first | omega | (dsimp only; omega) | simp)) ?_)
  rintro _ w ⟨a3, c4, rfl, Hc⟩
  replace H : Hp _ w _ ([_, _, .own a3 (0 + 1) c4 ((([] : List Cav) ++ [((1 : UInt8), 5)]).flatMap cavE) 78 2]) := H.call Hc
  clear Hc
  refine l_op (o_val (r_mv) ?_)
  refine l_op (o_val (r_ext rfl rfl) ?_)
  refine l_op (o_val (r_ext rfl rfl) ?_)
  refine l_op (o_alloc H zc76 (fun b5 w H hb5 => ?_))
  replace H : Hp _ w _ ([_, _, _, .blk b5 ([V64 (0 : UInt64), .string ⟨(([] : List UInt8)).toArray⟩, V8 (0 : UInt8), VI 0, VI 0, .slice none 0 0] ++ (List.replicate 32 (0 : UInt8)).map V8) 76]) := H
  refine l_op (o_stW (C' := [V64 (1 : UInt64), .string ⟨(([] : List UInt8)).toArray⟩, V8 (7 : UInt8), VI 0, VI 9, .slice (hd a3) (0 + 1) c4] ++ (onF (hmac (((1 : UInt8) :: List.replicate 31 (0 : UInt8))) (framed [headB ((1 : UInt64)) (([] : List UInt8)) ((7 : UInt8)) (0) (9)])) [((1 : UInt8), 5)]).map V8) H (i := 3) rfl rfl rfl cs76 (by simp [Value.oneCell']) (by rw [List.length_append, List.length_map, (show (List.replicate 32 (0 : UInt8)).length = 32 from (List.length_replicate ..))]; rfl) (by rw [List.length_append, List.length_map, (show (onF (hmac (((1 : UInt8) :: List.replicate 31 (0 : UInt8))) (framed [headB ((1 : UInt64)) (([] : List UInt8)) ((7 : UInt8)) (0) (9)])) [((1 : UInt8), 5)]).length = 32 from onF_len _ (show (hmac (((1 : UInt8) :: List.replicate 31 (0 : UInt8))) (framed [headB ((1 : UInt64)) (([] : List UInt8)) ((7 : UInt8)) (0) (9)])).length = 32 from hmac_len _ _) _)]; rfl) (fun w H => ?_))
  replace H : Hp _ w _ ([_, _, _, .blk b5 ([V64 (1 : UInt64), .string ⟨(([] : List UInt8)).toArray⟩, V8 (7 : UInt8), VI 0, VI 9, .slice (hd a3) (0 + 1) c4] ++ (onF (hmac (((1 : UInt8) :: List.replicate 31 (0 : UInt8))) (framed [headB ((1 : UInt64)) (([] : List UInt8)) ((7 : UInt8)) (0) (9)])) [((1 : UInt8), 5)]).map V8) 76]) := H
  refine l_op (o_val (r_as) ?_)
  first | refine l_end ?_ | refine l_nil ?_
  repeat refine c_seq ?_
  refine c_region ?_
  refine l_op (o_val (r_ldA (C := [V64 (1 : UInt64), .string ⟨(([] : List UInt8)).toArray⟩, V8 (7 : UInt8), VI 0, VI 9, .slice (hd a3) (0 + 1) c4] ++ (onF (hmac (((1 : UInt8) :: List.replicate 31 (0 : UInt8))) (framed [headB ((1 : UInt64)) (([] : List UInt8)) ((7 : UInt8)) (0) (9)])) [((1 : UInt8), 5)]).map V8) H (i := 3) rfl rfl rt76 (by rw [List.length_append, List.length_map, (show (onF (hmac (((1 : UInt8) :: List.replicate 31 (0 : UInt8))) (framed [headB ((1 : UInt64)) (([] : List UInt8)) ((7 : UInt8)) (0) (9)])) [((1 : UInt8), 5)]).length = 32 from onF_len _ (show (hmac (((1 : UInt8) :: List.replicate 31 (0 : UInt8))) (framed [headB ((1 : UInt64)) (([] : List UInt8)) ((7 : UInt8)) (0) (9)])).length = 32 from hmac_len _ _) _)]; rfl)) ?_)
  refine l_op (o_callR Try.func72 rfl rfl rfl (effect_ret _ (⟨(1 : UInt64), ([] : List UInt8), (7 : UInt8), 0, 9, ⟨hd a3, 0 + 1, c4, ([] : List Cav) ++ [((1 : UInt8), 5)]⟩, onF (hmac (((1 : UInt8) :: List.replicate 31 (0 : UInt8))) (framed [headB ((1 : UInt64)) (([] : List UInt8)) ((7 : UInt8)) (0) (9)])) [((1 : UInt8), 5)]⟩ : Tok) (H.glOwn (i := 2) rfl (by decide) (fun _ _ => rfl)) (show (onF (hmac (((1 : UInt8) :: List.replicate 31 (0 : UInt8))) (framed [headB ((1 : UInt64)) (([] : List UInt8)) ((7 : UInt8)) (0) (9)])) [((1 : UInt8), 5)]).length = 32 from onF_len _ (show (hmac (((1 : UInt8) :: List.replicate 31 (0 : UInt8))) (framed [headB ((1 : UInt64)) (([] : List UInt8)) ((7 : UInt8)) (0) (9)])).length = 32 from hmac_len _ _) _)) ?_)
  rintro _ w ⟨rfl, Hc⟩
  replace H : Hp _ w _ ([_, _, _, _]) := H.call Hc
  clear Hc
  refine l_op (o_val (r_mv) ?_)
  refine l_op (o_val (r_ext rfl rfl) ?_)
  refine l_op (o_val (r_ext rfl rfl) ?_)
  refine l_op (o_val (r_as) ?_)
  refine l_op (o_val (r_as) ?_)
  first | refine l_end ?_ | refine l_nil ?_
  have c1 : ∀ n, (checkT (((1 : UInt8) :: List.replicate 31 (0 : UInt8))) (⟨(1 : UInt64), ([] : List UInt8), (7 : UInt8), 0, 9, ⟨none, 0, 0, []⟩, hmac (((1 : UInt8) :: List.replicate 31 (0 : UInt8))) (framed [headB ((1 : UInt64)) (([] : List UInt8)) ((7 : UInt8)) (0) (9)])⟩ : Tok) n = 0 ∨ checkT (((1 : UInt8) :: List.replicate 31 (0 : UInt8))) (⟨(1 : UInt64), ([] : List UInt8), (7 : UInt8), 0, 9, ⟨none, 0, 0, []⟩, hmac (((1 : UInt8) :: List.replicate 31 (0 : UInt8))) (framed [headB ((1 : UInt64)) (([] : List UInt8)) ((7 : UInt8)) (0) (9)])⟩ : Tok) n = 14) ∧ (checkT (((1 : UInt8) :: List.replicate 31 (0 : UInt8))) (⟨(1 : UInt64), ([] : List UInt8), (7 : UInt8), 0, 9, ⟨none, 0, 0, []⟩, hmac (((1 : UInt8) :: List.replicate 31 (0 : UInt8))) (framed [headB ((1 : UInt64)) (([] : List UInt8)) ((7 : UInt8)) (0) (9)])⟩ : Tok) n = 0 ↔ 0 ≤ n ∧ n < 9) := fun n => checkT_iff (((1 : UInt8) :: List.replicate 31 (0 : UInt8))) (⟨(1 : UInt64), ([] : List UInt8), (7 : UInt8), 0, 9, ⟨none, 0, 0, []⟩, hmac (((1 : UInt8) :: List.replicate 31 (0 : UInt8))) (framed [headB ((1 : UInt64)) (([] : List UInt8)) ((7 : UInt8)) (0) (9)])⟩ : Tok) n (by rfl) (by rfl)
  have c2 : ∀ n, (checkT (((1 : UInt8) :: List.replicate 31 (0 : UInt8))) (⟨(1 : UInt64), ([] : List UInt8), (7 : UInt8), 0, 9, ⟨hd a3, 0 + 1, c4, ([] : List Cav) ++ [((1 : UInt8), 5)]⟩, onF (hmac (((1 : UInt8) :: List.replicate 31 (0 : UInt8))) (framed [headB ((1 : UInt64)) (([] : List UInt8)) ((7 : UInt8)) (0) (9)])) [((1 : UInt8), 5)]⟩ : Tok) n = 0 ∨ checkT (((1 : UInt8) :: List.replicate 31 (0 : UInt8))) (⟨(1 : UInt64), ([] : List UInt8), (7 : UInt8), 0, 9, ⟨hd a3, 0 + 1, c4, ([] : List Cav) ++ [((1 : UInt8), 5)]⟩, onF (hmac (((1 : UInt8) :: List.replicate 31 (0 : UInt8))) (framed [headB ((1 : UInt64)) (([] : List UInt8)) ((7 : UInt8)) (0) (9)])) [((1 : UInt8), 5)]⟩ : Tok) n = 14) ∧ (checkT (((1 : UInt8) :: List.replicate 31 (0 : UInt8))) (⟨(1 : UInt64), ([] : List UInt8), (7 : UInt8), 0, 9, ⟨hd a3, 0 + 1, c4, ([] : List Cav) ++ [((1 : UInt8), 5)]⟩, onF (hmac (((1 : UInt8) :: List.replicate 31 (0 : UInt8))) (framed [headB ((1 : UInt64)) (([] : List UInt8)) ((7 : UInt8)) (0) (9)])) [((1 : UInt8), 5)]⟩ : Tok) n = 0 ↔ 0 ≤ n ∧ n < 5) := fun n => checkT_iff (((1 : UInt8) :: List.replicate 31 (0 : UInt8))) (⟨(1 : UInt64), ([] : List UInt8), (7 : UInt8), 0, 9, ⟨hd a3, 0 + 1, c4, ([] : List Cav) ++ [((1 : UInt8), 5)]⟩, onF (hmac (((1 : UInt8) :: List.replicate 31 (0 : UInt8))) (framed [headB ((1 : UInt64)) (([] : List UInt8)) ((7 : UInt8)) (0) (9)])) [((1 : UInt8), 5)]⟩ : Tok) n (by first | rfl | (simp [mayT]; decide)) (by rfl)
  repeat refine c_seq ?_
  refine c_region ?_
  refine l_op (o_val (r_mv) ?_)
  refine l_op (o_val (r_bin (a := 0) (b := 0) rfl rfl (fun _ => b_eqlB true (decide_eq_true (by decide)))) ?_)
  refine l_op (o_val (r_mv) ?_)
  refine l_yes rfl rfl rfl (o_val (r_mv) ?_)
  refine l_yes rfl rfl rfl (o_val (r_bin (a := 0) (b := 0) rfl rfl (fun _ => b_eqlB true (decide_eq_true (by decide)))) ?_)
  refine l_op (o_val (r_pick rfl) ?_)
  refine l_op (o_val (r_mv) ?_)
  refine l_yes rfl rfl rfl (o_val (r_ldAA (l := ((1 : UInt8) :: List.replicate 31 (0 : UInt8))) H (i := 0) rfl rfl rt31 (show (((1 : UInt8) :: List.replicate 31 (0 : UInt8))).length = 32 from rfl)) ?_)
  refine l_yes rfl rfl rfl (o_val (r_ldA (C := [V64 (1 : UInt64), .string ⟨(([] : List UInt8)).toArray⟩, V8 (7 : UInt8), VI 0, VI 9, .slice none 0 0] ++ (hmac (((1 : UInt8) :: List.replicate 31 (0 : UInt8))) (framed [headB ((1 : UInt64)) (([] : List UInt8)) ((7 : UInt8)) (0) (9)])).map V8) H (i := 1) rfl rfl rt76 (by rw [List.length_append, List.length_map, (show (hmac (((1 : UInt8) :: List.replicate 31 (0 : UInt8))) (framed [headB ((1 : UInt64)) (([] : List UInt8)) ((7 : UInt8)) (0) (9)])).length = 32 from hmac_len _ _)]; rfl)) ?_)
  refine l_yes rfl rfl rfl (o_callR Try.func77 rfl rfl rfl (check14_ret _ (((1 : UInt8) :: List.replicate 31 (0 : UInt8))) (show (((1 : UInt8) :: List.replicate 31 (0 : UInt8))).length = 32 from rfl) (⟨(1 : UInt64), ([] : List UInt8), (7 : UInt8), 0, 9, ⟨none, 0, 0, []⟩, hmac (((1 : UInt8) :: List.replicate 31 (0 : UInt8))) (framed [headB ((1 : UInt64)) (([] : List UInt8)) ((7 : UInt8)) (0) (9)])⟩ : Tok) (Gl.ok_nil _) (show (hmac (((1 : UInt8) :: List.replicate 31 (0 : UInt8))) (framed [headB ((1 : UInt64)) (([] : List UInt8)) ((7 : UInt8)) (0) (9)])).length = 32 from hmac_len _ _) (by first | omega | (dsimp only; omega) | simp) (8)) ?_)
  rintro _ w ⟨rfl, Hc⟩
  replace H : Hp _ w _ ([_, _, _, _]) := H.call Hc
  clear Hc
  refine l_yes rfl rfl rfl (o_val (r_bin (a := checkT (((1 : UInt8) :: List.replicate 31 (0 : UInt8))) (⟨(1 : UInt64), ([] : List UInt8), (7 : UInt8), 0, 9, ⟨none, 0, 0, []⟩, hmac (((1 : UInt8) :: List.replicate 31 (0 : UInt8))) (framed [headB ((1 : UInt64)) (([] : List UInt8)) ((7 : UInt8)) (0) (9)])⟩ : Tok) (8)) (b := 0) rfl rfl (fun _ => b_eqlB true (decide_eq_true (by have := c1 8; omega)))) ?_)
  refine l_op (o_val (r_pick rfl) ?_)
  refine l_op (o_val (r_mv) ?_)
  refine l_yes rfl rfl rfl (o_val (r_ldAA (l := ((1 : UInt8) :: List.replicate 31 (0 : UInt8))) H (i := 0) rfl rfl rt31 (show (((1 : UInt8) :: List.replicate 31 (0 : UInt8))).length = 32 from rfl)) ?_)
  refine l_yes rfl rfl rfl (o_val (r_ldA (C := [V64 (1 : UInt64), .string ⟨(([] : List UInt8)).toArray⟩, V8 (7 : UInt8), VI 0, VI 9, .slice none 0 0] ++ (hmac (((1 : UInt8) :: List.replicate 31 (0 : UInt8))) (framed [headB ((1 : UInt64)) (([] : List UInt8)) ((7 : UInt8)) (0) (9)])).map V8) H (i := 1) rfl rfl rt76 (by rw [List.length_append, List.length_map, (show (hmac (((1 : UInt8) :: List.replicate 31 (0 : UInt8))) (framed [headB ((1 : UInt64)) (([] : List UInt8)) ((7 : UInt8)) (0) (9)])).length = 32 from hmac_len _ _)]; rfl)) ?_)
  refine l_yes rfl rfl rfl (o_callR Try.func77 rfl rfl rfl (check14_ret _ (((1 : UInt8) :: List.replicate 31 (0 : UInt8))) (show (((1 : UInt8) :: List.replicate 31 (0 : UInt8))).length = 32 from rfl) (⟨(1 : UInt64), ([] : List UInt8), (7 : UInt8), 0, 9, ⟨none, 0, 0, []⟩, hmac (((1 : UInt8) :: List.replicate 31 (0 : UInt8))) (framed [headB ((1 : UInt64)) (([] : List UInt8)) ((7 : UInt8)) (0) (9)])⟩ : Tok) (Gl.ok_nil _) (show (hmac (((1 : UInt8) :: List.replicate 31 (0 : UInt8))) (framed [headB ((1 : UInt64)) (([] : List UInt8)) ((7 : UInt8)) (0) (9)])).length = 32 from hmac_len _ _) (by first | omega | (dsimp only; omega) | simp) (9)) ?_)
  rintro _ w ⟨rfl, Hc⟩
  replace H : Hp _ w _ ([_, _, _, _]) := H.call Hc
  clear Hc
  refine l_yes rfl rfl rfl (o_val (r_bin (a := checkT (((1 : UInt8) :: List.replicate 31 (0 : UInt8))) (⟨(1 : UInt64), ([] : List UInt8), (7 : UInt8), 0, 9, ⟨none, 0, 0, []⟩, hmac (((1 : UInt8) :: List.replicate 31 (0 : UInt8))) (framed [headB ((1 : UInt64)) (([] : List UInt8)) ((7 : UInt8)) (0) (9)])⟩ : Tok) (9)) (b := 14) rfl rfl (fun _ => b_eqlB true (decide_eq_true (by have := c1 9; omega)))) ?_)
  refine l_op (o_val (r_pick rfl) ?_)
  refine l_op (o_val (r_mv) ?_)
  refine l_yes rfl rfl rfl (o_val (r_ldAA (l := ((1 : UInt8) :: List.replicate 31 (0 : UInt8))) H (i := 0) rfl rfl rt31 (show (((1 : UInt8) :: List.replicate 31 (0 : UInt8))).length = 32 from rfl)) ?_)
  refine l_yes rfl rfl rfl (o_val (r_ldA (C := [V64 (1 : UInt64), .string ⟨(([] : List UInt8)).toArray⟩, V8 (7 : UInt8), VI 0, VI 9, .slice (hd a3) (0 + 1) c4] ++ (onF (hmac (((1 : UInt8) :: List.replicate 31 (0 : UInt8))) (framed [headB ((1 : UInt64)) (([] : List UInt8)) ((7 : UInt8)) (0) (9)])) [((1 : UInt8), 5)]).map V8) H (i := 3) rfl rfl rt76 (by rw [List.length_append, List.length_map, (show (onF (hmac (((1 : UInt8) :: List.replicate 31 (0 : UInt8))) (framed [headB ((1 : UInt64)) (([] : List UInt8)) ((7 : UInt8)) (0) (9)])) [((1 : UInt8), 5)]).length = 32 from onF_len _ (show (hmac (((1 : UInt8) :: List.replicate 31 (0 : UInt8))) (framed [headB ((1 : UInt64)) (([] : List UInt8)) ((7 : UInt8)) (0) (9)])).length = 32 from hmac_len _ _) _)]; rfl)) ?_)
  refine l_yes rfl rfl rfl (o_callR Try.func77 rfl rfl rfl (check14_ret _ (((1 : UInt8) :: List.replicate 31 (0 : UInt8))) (show (((1 : UInt8) :: List.replicate 31 (0 : UInt8))).length = 32 from rfl) (⟨(1 : UInt64), ([] : List UInt8), (7 : UInt8), 0, 9, ⟨hd a3, 0 + 1, c4, ([] : List Cav) ++ [((1 : UInt8), 5)]⟩, onF (hmac (((1 : UInt8) :: List.replicate 31 (0 : UInt8))) (framed [headB ((1 : UInt64)) (([] : List UInt8)) ((7 : UInt8)) (0) (9)])) [((1 : UInt8), 5)]⟩ : Tok) (H.glOwn (i := 2) rfl (by decide) (fun _ _ => rfl)) (show (onF (hmac (((1 : UInt8) :: List.replicate 31 (0 : UInt8))) (framed [headB ((1 : UInt64)) (([] : List UInt8)) ((7 : UInt8)) (0) (9)])) [((1 : UInt8), 5)]).length = 32 from onF_len _ (show (hmac (((1 : UInt8) :: List.replicate 31 (0 : UInt8))) (framed [headB ((1 : UInt64)) (([] : List UInt8)) ((7 : UInt8)) (0) (9)])).length = 32 from hmac_len _ _) _) (by first | omega | (dsimp only; omega) | simp) (6)) ?_)
  rintro _ w ⟨rfl, Hc⟩
  replace H : Hp _ w _ ([_, _, _, _]) := H.call Hc
  clear Hc
  refine l_yes rfl rfl rfl (o_val (r_bin (a := checkT (((1 : UInt8) :: List.replicate 31 (0 : UInt8))) (⟨(1 : UInt64), ([] : List UInt8), (7 : UInt8), 0, 9, ⟨hd a3, 0 + 1, c4, ([] : List Cav) ++ [((1 : UInt8), 5)]⟩, onF (hmac (((1 : UInt8) :: List.replicate 31 (0 : UInt8))) (framed [headB ((1 : UInt64)) (([] : List UInt8)) ((7 : UInt8)) (0) (9)])) [((1 : UInt8), 5)]⟩ : Tok) (6)) (b := 14) rfl rfl (fun _ => b_eqlB true (decide_eq_true (by have := c2 6; omega)))) ?_)
  refine l_op (o_val (r_pick rfl) ?_)
  refine l_op (o_val (r_mv) ?_)
  refine l_yes rfl rfl rfl (o_val (r_mv) ?_)
  refine l_yes rfl rfl rfl (o_val (r_bin (a := (((effF ((7 : UInt8)) (9) (([] : List Cav) ++ [((1 : UInt8), 5)])).1).toNat : Int)) (b := 1) rfl rfl (fun _ => b_eqlB true (decide_eq_true (by rfl)))) ?_)
  refine l_op (o_val (r_pick rfl) ?_)
  refine l_op (o_val (r_mv) ?_)
  refine l_yes rfl rfl rfl (o_val (r_mv) ?_)
  refine l_yes rfl rfl rfl (o_val (r_bin (a := (effF ((7 : UInt8)) (9) (([] : List Cav) ++ [((1 : UInt8), 5)])).2) (b := 5) rfl rfl (fun _ => b_eqlB true (decide_eq_true (by rfl)))) ?_)
  refine l_op (o_val (r_pick rfl) ?_)
  refine l_op (o_val (r_as) ?_)
  first | refine l_end ?_ | refine l_nil ?_
  refine c_ret ?_
  try dsimp only [Exit.then, Exit.inBlock]
  refine e_ret1 (v := .bool true) Try.results65 rfl ?_
  refine ⟨_, rfl, ?_⟩
  exact ⟨rfl, H.sub (List.nil_sublist _)⟩
end Go.Proofs.Ytjmbbhnpfmblpaa
namespace Go.Proofs.Ytjmbbhnpfmblpaa
open Go
set_option maxRecDepth 100000
theorem light14b_ret (w0 : World) (t : Tok) (_hc : t.cs.ok cavE 2 w0) (_htag : t.tag.length = 32) :
    Ret Try.prog 66 [.agg ([V64 t.serial, .string ⟨(t.tenant).toArray⟩, V8 t.rights, VI t.from_, VI t.until_, t.cs.v] ++ (t.tag).map V8).toArray] w0 fun v w' => v = .bool (decide (t.tenant.length ≤ 1024 ∧ t.cs.len ≤ 64)) ∧ Hp w0 w' [] [] := by
  refine ret_mk Try.func66 rfl Try.ntmps66 (by simp) ?_
  have H := Hp.refl w0 []
  repeat refine c_seq ?_
  refine c_region ?_
  refine l_op (o_box (v := .agg ([V64 t.serial, .string ⟨(t.tenant).toArray⟩, V8 t.rights, VI t.from_, VI t.until_, t.cs.v] ++ (t.tag).map V8).toArray) H rfl (fun b1 w H hb1 => ?_))
  replace H : Hp _ w _ ([.blk b1 ([V64 t.serial, .string ⟨(t.tenant).toArray⟩, V8 t.rights, VI t.from_, VI t.until_, t.cs.v] ++ (t.tag).map V8) 76]) := H
  refine l_op (o_val (r_as) ?_)
  first | refine l_end ?_ | refine l_nil ?_
  repeat refine c_seq ?_
  refine c_region ?_
  refine l_op (o_val (r_fa rfl fo76_1) ?_)
  refine l_op (o_val (r_ld (v := .string ⟨(t.tenant).toArray⟩) H (i := 0) rfl rfl ct9 rfl) ?_)
  refine l_op (o_val (r_lenstr (s := ⟨(t.tenant).toArray⟩) Try.underlying9 rfl) ?_)
  refine l_op (o_val (r_bin (a := ((t.tenant).length : Int)) (b := 1024) rfl rfl (fun _ => b_leq)) ?_)
  refine l_op (o_val (r_mv) ?_)
  by_cases hc2 : ((t.tenant).length : Int) ≤ 1024
  ·
   refine l_yes rfl rfl (by exact congrArg Value.bool (decide_eq_true hc2)) (o_val (r_fa rfl fo76_5) ?_)
   refine l_yes rfl rfl (by exact congrArg Value.bool (decide_eq_true hc2)) (o_val (r_ld (v := t.cs.v) H (i := 0) rfl rfl ct74 rfl) ?_)
   refine l_yes rfl rfl (by exact congrArg Value.bool (decide_eq_true hc2)) (o_val (r_lens el74 rfl) ?_)
   refine l_yes rfl rfl (by exact congrArg Value.bool (decide_eq_true hc2)) (o_val (r_bin (a := (t.cs.len : Int)) (b := 64) rfl rfl (fun _ => b_leq)) ?_)
   refine l_op (o_val (r_pick (b := true) (congrArg Value.bool (decide_eq_true hc2))) ?_)
   refine l_op (o_val (r_as) ?_)
   first | refine l_end ?_ | refine l_nil ?_
   refine c_ret ?_
   try dsimp only [Exit.then, Exit.inBlock]
   refine e_ret1 (v := .bool (decide ((t.cs.len : Int) ≤ 64))) Try.results66 rfl ?_
   refine ⟨_, rfl, ?_⟩
   refine ⟨?_, H.sub (List.nil_sublist _)⟩
   congr 1
   rw [decide_eq_decide]
   omega
  ·
   refine l_no rfl rfl (by exact congrArg Value.bool (decide_eq_false hc2)) rfl ?_
   refine l_no rfl rfl (by exact congrArg Value.bool (decide_eq_false hc2)) rfl ?_
   refine l_no rfl rfl (by exact congrArg Value.bool (decide_eq_false hc2)) rfl ?_
   refine l_no rfl rfl (by exact congrArg Value.bool (decide_eq_false hc2)) rfl ?_
   refine l_op (o_val (r_pick (b := false) (congrArg Value.bool (decide_eq_false hc2))) ?_)
   refine l_op (o_val (r_as) ?_)
   first | refine l_end ?_ | refine l_nil ?_
   refine c_ret ?_
   try dsimp only [Exit.then, Exit.inBlock]
   refine e_ret1 (v := .bool false) Try.results66 rfl ?_
   refine ⟨_, rfl, ?_⟩
   refine ⟨?_, H.sub (List.nil_sublist _)⟩
   first | rw [decide_eq_true (by omega : t.tenant.length ≤ 1024 ∧ t.cs.len ≤ 64)] | rw [decide_eq_false (by omega : ¬ (t.tenant.length ≤ 1024 ∧ t.cs.len ≤ 64))]
end Go.Proofs.Ytjmbbhnpfmblpaa
namespace Go.Proofs.Ytjmbbhnpfmblpaa
open Go
set_option maxRecDepth 100000
theorem eqCav {w : World} (c e : Cav) : (Op.equal 78 (.agg (cavE c).toArray) (.agg (cavE e).toArray)).run Try.prog w = .ok (decide (c = e)) w := by
  refine eqS_of Try.underlying78 (by kernel_rfl) ?_
  have hb : (decide ((c.1.toNat : Int) = (e.1.toNat : Int)) && (decide (c.2 = e.2) && true)) = decide (c = e) := by
    rw [Bool.eq_iff_iff]
    simp only [Bool.and_eq_true, decide_eq_true_eq, and_true]
    constructor
    · rintro ⟨h1, h2⟩
      exact Prod.ext (UInt8.toNat_inj.1 (by omega)) h2
    · rintro rfl; exact ⟨rfl, rfl⟩
  rw [← hb]
  exact eqF_cons (by decide) (part_cell (by kernel_rfl) rfl) (part_cell (by kernel_rfl) rfl) (eqI_int (by kernel_rfl) 9998 _ _)
    (eqF_cons (by decide) (part_cell (by kernel_rfl) rfl) (part_cell (by kernel_rfl) rfl) (eqI_int (by kernel_rfl) 9998 _ _) (eqF_nil _ _ _))
theorem egCav : Try.prog.eqGuardType Try.prog.depth 78 = false := by kernel_rfl
def sameT (t u : Tok) : Bool := decide (t.tv = u.tv)
theorem tv_ext {t u : Tok} (h0 : (t.serial.toNat : Int) = u.serial.toNat) (h1 : t.tenant = u.tenant) (h2 : (t.rights.toNat : Int) = u.rights.toNat) (h3 : t.from_ = u.from_) (h4 : t.until_ = u.until_) (h6 : t.tag = u.tag) (h5 : t.cs.l = u.cs.l) : t.tv = u.tv := by
  simp only [Tok.tv, TV.mk.injEq]
  exact ⟨UInt64.toNat_inj.1 (by omega), h1, UInt8.toNat_inj.1 (by omega), h3, h4, h5, h6⟩
theorem tv_eqs {t u : Tok} (e : t.tv = u.tv) : t.serial.toNat = u.serial.toNat ∧ t.tenant = u.tenant ∧ t.rights.toNat = u.rights.toNat ∧ t.from_ = u.from_ ∧ t.until_ = u.until_ ∧ t.tag = u.tag ∧ t.cs.l = u.cs.l ∧ t.cs.l.length = u.cs.l.length := by
  simp only [Tok.tv, TV.mk.injEq] at e
  obtain ⟨h0, h1, h2, h3, h4, h5, h6⟩ := e
  exact ⟨by rw [h0], h1, by rw [h2], h3, h4, h6, h5, by rw [h5]⟩
theorem same14_ret (w0 : World) (t u : Tok) (hc : t.cs.ok cavE 2 w0) (htag : t.tag.length = 32) (hcu : u.cs.ok cavE 2 w0) (hutag : u.tag.length = 32) :
    Ret Try.prog 74 [.agg ([V64 t.serial, .string ⟨(t.tenant).toArray⟩, V8 t.rights, VI t.from_, VI t.until_, t.cs.v] ++ (t.tag).map V8).toArray, .agg ([V64 u.serial, .string ⟨(u.tenant).toArray⟩, V8 u.rights, VI u.from_, VI u.until_, u.cs.v] ++ (u.tag).map V8).toArray] w0 fun v w' => v = .bool (sameT t u) ∧ Hp w0 w' [] [] := by
  refine ret_mk Try.func74 rfl Try.ntmps74 (by simp) ?_
  have H := Hp.refl w0 []
  have hcl := hc.ln
  have hul := hcu.ln
  have hxl := hc.le
  have hxm := hc.mx
  have hmL : maxLen = 9223372036854775807 := rfl
  repeat refine c_seq ?_
  refine c_region ?_
  refine l_op (o_box (v := .agg ([V64 t.serial, .string ⟨(t.tenant).toArray⟩, V8 t.rights, VI t.from_, VI t.until_, t.cs.v] ++ (t.tag).map V8).toArray) H rfl (fun b1 w H hb1 => ?_))
  replace H : Hp _ w _ ([.blk b1 ([V64 t.serial, .string ⟨(t.tenant).toArray⟩, V8 t.rights, VI t.from_, VI t.until_, t.cs.v] ++ (t.tag).map V8) 76]) := H
  refine l_op (o_box (v := .agg ([V64 u.serial, .string ⟨(u.tenant).toArray⟩, V8 u.rights, VI u.from_, VI u.until_, u.cs.v] ++ (u.tag).map V8).toArray) H rfl (fun b2 w H hb2 => ?_))
  replace H : Hp _ w _ ([_, .blk b2 ([V64 u.serial, .string ⟨(u.tenant).toArray⟩, V8 u.rights, VI u.from_, VI u.until_, u.cs.v] ++ (u.tag).map V8) 76]) := H
  refine l_op (o_val (r_as) ?_)
  first | refine l_end ?_ | refine l_nil ?_
  repeat refine c_seq ?_
  refine c_region ?_
  refine l_op (o_val (r_fa rfl fo76_0) ?_)
  refine l_op (o_val (r_ld (v := V64 t.serial) H (i := 0) rfl rfl ct35 rfl) ?_)
  refine l_op (o_val (r_fa rfl fo76_0) ?_)
  refine l_op (o_val (r_ld (v := V64 u.serial) H (i := 1) rfl rfl ct35 rfl) ?_)
  refine l_op (o_val (r_bin (a := (t.serial.toNat : Int)) (b := (u.serial.toNat : Int)) rfl rfl (fun _ => b_neq)) ?_)
  refine l_op (o_val (r_mv) ?_)
  by_cases hc3 : (t.serial.toNat : Int) ≠ (u.serial.toNat : Int)
  ·
   refine l_no rfl rfl (by exact congrArg Value.bool (decide_eq_true hc3)) rfl ?_
   refine l_no rfl rfl (by exact congrArg Value.bool (decide_eq_true hc3)) rfl ?_
   refine l_no rfl rfl (by exact congrArg Value.bool (decide_eq_true hc3)) rfl ?_
   refine l_no rfl rfl (by exact congrArg Value.bool (decide_eq_true hc3)) rfl ?_
   refine l_no rfl rfl (by exact congrArg Value.bool (decide_eq_true hc3)) rfl ?_
   refine l_op (o_val (r_pick (b := true) (congrArg Value.bool (decide_eq_true hc3))) ?_)
   refine l_op (o_val (r_mv) ?_)
   refine l_no rfl rfl rfl rfl ?_
   refine l_no rfl rfl rfl rfl ?_
   refine l_no rfl rfl rfl rfl ?_
   refine l_no rfl rfl rfl rfl ?_
   refine l_no rfl rfl rfl rfl ?_
   refine l_op (o_val (r_pick rfl) ?_)
   refine l_op (o_val (r_mv) ?_)
   refine l_no rfl rfl rfl rfl ?_
   refine l_no rfl rfl rfl rfl ?_
   refine l_no rfl rfl rfl rfl ?_
   refine l_no rfl rfl rfl rfl ?_
   refine l_no rfl rfl rfl rfl ?_
   refine l_op (o_val (r_pick rfl) ?_)
   refine l_op (o_val (r_mv) ?_)
   refine l_no rfl rfl rfl rfl ?_
   refine l_no rfl rfl rfl rfl ?_
   refine l_no rfl rfl rfl rfl ?_
   refine l_no rfl rfl rfl rfl ?_
   refine l_no rfl rfl rfl rfl ?_
   refine l_op (o_val (r_pick rfl) ?_)
   refine l_op (o_val (r_mv) ?_)
   refine l_no rfl rfl rfl rfl ?_
   refine l_no rfl rfl rfl rfl ?_
   refine l_no rfl rfl rfl rfl ?_
   refine l_no rfl rfl rfl rfl ?_
   refine l_no rfl rfl rfl rfl ?_
   refine l_op (o_val (r_pick rfl) ?_)
   refine l_op (o_val (r_mv) ?_)
   refine l_no rfl rfl rfl rfl ?_
   refine l_no rfl rfl rfl rfl ?_
   refine l_no rfl rfl rfl rfl ?_
   refine l_no rfl rfl rfl rfl ?_
   refine l_no rfl rfl rfl rfl ?_
   refine l_no rfl rfl rfl rfl ?_
   refine l_no rfl rfl rfl rfl ?_
   refine l_op (o_val (r_pick rfl) ?_)
   first | refine l_end ?_ | refine l_nil ?_
   repeat refine c_seq ?_
   refine c_yes rfl ?_
   repeat refine c_seq ?_
   refine c_region ?_
   refine l_op (o_val (r_as) ?_)
   first | refine l_end ?_ | refine l_nil ?_
   refine c_ret ?_
   try dsimp only [Exit.then, Exit.inBlock]
   refine e_ret1 (v := .bool false) Try.results74 rfl ?_
   refine ⟨_, rfl, ?_⟩
   refine ⟨?_, H.sub (List.nil_sublist _)⟩
   have e : sameT t u = false := decide_eq_false fun e => by
     obtain ⟨e0, e1, e2, e3, e4, e5, e6, e7⟩ := tv_eqs e
     first | contradiction | omega
   rw [e]
  ·
   refine l_yes rfl rfl (by exact congrArg Value.bool (decide_eq_false hc3)) (o_val (r_fa rfl fo76_1) ?_)
   refine l_yes rfl rfl (by exact congrArg Value.bool (decide_eq_false hc3)) (o_val (r_ld (v := .string ⟨(t.tenant).toArray⟩) H (i := 0) rfl rfl ct9 rfl) ?_)
   refine l_yes rfl rfl (by exact congrArg Value.bool (decide_eq_false hc3)) (o_val (r_fa rfl fo76_1) ?_)
   refine l_yes rfl rfl (by exact congrArg Value.bool (decide_eq_false hc3)) (o_val (r_ld (v := .string ⟨(u.tenant).toArray⟩) H (i := 1) rfl rfl ct9 rfl) ?_)
   refine l_yes rfl rfl (by exact congrArg Value.bool (decide_eq_false hc3)) (o_val (r_strne (a := t.tenant) (b := u.tenant) rfl rfl) ?_)
   refine l_op (o_val (r_pick (b := false) (congrArg Value.bool (decide_eq_false hc3))) ?_)
   refine l_op (o_val (r_mv) ?_)
   by_cases hc4 : t.tenant = u.tenant
   ·
    refine l_yes rfl rfl (by exact congrArg Value.bool (congrArg not (decide_eq_true hc4))) (o_val (r_fa rfl fo76_2) ?_)
    refine l_yes rfl rfl (by exact congrArg Value.bool (congrArg not (decide_eq_true hc4))) (o_val (r_ld (v := V8 t.rights) H (i := 0) rfl rfl ct73 rfl) ?_)
    refine l_yes rfl rfl (by exact congrArg Value.bool (congrArg not (decide_eq_true hc4))) (o_val (r_fa rfl fo76_2) ?_)
    refine l_yes rfl rfl (by exact congrArg Value.bool (congrArg not (decide_eq_true hc4))) (o_val (r_ld (v := V8 u.rights) H (i := 1) rfl rfl ct73 rfl) ?_)
    refine l_yes rfl rfl (by exact congrArg Value.bool (congrArg not (decide_eq_true hc4))) (o_val (r_bin (a := (t.rights.toNat : Int)) (b := (u.rights.toNat : Int)) rfl rfl (fun _ => b_neq)) ?_)
    refine l_op (o_val (r_pick (b := false) (congrArg Value.bool (congrArg not (decide_eq_true hc4)))) ?_)
    refine l_op (o_val (r_mv) ?_)
    by_cases hc5 : (t.rights.toNat : Int) ≠ (u.rights.toNat : Int)
    ·
     refine l_no rfl rfl (by exact congrArg Value.bool (decide_eq_true hc5)) rfl ?_
     refine l_no rfl rfl (by exact congrArg Value.bool (decide_eq_true hc5)) rfl ?_
     refine l_no rfl rfl (by exact congrArg Value.bool (decide_eq_true hc5)) rfl ?_
     refine l_no rfl rfl (by exact congrArg Value.bool (decide_eq_true hc5)) rfl ?_
     refine l_no rfl rfl (by exact congrArg Value.bool (decide_eq_true hc5)) rfl ?_
     refine l_op (o_val (r_pick (b := true) (congrArg Value.bool (decide_eq_true hc5))) ?_)
     refine l_op (o_val (r_mv) ?_)
     refine l_no rfl rfl rfl rfl ?_
     refine l_no rfl rfl rfl rfl ?_
     refine l_no rfl rfl rfl rfl ?_
     refine l_no rfl rfl rfl rfl ?_
     refine l_no rfl rfl rfl rfl ?_
     refine l_op (o_val (r_pick rfl) ?_)
     refine l_op (o_val (r_mv) ?_)
     refine l_no rfl rfl rfl rfl ?_
     refine l_no rfl rfl rfl rfl ?_
     refine l_no rfl rfl rfl rfl ?_
     refine l_no rfl rfl rfl rfl ?_
     refine l_no rfl rfl rfl rfl ?_
     refine l_op (o_val (r_pick rfl) ?_)
     refine l_op (o_val (r_mv) ?_)
     refine l_no rfl rfl rfl rfl ?_
     refine l_no rfl rfl rfl rfl ?_
     refine l_no rfl rfl rfl rfl ?_
     refine l_no rfl rfl rfl rfl ?_
     refine l_no rfl rfl rfl rfl ?_
     refine l_no rfl rfl rfl rfl ?_
     refine l_no rfl rfl rfl rfl ?_
     refine l_op (o_val (r_pick rfl) ?_)
     first | refine l_end ?_ | refine l_nil ?_
     repeat refine c_seq ?_
     refine c_yes rfl ?_
     repeat refine c_seq ?_
     refine c_region ?_
     refine l_op (o_val (r_as) ?_)
     first | refine l_end ?_ | refine l_nil ?_
     refine c_ret ?_
     try dsimp only [Exit.then, Exit.inBlock]
     refine e_ret1 (v := .bool false) Try.results74 rfl ?_
     refine ⟨_, rfl, ?_⟩
     refine ⟨?_, H.sub (List.nil_sublist _)⟩
     have e : sameT t u = false := decide_eq_false fun e => by
       obtain ⟨e0, e1, e2, e3, e4, e5, e6, e7⟩ := tv_eqs e
       first | contradiction | omega
     rw [e]
    ·
     refine l_yes rfl rfl (by exact congrArg Value.bool (decide_eq_false hc5)) (o_val (r_fa rfl fo76_3) ?_)
     refine l_yes rfl rfl (by exact congrArg Value.bool (decide_eq_false hc5)) (o_val (r_ld (v := VI t.from_) H (i := 0) rfl rfl ct2 rfl) ?_)
     refine l_yes rfl rfl (by exact congrArg Value.bool (decide_eq_false hc5)) (o_val (r_fa rfl fo76_3) ?_)
     refine l_yes rfl rfl (by exact congrArg Value.bool (decide_eq_false hc5)) (o_val (r_ld (v := VI u.from_) H (i := 1) rfl rfl ct2 rfl) ?_)
     refine l_yes rfl rfl (by exact congrArg Value.bool (decide_eq_false hc5)) (o_val (r_bin (a := t.from_) (b := u.from_) rfl rfl (fun _ => b_neq)) ?_)
     refine l_op (o_val (r_pick (b := false) (congrArg Value.bool (decide_eq_false hc5))) ?_)
     refine l_op (o_val (r_mv) ?_)
     by_cases hc6 : t.from_ ≠ u.from_
     ·
      refine l_no rfl rfl (by exact congrArg Value.bool (decide_eq_true hc6)) rfl ?_
      refine l_no rfl rfl (by exact congrArg Value.bool (decide_eq_true hc6)) rfl ?_
      refine l_no rfl rfl (by exact congrArg Value.bool (decide_eq_true hc6)) rfl ?_
      refine l_no rfl rfl (by exact congrArg Value.bool (decide_eq_true hc6)) rfl ?_
      refine l_no rfl rfl (by exact congrArg Value.bool (decide_eq_true hc6)) rfl ?_
      refine l_op (o_val (r_pick (b := true) (congrArg Value.bool (decide_eq_true hc6))) ?_)
      refine l_op (o_val (r_mv) ?_)
      refine l_no rfl rfl rfl rfl ?_
      refine l_no rfl rfl rfl rfl ?_
      refine l_no rfl rfl rfl rfl ?_
      refine l_no rfl rfl rfl rfl ?_
      refine l_no rfl rfl rfl rfl ?_
      refine l_op (o_val (r_pick rfl) ?_)
      refine l_op (o_val (r_mv) ?_)
      refine l_no rfl rfl rfl rfl ?_
      refine l_no rfl rfl rfl rfl ?_
      refine l_no rfl rfl rfl rfl ?_
      refine l_no rfl rfl rfl rfl ?_
      refine l_no rfl rfl rfl rfl ?_
      refine l_no rfl rfl rfl rfl ?_
      refine l_no rfl rfl rfl rfl ?_
      refine l_op (o_val (r_pick rfl) ?_)
      first | refine l_end ?_ | refine l_nil ?_
      repeat refine c_seq ?_
      refine c_yes rfl ?_
      repeat refine c_seq ?_
      refine c_region ?_
      refine l_op (o_val (r_as) ?_)
      first | refine l_end ?_ | refine l_nil ?_
      refine c_ret ?_
      try dsimp only [Exit.then, Exit.inBlock]
      refine e_ret1 (v := .bool false) Try.results74 rfl ?_
      refine ⟨_, rfl, ?_⟩
      refine ⟨?_, H.sub (List.nil_sublist _)⟩
      have e : sameT t u = false := decide_eq_false fun e => by
        obtain ⟨e0, e1, e2, e3, e4, e5, e6, e7⟩ := tv_eqs e
        first | contradiction | omega
      rw [e]
     ·
      refine l_yes rfl rfl (by exact congrArg Value.bool (decide_eq_false hc6)) (o_val (r_fa rfl fo76_4) ?_)
      refine l_yes rfl rfl (by exact congrArg Value.bool (decide_eq_false hc6)) (o_val (r_ld (v := VI t.until_) H (i := 0) rfl rfl ct2 rfl) ?_)
      refine l_yes rfl rfl (by exact congrArg Value.bool (decide_eq_false hc6)) (o_val (r_fa rfl fo76_4) ?_)
      refine l_yes rfl rfl (by exact congrArg Value.bool (decide_eq_false hc6)) (o_val (r_ld (v := VI u.until_) H (i := 1) rfl rfl ct2 rfl) ?_)
      refine l_yes rfl rfl (by exact congrArg Value.bool (decide_eq_false hc6)) (o_val (r_bin (a := t.until_) (b := u.until_) rfl rfl (fun _ => b_neq)) ?_)
      refine l_op (o_val (r_pick (b := false) (congrArg Value.bool (decide_eq_false hc6))) ?_)
      refine l_op (o_val (r_mv) ?_)
      by_cases hc7 : t.until_ ≠ u.until_
      ·
       refine l_no rfl rfl (by exact congrArg Value.bool (decide_eq_true hc7)) rfl ?_
       refine l_no rfl rfl (by exact congrArg Value.bool (decide_eq_true hc7)) rfl ?_
       refine l_no rfl rfl (by exact congrArg Value.bool (decide_eq_true hc7)) rfl ?_
       refine l_no rfl rfl (by exact congrArg Value.bool (decide_eq_true hc7)) rfl ?_
       refine l_no rfl rfl (by exact congrArg Value.bool (decide_eq_true hc7)) rfl ?_
       refine l_op (o_val (r_pick (b := true) (congrArg Value.bool (decide_eq_true hc7))) ?_)
       refine l_op (o_val (r_mv) ?_)
       refine l_no rfl rfl rfl rfl ?_
       refine l_no rfl rfl rfl rfl ?_
       refine l_no rfl rfl rfl rfl ?_
       refine l_no rfl rfl rfl rfl ?_
       refine l_no rfl rfl rfl rfl ?_
       refine l_no rfl rfl rfl rfl ?_
       refine l_no rfl rfl rfl rfl ?_
       refine l_op (o_val (r_pick rfl) ?_)
       first | refine l_end ?_ | refine l_nil ?_
       repeat refine c_seq ?_
       refine c_yes rfl ?_
       repeat refine c_seq ?_
       refine c_region ?_
       refine l_op (o_val (r_as) ?_)
       first | refine l_end ?_ | refine l_nil ?_
       refine c_ret ?_
       try dsimp only [Exit.then, Exit.inBlock]
       refine e_ret1 (v := .bool false) Try.results74 rfl ?_
       refine ⟨_, rfl, ?_⟩
       refine ⟨?_, H.sub (List.nil_sublist _)⟩
       have e : sameT t u = false := decide_eq_false fun e => by
         obtain ⟨e0, e1, e2, e3, e4, e5, e6, e7⟩ := tv_eqs e
         first | contradiction | omega
       rw [e]
      ·
       refine l_yes rfl rfl (by exact congrArg Value.bool (decide_eq_false hc7)) (o_val (r_fa rfl fo76_6) ?_)
       refine l_yes rfl rfl (by exact congrArg Value.bool (decide_eq_false hc7)) (o_val (r_ldT (pre := [V64 t.serial, .string ⟨(t.tenant).toArray⟩, V8 t.rights, VI t.from_, VI t.until_, t.cs.v]) (l := t.tag) H (i := 0) rfl rfl rt31 rfl (show (t.tag).length = 32 from htag)) ?_)
       refine l_yes rfl rfl (by exact congrArg Value.bool (decide_eq_false hc7)) (o_val (r_fa rfl fo76_6) ?_)
       refine l_yes rfl rfl (by exact congrArg Value.bool (decide_eq_false hc7)) (o_val (r_ldT (pre := [V64 u.serial, .string ⟨(u.tenant).toArray⟩, V8 u.rights, VI u.from_, VI u.until_, u.cs.v]) (l := u.tag) H (i := 1) rfl rfl rt31 rfl (show (u.tag).length = 32 from hutag)) ?_)
       refine l_yes rfl rfl (by exact congrArg Value.bool (decide_eq_false hc7)) (o_val (r_nea (a := t.tag) (b := u.tag) Try.underlying31 Try.underlying5 cs5 rfl rfl (show (t.tag).length = 32 from htag) (show (u.tag).length = 32 from hutag)) ?_)
       refine l_op (o_val (r_pick (b := false) (congrArg Value.bool (decide_eq_false hc7))) ?_)
       refine l_op (o_val (r_mv) ?_)
       by_cases hc8 : t.tag = u.tag
       ·
        refine l_yes rfl rfl (by exact congrArg Value.bool (congrArg not (decide_eq_true hc8))) (o_val (r_fa rfl fo76_5) ?_)
        refine l_yes rfl rfl (by exact congrArg Value.bool (congrArg not (decide_eq_true hc8))) (o_val (r_ld (v := t.cs.v) H (i := 0) rfl rfl ct74 rfl) ?_)
        refine l_yes rfl rfl (by exact congrArg Value.bool (congrArg not (decide_eq_true hc8))) (o_val (r_lens el74 rfl) ?_)
        refine l_yes rfl rfl (by exact congrArg Value.bool (congrArg not (decide_eq_true hc8))) (o_val (r_fa rfl fo76_5) ?_)
        refine l_yes rfl rfl (by exact congrArg Value.bool (congrArg not (decide_eq_true hc8))) (o_val (r_ld (v := u.cs.v) H (i := 1) rfl rfl ct74 rfl) ?_)
        refine l_yes rfl rfl (by exact congrArg Value.bool (congrArg not (decide_eq_true hc8))) (o_val (r_lens el74 rfl) ?_)
        refine l_yes rfl rfl (by exact congrArg Value.bool (congrArg not (decide_eq_true hc8))) (o_val (r_bin (a := (t.cs.len : Int)) (b := (u.cs.len : Int)) rfl rfl (fun _ => b_neq)) ?_)
        refine l_op (o_val (r_pick (b := false) (congrArg Value.bool (congrArg not (decide_eq_true hc8)))) ?_)
        first | refine l_end ?_ | refine l_nil ?_
        by_cases hc9 : (t.cs.len : Int) ≠ (u.cs.len : Int)
        ·
         repeat refine c_seq ?_
         refine c_yes (by exact congrArg Value.bool (decide_eq_true hc9)) ?_
         repeat refine c_seq ?_
         refine c_region ?_
         refine l_op (o_val (r_as) ?_)
         first | refine l_end ?_ | refine l_nil ?_
         refine c_ret ?_
         try dsimp only [Exit.then, Exit.inBlock]
         refine e_ret1 (v := .bool false) Try.results74 rfl ?_
         refine ⟨_, rfl, ?_⟩
         refine ⟨?_, H.sub (List.nil_sublist _)⟩
         have e : sameT t u = false := decide_eq_false fun e => by
           obtain ⟨e0, e1, e2, e3, e4, e5, e6, e7⟩ := tv_eqs e
           first | contradiction | omega
         rw [e]
        ·
         repeat refine c_seq ?_
         refine c_no (by exact congrArg Value.bool (decide_eq_false hc9)) ?_
         refine c_skip ?_
         repeat refine c_seq ?_
         refine c_region ?_
         refine l_op (o_val (r_as) ?_)
         first | refine l_end ?_ | refine l_nil ?_
         repeat refine c_seq ?_
         refine c_block ?_
         repeat refine c_seq ?_
         refine c_loop (fun (i : Nat) => [(2, .pointer (some ⟨b1, 0, none⟩)), (3, .pointer (some ⟨b2, 0, none⟩)), (5, VI (i : Int))])
           (fun (i : Nat) w => (i ≤ t.cs.len ∧ ∀ j, j < i → t.cs.l[j]? = u.cs.l[j]?) ∧ Hp w0 w [] ([.blk b1 ([V64 t.serial, .string ⟨(t.tenant).toArray⟩, V8 t.rights, VI t.from_, VI t.until_, t.cs.v] ++ (t.tag).map V8) 76, .blk b2 ([V64 u.serial, .string ⟨(u.tenant).toArray⟩, V8 u.rights, VI u.from_, VI u.until_, u.cs.v] ++ (u.tag).map V8) 76]))
           (fun (i : Nat) => t.cs.len - i) 0 ⟨rfl, rfl, rfl, trivial⟩ ⟨⟨Nat.zero_le _, fun j hj => absurd hj (by omega)⟩, H⟩ ?_
         clear H
         rintro i τ w ⟨⟨hi, hall⟩, H⟩
         repeat refine c_seq ?_
         refine c_region ?_
         refine l_op (o_val (r_mv) ?_)
         refine l_op (o_val (r_fa rfl fo76_5) ?_)
         refine l_op (o_val (r_ld (v := t.cs.v) H (i := 0) rfl rfl ct74 rfl) ?_)
         refine l_op (o_val (r_lens el74 rfl) ?_)
         refine l_op (o_val (r_bin (a := (i : Int)) (b := (t.cs.len : Int)) rfl rfl (fun _ => b_lss)) ?_)
         first | refine l_end ?_ | refine l_nil ?_
         by_cases hc10 : (i : Int) < (t.cs.len : Int)
         ·
          repeat refine c_seq ?_
          refine c_yes (by exact congrArg Value.bool (decide_eq_true hc10)) ?_
          refine c_skip ?_
          repeat refine c_seq ?_
          refine c_block ?_
          repeat refine c_seq ?_
          refine c_still mixed (by kernel_rfl) ?_
          replace H := H.drew
          refine s_op (r_fa rfl fo76_5) ?_
          refine s_op (r_ld (v := t.cs.v) H (i := 0) rfl rfl ct74 rfl) ?_
          refine s_op (r_mv) ?_
          have ah13 := ((hc.up H)).addr (by decide) (by first | omega | (dsimp only; omega))
          obtain ⟨ab11, ao12, ah13⟩ := ah13
          refine s_op (r_isN i rfl rfl el74 ah13 (by omega) (by (try simp only [Sl.cut]); omega)) ?_
          have he15 : ∃ c, t.cs.l[i]? = some c := ⟨_, List.getElem?_eq_getElem (by have := ((hc.up H)).ln; (try dsimp only at this ⊢); omega)⟩
          obtain ⟨e14, he15⟩ := he15
          have hez16 := ((hc.up H)).sz e14 (List.mem_of_getElem? he15)
          refine s_op (r_ldRow (s := t.cs) (k := i) (hc.up H) ah13 rfl rt78 (by decide) he15) ?_
          refine s_op (r_fa rfl fo76_5) ?_
          refine s_op (r_ld (v := u.cs.v) H (i := 1) rfl rfl ct74 rfl) ?_
          refine s_op (r_mv) ?_
          have ah19 := ((hcu.up H)).addr (by decide) (by first | omega | (dsimp only; omega))
          obtain ⟨ab17, ao18, ah19⟩ := ah19
          refine s_op (r_isN i rfl rfl el74 ah19 (by omega) (by (try simp only [Sl.cut]); omega)) ?_
          have he21 : ∃ c, u.cs.l[i]? = some c := ⟨_, List.getElem?_eq_getElem (by have := ((hcu.up H)).ln; (try dsimp only at this ⊢); omega)⟩
          obtain ⟨e20, he21⟩ := he21
          have hez22 := ((hcu.up H)).sz e20 (List.mem_of_getElem? he21)
          refine s_op (r_ldRow (s := u.cs) (k := i) (hcu.up H) ah19 rfl rt78 (by decide) he21) ?_
          refine s_op (r_neS egCav rfl rfl (eqCav e14 e20)) ?_
          refine s_nil ?_
          by_cases hc23 : e14 = e20
          ·
           repeat refine c_seq ?_
           refine c_no (by exact congrArg Value.bool (congrArg not (decide_eq_true hc23))) ?_
           refine c_skip ?_
           repeat refine c_seq ?_
           refine c_region ?_
           refine l_op (o_val (r_mv) ?_)
           refine l_op (o_val (r_bin (a := (i : Int)) (b := 1) rfl rfl (fun _ => b_add (by omega) (by omega))) ?_)
           refine l_op (o_val (r_as) ?_)
           first | refine l_end ?_ | refine l_nil ?_
           refine round_end (i + 1) ?_ ?_ ?_
           · exact ⟨rfl, rfl, show VI ((i : Int) + 1) = VI ((i + 1 : Nat) : Int) from congrArg VI (by omega), trivial⟩
           · refine ⟨?_, ?_⟩
             · try dsimp only
               exact ⟨by omega, fun j hj => by
                 by_cases hji : j < i
                 · exact hall j hji
                 · have e : j = i := by omega
                   rw [e, he15, he21]
                   exact congrArg some (by first | assumption | exact Classical.not_not.1 (by assumption))⟩
             · exact H
           · show t.cs.len - (i + 1 : Nat) < t.cs.len - i; omega
          ·
           repeat refine c_seq ?_
           refine c_yes (by exact congrArg Value.bool (congrArg not (decide_eq_false hc23))) ?_
           repeat refine c_seq ?_
           refine c_region ?_
           refine l_op (o_val (r_as) ?_)
           first | refine l_end ?_ | refine l_nil ?_
           refine c_ret ?_
           try dsimp only [Exit.then, Exit.inBlock]
           refine e_ret1 (v := .bool false) Try.results74 rfl ?_
           refine ⟨_, rfl, ?_⟩
           refine ⟨?_, H.sub (List.nil_sublist _)⟩
           have e : sameT t u = false := decide_eq_false fun e => by
             obtain ⟨e0, e1, e2, e3, e4, e5, e6, e7⟩ := tv_eqs e
             first | contradiction | omega | (rw [e6, he21] at he15; have e9 := Option.some.inj he15; exact absurd e9.symm (by assumption))
           rw [e]
         ·
          repeat refine c_seq ?_
          refine c_no (by exact congrArg Value.bool (decide_eq_false hc10)) ?_
          refine c_exit ?_
          repeat refine c_seq ?_
          refine c_region ?_
          refine l_op (o_val (r_as) ?_)
          first | refine l_end ?_ | refine l_nil ?_
          refine c_ret ?_
          try dsimp only [Exit.then, Exit.inBlock]
          refine e_ret1 (v := .bool true) Try.results74 rfl ?_
          refine ⟨_, rfl, ?_⟩
          refine ⟨?_, H.sub (List.nil_sublist _)⟩
          have e : sameT t u = true := decide_eq_true (tv_ext (by omega) (by first | assumption | exact Classical.not_not.1 (by assumption)) (by omega) (by omega) (by omega) (by first | assumption | exact Classical.not_not.1 (by assumption)) (by
            apply List.ext_getElem?
            intro j
            by_cases hj : j < i
            · exact hall j hj
            · rw [List.getElem?_eq_none (by omega), List.getElem?_eq_none (by omega)]))
          rw [e]
       ·
        refine l_no rfl rfl (by exact congrArg Value.bool (congrArg not (decide_eq_false hc8))) rfl ?_
        refine l_no rfl rfl (by exact congrArg Value.bool (congrArg not (decide_eq_false hc8))) rfl ?_
        refine l_no rfl rfl (by exact congrArg Value.bool (congrArg not (decide_eq_false hc8))) rfl ?_
        refine l_no rfl rfl (by exact congrArg Value.bool (congrArg not (decide_eq_false hc8))) rfl ?_
        refine l_no rfl rfl (by exact congrArg Value.bool (congrArg not (decide_eq_false hc8))) rfl ?_
        refine l_no rfl rfl (by exact congrArg Value.bool (congrArg not (decide_eq_false hc8))) rfl ?_
        refine l_no rfl rfl (by exact congrArg Value.bool (congrArg not (decide_eq_false hc8))) rfl ?_
        refine l_op (o_val (r_pick (b := true) (congrArg Value.bool (congrArg not (decide_eq_false hc8)))) ?_)
        first | refine l_end ?_ | refine l_nil ?_
        repeat refine c_seq ?_
        refine c_yes rfl ?_
        repeat refine c_seq ?_
        refine c_region ?_
        refine l_op (o_val (r_as) ?_)
        first | refine l_end ?_ | refine l_nil ?_
        refine c_ret ?_
        try dsimp only [Exit.then, Exit.inBlock]
        refine e_ret1 (v := .bool false) Try.results74 rfl ?_
        refine ⟨_, rfl, ?_⟩
        refine ⟨?_, H.sub (List.nil_sublist _)⟩
        have e : sameT t u = false := decide_eq_false fun e => by
          obtain ⟨e0, e1, e2, e3, e4, e5, e6, e7⟩ := tv_eqs e
          first | contradiction | omega
        rw [e]
   ·
    refine l_no rfl rfl (by exact congrArg Value.bool (congrArg not (decide_eq_false hc4))) rfl ?_
    refine l_no rfl rfl (by exact congrArg Value.bool (congrArg not (decide_eq_false hc4))) rfl ?_
    refine l_no rfl rfl (by exact congrArg Value.bool (congrArg not (decide_eq_false hc4))) rfl ?_
    refine l_no rfl rfl (by exact congrArg Value.bool (congrArg not (decide_eq_false hc4))) rfl ?_
    refine l_no rfl rfl (by exact congrArg Value.bool (congrArg not (decide_eq_false hc4))) rfl ?_
    refine l_op (o_val (r_pick (b := true) (congrArg Value.bool (congrArg not (decide_eq_false hc4)))) ?_)
    refine l_op (o_val (r_mv) ?_)
    refine l_no rfl rfl rfl rfl ?_
    refine l_no rfl rfl rfl rfl ?_
    refine l_no rfl rfl rfl rfl ?_
    refine l_no rfl rfl rfl rfl ?_
    refine l_no rfl rfl rfl rfl ?_
    refine l_op (o_val (r_pick rfl) ?_)
    refine l_op (o_val (r_mv) ?_)
    refine l_no rfl rfl rfl rfl ?_
    refine l_no rfl rfl rfl rfl ?_
    refine l_no rfl rfl rfl rfl ?_
    refine l_no rfl rfl rfl rfl ?_
    refine l_no rfl rfl rfl rfl ?_
    refine l_op (o_val (r_pick rfl) ?_)
    refine l_op (o_val (r_mv) ?_)
    refine l_no rfl rfl rfl rfl ?_
    refine l_no rfl rfl rfl rfl ?_
    refine l_no rfl rfl rfl rfl ?_
    refine l_no rfl rfl rfl rfl ?_
    refine l_no rfl rfl rfl rfl ?_
    refine l_op (o_val (r_pick rfl) ?_)
    refine l_op (o_val (r_mv) ?_)
    refine l_no rfl rfl rfl rfl ?_
    refine l_no rfl rfl rfl rfl ?_
    refine l_no rfl rfl rfl rfl ?_
    refine l_no rfl rfl rfl rfl ?_
    refine l_no rfl rfl rfl rfl ?_
    refine l_no rfl rfl rfl rfl ?_
    refine l_no rfl rfl rfl rfl ?_
    refine l_op (o_val (r_pick rfl) ?_)
    first | refine l_end ?_ | refine l_nil ?_
    repeat refine c_seq ?_
    refine c_yes rfl ?_
    repeat refine c_seq ?_
    refine c_region ?_
    refine l_op (o_val (r_as) ?_)
    first | refine l_end ?_ | refine l_nil ?_
    refine c_ret ?_
    try dsimp only [Exit.then, Exit.inBlock]
    refine e_ret1 (v := .bool false) Try.results74 rfl ?_
    refine ⟨_, rfl, ?_⟩
    refine ⟨?_, H.sub (List.nil_sublist _)⟩
    have e : sameT t u = false := decide_eq_false fun e => by
      obtain ⟨e0, e1, e2, e3, e4, e5, e6, e7⟩ := tv_eqs e
      first | contradiction | omega
    rw [e]
end Go.Proofs.Ytjmbbhnpfmblpaa
namespace Go.Proofs.Ytjmbbhnpfmblpaa
open Go
set_option maxRecDepth 100000
theorem capTake_ok (w0 : World) (s : Sl) (hs : s.ok w0) (hm : s.len ≤ 1048576) (T : TV) (hp : parseT s.l = some T) : Ret Try.prog 102 [s.v] w0 fun v w' => ∃ (a : Option Nat) (k : Nat), v = .tuple #[.agg ([V64 T.serial, .string ⟨T.tenant.toArray⟩, V8 T.rights, VI T.from_, VI T.until_, .slice (hd a) T.cs.length k] ++ T.tag.map V8).toArray, VI 0] ∧ Hp w0 w' [] [.own a T.cs.length k (T.cs.flatMap cavE) 78 2] := by
  refine (capTake_ret w0 s hs hm).mono fun v w' h => ?_
  rcases h with ⟨h, _⟩ | ⟨T', a, k, h, hv, H⟩
  · rw [hp] at h; cases h
  · rw [hp] at h; cases h; exact ⟨a, k, hv, H⟩
theorem capTake_no (w0 : World) (s : Sl) (hs : s.ok w0) (hm : s.len ≤ 1048576) (hp : parseT s.l = none) : Ret Try.prog 102 [s.v] w0 fun v w' => v = .tuple #[.agg (([V64 0, .string ⟨([] : List UInt8).toArray⟩, V8 0, VI 0, VI 0, .slice none 0 0] : List Value) ++ (List.replicate 32 (0 : UInt8)).map V8).toArray, VI 4] ∧ Hp w0 w' [] [] := by
  refine (capTake_ret w0 s hs hm).mono fun v w' h => ?_
  rcases h with ⟨_, h⟩ | ⟨T', a, k, h, hv, H⟩
  · exact h
  · rw [hp] at h; cases h
theorem parse_no {l : List UInt8} (h : (parseT l).isSome = false) : parseT l = none := by
  cases hp : parseT l with
  | none => rfl
  | some T => rw [hp] at h; cases h
theorem parse_tag {l : List UInt8} {T : TV} (h : parseT l = some T) : T.tag.length = 32 := ((parse_iff l T).1 h).2.1.tag
theorem parse_tok {w0 : World} {t : Tok} (hc : t.cs.ok cavE 2 w0) (htag : t.tag.length = 32) (hb : t.bd) (hm : mayT t = true) : parseT t.bytes = some t.tv := by
  refine (parse_iff _ _).2 ⟨by rw [← mayT_tv _ hc.ln]; exact hm, ⟨hb.f, hb.u, hb.cs, htag⟩, (bytes_tv _ hc.ln).symm⟩
end Go.Proofs.Ytjmbbhnpfmblpaa
namespace Go.Proofs.Ytjmbbhnpfmblpaa
open Go
set_option maxRecDepth 100000
theorem capBack_ret (w0 : World) (t : Tok) (n : Int) (s : Sl) (hc : t.cs.ok cavE 2 w0) (htag : t.tag.length = 32) (hb : t.bd) (hs : s.ok w0) :
    Ret Try.prog 29 [.agg ([V64 t.serial, .string ⟨(t.tenant).toArray⟩, V8 t.rights, VI t.from_, VI t.until_, t.cs.v] ++ (t.tag).map V8).toArray, VI n, s.v] w0 fun v w' => v = .bool true ∧ Hp w0 w' [] [] := by
  refine ret_mk Try.func29 rfl Try.ntmps29 (by simp) ?_
  have H := Hp.refl w0 []
  have hsl := hs.ln
  have hmL : maxLen = 9223372036854775807 := rfl
  repeat refine c_seq ?_
  refine c_region ?_
  refine l_op (o_box (v := .agg ([V64 t.serial, .string ⟨(t.tenant).toArray⟩, V8 t.rights, VI t.from_, VI t.until_, t.cs.v] ++ (t.tag).map V8).toArray) H rfl (fun b1 w H hb1 => ?_))
  replace H : Hp _ w _ ([.blk b1 ([V64 t.serial, .string ⟨(t.tenant).toArray⟩, V8 t.rights, VI t.from_, VI t.until_, t.cs.v] ++ (t.tag).map V8) 76]) := H
  refine l_op (o_val (r_as) ?_)
  first | refine l_end ?_ | refine l_nil ?_
  repeat refine c_seq ?_
  refine c_region ?_
  refine l_op (o_callR Try.func65 rfl rfl rfl (begun14_ret _) ?_)
  rintro _ w ⟨rfl, Hc⟩
  replace H : Hp _ w _ ([_]) := H.call Hc
  clear Hc
  refine l_op (o_val (r_not rfl) ?_)
  first | refine l_end ?_ | refine l_nil ?_
  repeat refine c_seq ?_
  refine c_no rfl ?_
  refine c_skip ?_
  repeat refine c_seq ?_
  refine c_region ?_
  refine l_op (o_val (r_ldA (C := [V64 t.serial, .string ⟨(t.tenant).toArray⟩, V8 t.rights, VI t.from_, VI t.until_, t.cs.v] ++ (t.tag).map V8) H (i := 0) rfl rfl rt76 (by rw [List.length_append, List.length_map, (show (t.tag).length = 32 from htag)]; rfl)) ?_)
  refine l_op (o_callR Try.func66 rfl rfl rfl (light14b_ret _ t (hc.up H) (show (t.tag).length = 32 from htag)) ?_)
  rintro _ w ⟨rfl, Hc⟩
  replace H : Hp _ w _ ([_]) := H.call Hc
  clear Hc
  refine l_op (o_val (r_not rfl) ?_)
  refine l_op (o_val (r_mv) ?_)
  by_cases hc2 : t.tenant.length ≤ 1024 ∧ t.cs.len ≤ 64
  ·
   refine l_yes rfl rfl (by exact congrArg Value.bool (congrArg not (decide_eq_true hc2))) (o_val (r_ldA (C := [V64 t.serial, .string ⟨(t.tenant).toArray⟩, V8 t.rights, VI t.from_, VI t.until_, t.cs.v] ++ (t.tag).map V8) H (i := 0) rfl rfl rt76 (by rw [List.length_append, List.length_map, (show (t.tag).length = 32 from htag)]; rfl)) ?_)
   refine l_yes rfl rfl (by exact congrArg Value.bool (congrArg not (decide_eq_true hc2))) (o_callR Try.func75 rfl rfl rfl (may_ret _ t (hc.up H) (show (t.tag).length = 32 from htag) (by first | omega | (dsimp only; omega) | simp)) ?_)
   rintro _ w ⟨rfl, Hc⟩
   replace H : Hp _ w _ ([_]) := H.call Hc
   clear Hc
   refine l_yes rfl rfl (by exact congrArg Value.bool (congrArg not (decide_eq_true hc2))) (o_val (r_not rfl) ?_)
   refine l_op (o_val (r_pick (b := false) (congrArg Value.bool (congrArg not (decide_eq_true hc2)))) ?_)
   refine l_op (o_val (r_mv) ?_)
   rcases Bool.eq_false_or_eq_true (mayT t) with hc3 | hc3
   ·
    refine l_yes rfl rfl (by exact congrArg Value.bool (congrArg not hc3)) (o_val (r_mv) ?_)
    refine l_yes rfl rfl (by exact congrArg Value.bool (congrArg not hc3)) (o_val (r_lens el29 rfl) ?_)
    refine l_yes rfl rfl (by exact congrArg Value.bool (congrArg not hc3)) (o_val (r_bin (a := (s.len : Int)) (b := 1024) rfl rfl (fun _ => b_gtr)) ?_)
    refine l_op (o_val (r_pick (b := false) (congrArg Value.bool (congrArg not hc3))) ?_)
    first | refine l_end ?_ | refine l_nil ?_
    by_cases hc4 : 1024 < (s.len : Int)
    ·
     repeat refine c_seq ?_
     refine c_yes (by exact congrArg Value.bool (decide_eq_true hc4)) ?_
     repeat refine c_seq ?_
     refine c_region ?_
     refine l_op (o_val (r_as) ?_)
     first | refine l_end ?_ | refine l_nil ?_
     refine c_ret ?_
     try dsimp only [Exit.then, Exit.inBlock]
     refine e_ret1 (v := .bool true) Try.results29 rfl ?_
     refine ⟨_, rfl, ?_⟩
     exact ⟨rfl, H.sub (List.nil_sublist _)⟩
    ·
     repeat refine c_seq ?_
     refine c_no (by exact congrArg Value.bool (decide_eq_false hc4)) ?_
     refine c_skip ?_
     repeat refine c_seq ?_
     refine c_region ?_
     refine l_op (o_val (r_ldA (C := [V64 t.serial, .string ⟨(t.tenant).toArray⟩, V8 t.rights, VI t.from_, VI t.until_, t.cs.v] ++ (t.tag).map V8) H (i := 0) rfl rfl rt76 (by rw [List.length_append, List.length_map, (show (t.tag).length = 32 from htag)]; rfl)) ?_)
     refine l_op (o_callR Try.func81 rfl rfl rfl (capbytes_ok _ t (hc.up H) (show (t.tag).length = 32 from htag) (by first | omega | (dsimp only; omega) | simp)  hc3) ?_)
     rintro _ w ⟨a5, n6, c7, rfl, hn8, Hc⟩
     replace H : Hp _ w _ ([_, .own a5 n6 c7 ((t.bytes).map V8) 5 1]) := H.call Hc
     clear Hc
     try dsimp only at hn8
     refine l_op (o_val (r_mv) ?_)
     refine l_op (o_val (r_ext rfl rfl) ?_)
     refine l_op (o_val (r_ext rfl rfl) ?_)
     refine l_op (o_val (r_as) ?_)
     refine l_op (o_val (r_as) ?_)
     first | refine l_end ?_ | refine l_nil ?_
     have hpt := parse_tok hc htag hb hc3
     have hbl : t.bytes.length = n6 := by simpa using (H.ownLen (i := 1) rfl).1
     have hb1 : 0 < t.bytes.length := by simp [Tok.bytes]
     repeat refine c_seq ?_
     refine c_region ?_
     refine l_op (o_val (r_mv) ?_)
     refine l_op (o_callR Try.func102 rfl rfl rfl (capTake_ok _ ⟨hd a5, n6, c7, t.bytes⟩ (H.slOwn (i := 1) rfl) (by (try simp only []); omega) t.tv hpt) ?_)
     rintro _ w ⟨a9, c10, rfl, Hc⟩
     replace H : Hp _ w _ ([_, _, .own a9 t.tv.cs.length c10 ((t.tv.cs).flatMap cavE) 78 2]) := H.call Hc
     clear Hc
     refine l_op (o_val (r_mv) ?_)
     refine l_op (o_val (r_ext rfl rfl) ?_)
     refine l_op (o_val (r_ext rfl rfl) ?_)
     refine l_op (o_alloc H zc76 (fun b11 w H hb11 => ?_))
     replace H : Hp _ w _ ([_, _, _, .blk b11 ([V64 (0 : UInt64), .string ⟨(([] : List UInt8)).toArray⟩, V8 (0 : UInt8), VI 0, VI 0, .slice none 0 0] ++ (List.replicate 32 (0 : UInt8)).map V8) 76]) := H
     refine l_op (o_stW (C' := [V64 t.tv.serial, .string ⟨(t.tv.tenant).toArray⟩, V8 t.tv.rights, VI t.tv.from_, VI t.tv.until_, .slice (hd a9) t.tv.cs.length c10] ++ (t.tv.tag).map V8) H (i := 3) rfl rfl rfl cs76 (by simp [Value.oneCell']) (by rw [List.length_append, List.length_map, (show (List.replicate 32 (0 : UInt8)).length = 32 from (List.length_replicate ..))]; rfl) (by rw [List.length_append, List.length_map, (show (t.tv.tag).length = 32 from (parse_tag hpt))]; rfl) (fun w H => ?_))
     replace H : Hp _ w _ ([_, _, _, .blk b11 ([V64 t.tv.serial, .string ⟨(t.tv.tenant).toArray⟩, V8 t.tv.rights, VI t.tv.from_, VI t.tv.until_, .slice (hd a9) t.tv.cs.length c10] ++ (t.tv.tag).map V8) 76]) := H
     refine l_op (o_val (r_as) ?_)
     first | refine l_end ?_ | refine l_nil ?_
     repeat refine c_seq ?_
     refine c_region ?_
     refine l_op (o_val (r_mv) ?_)
     refine l_op (o_val (r_mv) ?_)
     refine l_op (o_val (r_mv) ?_)
     refine l_op (o_val (r_lens el29 rfl) ?_)
     refine l_op (o_callR Try.func44 rfl rfl rfl (place_ret _ n (n6 : Int) (by omega) (by omega)) ?_)
     rintro _ w' ⟨m12, rfl, hm13, hw14⟩
     rw [hw14]; clear hw14 w'
     have hol15 := (H.ownLen (i := 1) rfl).2.1
     refine l_op (o_val (r_slS (s := ⟨hd a5, n6, c7, t.bytes⟩) 0 m12 c7 (lv := none) (hv := some (VI (m12 : Int))) (mv := none) rfl el29 rfl rfl rfl (fun w => by exact sbh m12 (by omega) (by (try simp only []); omega) w)) ?_)
     have hk16 : ((parseT (((t.bytes).drop 0).take (m12))).isSome) = false := (by rw [List.drop_zero, parse_cut _ _ (by rw [hpt]; simp) (by omega)]; rfl)
     refine l_op (o_callR Try.func102 rfl rfl rfl (capTake_no _ (Sl.cut ⟨hd a5, n6, c7, t.bytes⟩ 0 m12 c7) ((H.slOwn (i := 1) rfl).cut (l := 0) (h := m12) (m := c7) (by omega) (by (try simp only []); omega) (by omega) (by (try simp only []); omega)) (by (try simp only [Sl.cut]); omega) (parse_no hk16)) ?_)
     rintro _ w ⟨rfl, Hc⟩
     replace H : Hp _ w _ ([_, _, _, _]) := H.call Hc
     clear Hc
     refine l_op (o_val (r_mv) ?_)
     refine l_op (o_val (r_ext rfl rfl) ?_)
     refine l_op (o_val (r_ext rfl rfl) ?_)
     refine l_op (o_alloc H zc76 (fun b17 w H hb17 => ?_))
     replace H : Hp _ w _ ([_, _, _, _, .blk b17 ([V64 (0 : UInt64), .string ⟨(([] : List UInt8)).toArray⟩, V8 (0 : UInt8), VI 0, VI 0, .slice none 0 0] ++ (List.replicate 32 (0 : UInt8)).map V8) 76]) := H
     refine l_op (o_stW (C' := [V64 (0 : UInt64), .string ⟨(([] : List UInt8)).toArray⟩, V8 (0 : UInt8), VI 0, VI 0, .slice none 0 0] ++ (List.replicate 32 (0 : UInt8)).map V8) H (i := 4) rfl rfl rfl cs76 (by simp [Value.oneCell']) (by rw [List.length_append, List.length_map, (show (List.replicate 32 (0 : UInt8)).length = 32 from (List.length_replicate ..))]; rfl) (by rw [List.length_append, List.length_map, (show (List.replicate 32 (0 : UInt8)).length = 32 from (List.length_replicate ..))]; rfl) (fun w H => ?_))
     replace H : Hp _ w _ [_, _, _, _, _] := H
     refine l_op (o_val (r_as) ?_)
     first | refine l_end ?_ | refine l_nil ?_
     repeat refine c_seq ?_
     refine c_region ?_
     refine l_op (o_bslB (([] : List UInt8)) H sl29 zc5 rfl rfl (by decide) (fun b18 w H hb18 => ?_))
     replace H : Hp _ w _ ([_, _, _, _, _, .own (some b18) 0 0 ((([] : List UInt8)).map V8) 5 1]) := H
     refine l_op (o_val (r_mv) ?_)
     refine l_op (o_appB (s := ⟨hd a5, n6, c7, t.bytes⟩) (l' := t.bytes) (len' := n6) rfl (Nat.zero_add _) H (i := 5) rfl sl29 Try.underlying29 rfl rfl (H.slOwn (i := 1) rfl) (by omega) (fun a19 c20 w H => ?_))
     replace H : Hp _ w _ ([_, _, _, _, _, .own a19 n6 c20 ((t.bytes).map V8) 5 1]) := H
     refine l_op (o_val (r_mv) ?_)
     refine l_op (o_appB (s := s) (l' := t.bytes ++ s.l) (len' := n6 + s.len) rfl rfl H (i := 5) rfl sl29 Try.underlying29 rfl rfl (hs.up H (fun _ => apart_nil _)) (by omega) (fun a21 c22 w H => ?_))
     replace H : Hp _ w _ ([_, _, _, _, _, .own a21 (n6 + s.len) c22 ((t.bytes ++ s.l).map V8) 5 1]) := H
     refine l_op (o_bslB ([(0 : UInt8)]) H sl29 zc5 rfl rfl (by decide) (fun b23 w H hb23 => ?_))
     replace H : Hp _ w _ ([_, _, _, _, _, _, .own (some b23) 1 1 (([(0 : UInt8)]).map V8) 5 1]) := H
     refine l_op (o_appB (s := ⟨hd (some b23), 1, 1, [(0 : UInt8)]⟩) (l' := t.bytes ++ s.l ++ ([(0 : UInt8)])) (len' := n6 + s.len + 1) rfl rfl H (i := 5) rfl sl29 Try.underlying29 rfl rfl (H.slOwn (i := 6) rfl) (by omega) (fun a24 c25 w H => ?_))
     replace H : Hp _ w _ ([_, _, _, _, _, .own a24 (n6 + s.len + 1) c25 ((t.bytes ++ s.l ++ ([(0 : UInt8)])).map V8) 5 1, _]) := H
     have hk26 : ((parseT (t.bytes ++ s.l ++ ([(0 : UInt8)]))).isSome) = false := (by have h := parse_more t.bytes (s.l ++ [(0 : UInt8)]) (by rw [hpt]; simp) (by simp); rw [← List.append_assoc] at h; exact (by rw [h]; rfl))
     refine l_op (o_callR Try.func102 rfl rfl rfl (capTake_no _ ⟨hd a24, n6 + s.len + 1, c25, t.bytes ++ s.l ++ ([(0 : UInt8)])⟩ (H.slOwn (i := 5) rfl) (by (try simp only []); omega) (parse_no hk26)) ?_)
     rintro _ w ⟨rfl, Hc⟩
     replace H : Hp _ w _ ([_, _, _, _, _, _, _]) := H.call Hc
     clear Hc
     refine l_op (o_val (r_mv) ?_)
     refine l_op (o_val (r_ext rfl rfl) ?_)
     refine l_op (o_val (r_ext rfl rfl) ?_)
     refine l_op (o_alloc H zc76 (fun b27 w H hb27 => ?_))
     replace H : Hp _ w _ ([_, _, _, _, _, _, _, .blk b27 ([V64 (0 : UInt64), .string ⟨(([] : List UInt8)).toArray⟩, V8 (0 : UInt8), VI 0, VI 0, .slice none 0 0] ++ (List.replicate 32 (0 : UInt8)).map V8) 76]) := H
     refine l_op (o_stW (C' := [V64 (0 : UInt64), .string ⟨(([] : List UInt8)).toArray⟩, V8 (0 : UInt8), VI 0, VI 0, .slice none 0 0] ++ (List.replicate 32 (0 : UInt8)).map V8) H (i := 7) rfl rfl rfl cs76 (by simp [Value.oneCell']) (by rw [List.length_append, List.length_map, (show (List.replicate 32 (0 : UInt8)).length = 32 from (List.length_replicate ..))]; rfl) (by rw [List.length_append, List.length_map, (show (List.replicate 32 (0 : UInt8)).length = 32 from (List.length_replicate ..))]; rfl) (fun w H => ?_))
     replace H : Hp _ w _ [_, _, _, _, _, _, _, _] := H
     refine l_op (o_val (r_as) ?_)
     first | refine l_end ?_ | refine l_nil ?_
     repeat refine c_seq ?_
     refine c_region ?_
     refine l_op (o_val (r_mv) ?_)
     refine l_op (o_val (r_bin (a := 0) (b := 0) rfl rfl (fun _ => b_eqlB true (decide_eq_true (by decide)))) ?_)
     refine l_op (o_val (r_mv) ?_)
     refine l_yes rfl rfl rfl (o_val (r_mv) ?_)
     refine l_yes rfl rfl rfl (o_val (r_bin (a := 0) (b := 0) rfl rfl (fun _ => b_eqlB true (decide_eq_true (by decide)))) ?_)
     refine l_op (o_val (r_pick rfl) ?_)
     refine l_op (o_val (r_mv) ?_)
     refine l_yes rfl rfl rfl (o_val (r_ldA (C := [V64 t.serial, .string ⟨(t.tenant).toArray⟩, V8 t.rights, VI t.from_, VI t.until_, t.cs.v] ++ (t.tag).map V8) H (i := 0) rfl rfl rt76 (by rw [List.length_append, List.length_map, (show (t.tag).length = 32 from htag)]; rfl)) ?_)
     refine l_yes rfl rfl rfl (o_val (r_ldA (C := [V64 t.tv.serial, .string ⟨(t.tv.tenant).toArray⟩, V8 t.tv.rights, VI t.tv.from_, VI t.tv.until_, .slice (hd a9) t.tv.cs.length c10] ++ (t.tv.tag).map V8) H (i := 3) rfl rfl rt76 (by rw [List.length_append, List.length_map, (show (t.tv.tag).length = 32 from (parse_tag hpt))]; rfl)) ?_)
     refine l_yes rfl rfl rfl (o_callR Try.func74 rfl rfl rfl (same14_ret _ t (⟨t.tv.serial, t.tv.tenant, t.tv.rights, t.tv.from_, t.tv.until_, ⟨hd a9, t.tv.cs.length, c10, t.tv.cs⟩, t.tv.tag⟩ : Tok) (hc.up H) (show (t.tag).length = 32 from htag) (H.glOwn (i := 2) rfl (by decide) (fun _ _ => rfl)) (show (t.tv.tag).length = 32 from (parse_tag hpt))) ?_)
     rintro _ w ⟨rfl, Hc⟩
     replace H : Hp _ w _ ([_, _, _, _, _, _, _, _]) := H.call Hc
     clear Hc
     have hk28 : (sameT t (⟨t.tv.serial, t.tv.tenant, t.tv.rights, t.tv.from_, t.tv.until_, ⟨hd a9, t.tv.cs.length, c10, t.tv.cs⟩, t.tv.tag⟩ : Tok)) = true := (decide_eq_true rfl)
     refine l_op (o_val (r_pick rfl) ?_)
     refine l_op (o_val (r_mv) ?_)
     refine l_yes rfl rfl (by exact congrArg Value.bool hk28) (o_val (r_mv) ?_)
     refine l_yes rfl rfl (by exact congrArg Value.bool hk28) (o_val (r_bin (a := 4) (b := 4) rfl rfl (fun _ => b_eqlB true (decide_eq_true (by decide)))) ?_)
     refine l_op (o_val (r_pick (b := true) (congrArg Value.bool hk28)) ?_)
     refine l_op (o_val (r_mv) ?_)
     refine l_yes rfl rfl rfl (o_val (r_mv) ?_)
     refine l_yes rfl rfl rfl (o_val (r_bin (a := 4) (b := 4) rfl rfl (fun _ => b_eqlB true (decide_eq_true (by decide)))) ?_)
     refine l_op (o_val (r_pick rfl) ?_)
     refine l_op (o_val (r_as) ?_)
     first | refine l_end ?_ | refine l_nil ?_
     refine c_ret ?_
     try dsimp only [Exit.then, Exit.inBlock]
     refine e_ret1 (v := .bool true) Try.results29 rfl ?_
     refine ⟨_, rfl, ?_⟩
     exact ⟨rfl, H.sub (List.nil_sublist _)⟩
   ·
    refine l_no rfl rfl (by exact congrArg Value.bool (congrArg not hc3)) rfl ?_
    refine l_no rfl rfl (by exact congrArg Value.bool (congrArg not hc3)) rfl ?_
    refine l_no rfl rfl (by exact congrArg Value.bool (congrArg not hc3)) rfl ?_
    refine l_op (o_val (r_pick (b := true) (congrArg Value.bool (congrArg not hc3))) ?_)
    first | refine l_end ?_ | refine l_nil ?_
    repeat refine c_seq ?_
    refine c_yes rfl ?_
    repeat refine c_seq ?_
    refine c_region ?_
    refine l_op (o_val (r_as) ?_)
    first | refine l_end ?_ | refine l_nil ?_
    refine c_ret ?_
    try dsimp only [Exit.then, Exit.inBlock]
    refine e_ret1 (v := .bool true) Try.results29 rfl ?_
    refine ⟨_, rfl, ?_⟩
    exact ⟨rfl, H.sub (List.nil_sublist _)⟩
  ·
   refine l_no rfl rfl (by exact congrArg Value.bool (congrArg not (decide_eq_false hc2))) rfl ?_
   refine l_no rfl rfl (by exact congrArg Value.bool (congrArg not (decide_eq_false hc2))) rfl ?_
   refine l_no rfl rfl (by exact congrArg Value.bool (congrArg not (decide_eq_false hc2))) rfl ?_
   refine l_op (o_val (r_pick (b := true) (congrArg Value.bool (congrArg not (decide_eq_false hc2)))) ?_)
   refine l_op (o_val (r_mv) ?_)
   refine l_no rfl rfl rfl rfl ?_
   refine l_no rfl rfl rfl rfl ?_
   refine l_no rfl rfl rfl rfl ?_
   refine l_op (o_val (r_pick rfl) ?_)
   first | refine l_end ?_ | refine l_nil ?_
   repeat refine c_seq ?_
   refine c_yes rfl ?_
   repeat refine c_seq ?_
   refine c_region ?_
   refine l_op (o_val (r_as) ?_)
   first | refine l_end ?_ | refine l_nil ?_
   refine c_ret ?_
   try dsimp only [Exit.then, Exit.inBlock]
   refine e_ret1 (v := .bool true) Try.results29 rfl ?_
   refine ⟨_, rfl, ?_⟩
   exact ⟨rfl, H.sub (List.nil_sublist _)⟩
end Go.Proofs.Ytjmbbhnpfmblpaa
