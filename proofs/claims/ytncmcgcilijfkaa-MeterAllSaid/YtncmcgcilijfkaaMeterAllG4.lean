/- Lemmas for the statement MeterAll, part 4: rules of operations, walks through functions, plain laws. -/
import Derived.Test.YtncmcgcilijfkaaMeterAllG3
namespace Go.Proofs.Ytncmcgcilijfkaa
open Go
set_option maxRecDepth 100000
set_option maxHeartbeats 2000000 in
theorem do_ret (w0 : World) (mb mb1 mb2 rb : Nat) (z : MW) (y : RW) (hO : Own w0 (dch mb mb1 mb2 rb z y)) (hz : z.ok) (hr : MRel z.X y.Ls y.Qs) (hb1 : z.X.G.length ≤ 1000) (hb2 : y.Qs.length ≤ 1000) (o : OpM) (hn : o.n ≤ 9223372036854775807) :
    Ret Try.prog 21 [.pointer (some ⟨mb, 0, none⟩), .pointer (some ⟨rb, 0, none⟩), .agg ([VI o.kind, .string ⟨(o.who).toArray⟩, V8 o.k, VI o.n]).toArray] w0 fun v w' => v = .bool true ∧ ∃ z' y', z'.ok ∧ MRel z'.X y'.Ls y'.Qs ∧ z'.X.G.length ≤ z.X.G.length + 1 ∧ y'.Qs.length ≤ y.Qs.length + 1 ∧ z'.Ma.length ≤ z.Ma.length + 1 ∧ Hp w0 w' (keys (dch mb mb1 mb2 rb z y)) (dch mb mb1 mb2 rb z' y') := by
  refine ret_mk Try.func21 rfl Try.ntmps21 (by simp) ?_
  have H : Hp w0 w0 (keys (dch mb mb1 mb2 rb z y)) [.blk mb ([.map (some mb1), .map (some mb2)]) 54, .obj mb1 (mobj kT z.Mh z.c1), .obj mb2 (mobj kS z.Ma z.c2), .blk rb ([.slice (hd y.a1) y.Ls.length y.c1, .slice (hd y.a2) y.Qs.length y.c2]) 46, .own y.a1 y.Ls.length y.c1 ((y.Ls).flatMap thgE) 93 34, .own y.a2 y.Qs.length y.c2 ((y.Qs).flatMap limE) 98 2] := hO.start
  have hlp := hr.p.length_eq
  repeat refine c_seq ?_
  refine c_region ?_
  refine l_op (o_box (v := .agg ([VI o.kind, .string ⟨(o.who).toArray⟩, V8 o.k, VI o.n]).toArray) H rfl (fun b1 w H hb1 => ?_))
  replace H : Hp _ w _ ([.blk mb ([.map (some mb1), .map (some mb2)]) 54, .obj mb1 (mobj kT z.Mh z.c1), .obj mb2 (mobj kS z.Ma z.c2), .blk rb ([.slice (hd y.a1) y.Ls.length y.c1, .slice (hd y.a2) y.Qs.length y.c2]) 46, .own y.a1 y.Ls.length y.c1 ((y.Ls).flatMap thgE) 93 34, .own y.a2 y.Qs.length y.c2 ((y.Qs).flatMap limE) 98 2, .blk b1 ([VI o.kind, .string ⟨(o.who).toArray⟩, V8 o.k, VI o.n]) 30]) := H
  refine l_op (o_val (r_as) ?_)
  first | refine l_end ?_ | refine l_nil ?_
  repeat refine c_seq ?_
  refine c_region ?_
  refine l_op (o_val (r_fa rfl fo30_0) ?_)
  refine l_op (o_val (r_ld (v := VI o.kind) H (i := 6) rfl rfl ct3 rfl) ?_)
  refine l_op (o_callR Try.func16 rfl rfl rfl (place_ret _ o.kind 3 (by omega) (by omega)) ?_)
  rintro _ w' ⟨m2, rfl, hm3, hw4⟩
  rw [hw4]; clear hw4 w'
  first | refine l_end ?_ | refine l_nil ?_
  repeat refine c_seq ?_
  refine c_block ?_
  repeat refine c_seq ?_
  refine c_region ?_
  refine l_op (o_val (r_bin (a := (m2 : Int)) (b := 0) rfl rfl (fun _ => b_eql)) ?_)
  refine l_op (o_val (r_as) ?_)
  first | refine l_end ?_ | refine l_nil ?_
  by_cases hc5 : (m2 : Int) = 0
  ·
   repeat refine c_seq ?_
   refine c_yes (by exact congrArg Value.bool (decide_eq_true hc5)) ?_
   repeat refine c_seq ?_
   refine c_region ?_
   refine l_op (o_val (r_mv) ?_)
   refine l_op (o_val (r_fa rfl fo30_1) ?_)
   refine l_op (o_val (r_ld (v := .string ⟨(o.who).toArray⟩) H (i := 6) rfl rfl ct9 rfl) ?_)
   refine l_op (o_val (r_fa rfl fo30_2) ?_)
   refine l_op (o_val (r_ld (v := V8 o.k) H (i := 6) rfl rfl ct5 rfl) ?_)
   refine l_op (o_val (r_bld' (cells := (((o.k :: List.replicate 31 (0 : UInt8))).map V8).toArray) (pv := [(0, V8 o.k)]) bd36 rfl rfl) ?_)
   refine l_op (o_val (r_fa rfl fo30_3) ?_)
   refine l_op (o_val (r_ld (v := VI o.n) H (i := 6) rfl rfl ct2 rfl) ?_)
   refine l_op (o_callR Try.func17 rfl rfl rfl (add_m _ _ _ _ z (mst_of H (i := 0) (j := 1) (k := 2) rfl rfl rfl (by decide) (by decide) (by decide) hz.fh hz.fa hz.oh hz.oa) hz (by omega) o.who (idB o.k).1 (idB o.k).2 o.n) ?_)
   rintro _ w ⟨rfl, z6, hzx7, hzo8, Hc⟩
   replace H := (met_at H (i := 0) (j := 1) (k := 2) rfl rfl rfl (by decide) (by decide) (by decide) Hc)
   clear Hc
   replace H : Hp _ w _ ([_, .obj mb1 (mobj kT z6.Mh z6.c1), .obj mb2 (mobj kS z6.Ma z6.c2), _, _, _, _]) := H
   replace hzx7 : z6.X = addX z.X o.who (idB o.k) o.n := hzx7
   have hzx7l := add_len z.X o.who (idB o.k) o.n
   rw [← hzx7] at hzx7l
   refine l_op (o_val (r_mv) ?_)
   refine l_op (o_val (r_ext rfl rfl) ?_)
   refine l_op (o_val (r_ext rfl rfl) ?_)
   refine l_op (o_val (r_as) ?_)
   refine l_op (o_val (r_as) ?_)
   first | refine l_end ?_ | refine l_nil ?_
   repeat refine c_seq ?_
   refine c_region ?_
   refine l_op (o_val (r_mv) ?_)
   refine l_op (o_val (r_fa rfl fo30_1) ?_)
   refine l_op (o_val (r_ld (v := .string ⟨(o.who).toArray⟩) H (i := 6) rfl rfl ct9 rfl) ?_)
   refine l_op (o_val (r_fa rfl fo30_2) ?_)
   refine l_op (o_val (r_ld (v := V8 o.k) H (i := 6) rfl rfl ct5 rfl) ?_)
   refine l_op (o_val (r_bld' (cells := (((o.k :: List.replicate 31 (0 : UInt8))).map V8).toArray) (pv := [(0, V8 o.k)]) bd36 rfl rfl) ?_)
   refine l_op (o_val (r_fa rfl fo30_3) ?_)
   refine l_op (o_val (r_ld (v := VI o.n) H (i := 6) rfl rfl ct2 rfl) ?_)
   refine l_op (o_callR Try.func48 rfl rfl rfl (addR_ret _ rb y (H.ownP (LL := [.blk rb ([.slice (hd y.a1) y.Ls.length y.c1, .slice (hd y.a2) y.Qs.length y.c2]) 46, .own y.a1 y.Ls.length y.c1 ((y.Ls).flatMap thgE) 93 34, .own y.a2 y.Qs.length y.c2 ((y.Qs).flatMap limE) 98 2, .blk mb ([.map (some mb1), .map (some mb2)]) 54, .obj mb1 (mobj kT z6.Mh z6.c1), .obj mb2 (mobj kS z6.Ma z6.c2), .blk b1 ([VI o.kind, .string ⟨(o.who).toArray⟩, V8 o.k, VI o.n]) 30]) (L1 := [.blk rb ([.slice (hd y.a1) y.Ls.length y.c1, .slice (hd y.a2) y.Qs.length y.c2]) 46, .own y.a1 y.Ls.length y.c1 ((y.Ls).flatMap thgE) 93 34, .own y.a2 y.Qs.length y.c2 ((y.Qs).flatMap limE) 98 2]) (Lr := [.blk mb ([.map (some mb1), .map (some mb2)]) 54, .obj mb1 (mobj kT z6.Mh z6.c1), .obj mb2 (mobj kS z6.Ma z6.c2), .blk b1 ([VI o.kind, .string ⟨(o.who).toArray⟩, V8 o.k, VI o.n]) 30]) ((perm_front (j := 3) rfl).trans (.cons _ ((perm_front (j := 3) rfl).trans (.cons _ ((perm_front (j := 3) rfl).trans (.cons _ (.refl _))))))) rfl) (by first | assumption | omega) (by first | assumption | omega) (hr.nn hz.inv) o.who (idB o.k).1 (idB o.k).2 o.n (by rw [hr.sum hz.inv]; exact (hz.inv.u _).2) (hr.may hz.inv _)) ?_)
   rintro _ w ⟨rfl, y9, hyl10, hyq11, Hc⟩
   replace H := H.callP (L1 := [.blk rb ([.slice (hd y.a1) y.Ls.length y.c1, .slice (hd y.a2) y.Qs.length y.c2]) 46, .own y.a1 y.Ls.length y.c1 ((y.Ls).flatMap thgE) 93 34, .own y.a2 y.Qs.length y.c2 ((y.Qs).flatMap limE) 98 2]) (Lr := [.blk mb ([.map (some mb1), .map (some mb2)]) 54, .obj mb1 (mobj kT z6.Mh z6.c1), .obj mb2 (mobj kS z6.Ma z6.c2), .blk b1 ([VI o.kind, .string ⟨(o.who).toArray⟩, V8 o.k, VI o.n]) 30]) (LL := [.blk rb ([.slice (hd y.a1) y.Ls.length y.c1, .slice (hd y.a2) y.Qs.length y.c2]) 46, .own y.a1 y.Ls.length y.c1 ((y.Ls).flatMap thgE) 93 34, .own y.a2 y.Qs.length y.c2 ((y.Qs).flatMap limE) 98 2, .blk mb ([.map (some mb1), .map (some mb2)]) 54, .obj mb1 (mobj kT z6.Mh z6.c1), .obj mb2 (mobj kS z6.Ma z6.c2), .blk b1 ([VI o.kind, .string ⟨(o.who).toArray⟩, V8 o.k, VI o.n]) 30]) ((perm_front (j := 3) rfl).trans (.cons _ ((perm_front (j := 3) rfl).trans (.cons _ ((perm_front (j := 3) rfl).trans (.cons _ (.refl _))))))) rfl Hc ((perm_front (j := 0) rfl).trans (.cons _ ((perm_front (j := 0) rfl).trans (.cons _ ((perm_front (j := 0) rfl).trans (.cons _ ((perm_front (j := 1) rfl).trans (.cons _ ((perm_front (j := 1) rfl).trans (.cons _ ((perm_front (j := 1) rfl).trans (.cons _ (.refl _)))))))))))))
   clear Hc
   replace H : Hp _ w _ ([_, _, _, .blk rb ([.slice (hd y9.a1) y9.Ls.length y9.c1, .slice (hd y9.a2) y9.Qs.length y9.c2]) 46, .own y9.a1 y9.Ls.length y9.c1 ((y9.Ls).flatMap thgE) 93 34, .own y9.a2 y9.Qs.length y9.c2 ((y9.Qs).flatMap limE) 98 2, _]) := H
   refine l_op (o_val (r_mv) ?_)
   refine l_op (o_val (r_ext rfl rfl) ?_)
   refine l_op (o_val (r_ext rfl rfl) ?_)
   refine l_op (o_val (r_as) ?_)
   refine l_op (o_val (r_as) ?_)
   first | refine l_end ?_ | refine l_nil ?_
   repeat refine c_seq ?_
   refine c_region ?_
   refine l_op (o_val (r_mv) ?_)
   refine l_op (o_val (r_mv) ?_)
   refine l_op (o_val (r_beq Try.underlying4 rfl rfl) ?_)
   have hk12 : ((addB z.X o.who (idB o.k) o.n) == (decide (AddC o.n o.who (idB o.k) y.Ls y.Qs))) = true := (by rw [hr.addD hz.inv]; simp)
   refine l_op (o_val (r_mv) ?_)
   refine l_yes rfl rfl (by exact congrArg Value.bool hk12) (o_val (r_mv) ?_)
   refine l_yes rfl rfl (by exact congrArg Value.bool hk12) (o_val (r_mv) ?_)
   refine l_yes rfl rfl (by exact congrArg Value.bool hk12) (o_val (r_bin (a := addE z.X o.who (idB o.k) o.n) (b := if o.n < 0 then 1 else if (look y.Ls (o.who, (idB o.k))).isSome then 0 else if mayQ o.who y.Qs < o.n ∨ mayQ o.who y.Qs - o.n < sumT o.who y.Ls then 16 else 0) rfl rfl (fun _ => b_eqlB true (decide_eq_true (hr.addE hz.inv _ _ _).symm))) ?_)
   refine l_op (o_val (r_pick (b := true) (congrArg Value.bool hk12)) ?_)
   refine l_op (o_val (r_as) ?_)
   first | refine l_end ?_ | refine l_nil ?_
   refine c_ret ?_
   try dsimp only [Exit.then, Exit.inBlock]
   refine e_ret1 (v := .bool true) Try.results21 rfl ?_
   refine ⟨_, rfl, ?_⟩
   have hrel : MRel z6.X y9.Ls y9.Qs := by
     rw [hzx7, hyl10, hyq11]
     first | exact hr.add hz.inv _ _ _ | exact hr.drop hz.inv _ _ | exact hr.quota _ _
   have hql : y9.Qs.length ≤ y.Qs.length + 1 := by
     rw [hyq11]
     first | exact Nat.le_succ _ | exact setQ_len _ _ _
   have hml := ma_len hz hzo8 o.who (fun k h => by
     rw [hzx7] at h
     first | exact addX_keys _ _ _ _ k h | exact dropX_keys _ _ _ k h | exact quotaX_keys _ _ _ k h)
   exact ⟨rfl, z6, y9, hzo8, hrel, by omega, hql, hml, H.sub (.cons_cons _ (.cons_cons _ (.cons_cons _ (.cons_cons _ (.cons_cons _ (.cons_cons _ (List.nil_sublist _)))))))⟩
  ·
   repeat refine c_seq ?_
   refine c_no (by exact congrArg Value.bool (decide_eq_false hc5)) ?_
   repeat refine c_seq ?_
   refine c_region ?_
   refine l_op (o_val (r_bin (a := (m2 : Int)) (b := 1) rfl rfl (fun _ => b_eql)) ?_)
   refine l_op (o_val (r_as) ?_)
   first | refine l_end ?_ | refine l_nil ?_
   by_cases hc13 : (m2 : Int) = 1
   ·
    repeat refine c_seq ?_
    refine c_yes (by exact congrArg Value.bool (decide_eq_true hc13)) ?_
    repeat refine c_seq ?_
    refine wp_held (fun w => Hp w0 w (keys (dch mb mb1 mb2 rb z y)) [.blk mb ([.map (some mb1), .map (some mb2)]) 54, .blk b1 ([VI o.kind, .string ⟨(o.who).toArray⟩, V8 o.k, VI o.n]) 30]) mixed ?_
    replace H := H.drew
    have HS := H.sub (.cons_cons _ (.cons _ (.cons _ (.cons _ (.cons _ (.cons _ (.cons_cons _ (List.nil_sublist _))))))))
    refine t_take 0 rfl (by kernel_rfl) (by kernel_rfl) (by kernel_rfl) (fun _ _ _ h => h) (fun w HS => r_mv) HS ?_
    refine t_take 1 rfl (by kernel_rfl) (by kernel_rfl) (by kernel_rfl) (fun _ _ _ h => h) (fun w HS => r_fa rfl fo30_1) HS ?_
    refine t_take 2 rfl (by kernel_rfl) (by kernel_rfl) (by kernel_rfl) (fun _ _ _ h => h) (fun w HS => r_ld (v := .string ⟨(o.who).toArray⟩) HS (i := 1) rfl rfl ct9 rfl) HS ?_
    refine t_take 3 rfl (by kernel_rfl) (by kernel_rfl) (by kernel_rfl) (fun _ _ _ h => h) (fun w HS => r_fa rfl fo30_2) HS ?_
    refine t_take 4 rfl (by kernel_rfl) (by kernel_rfl) (by kernel_rfl) (fun _ _ _ h => h) (fun w HS => r_ld (v := V8 o.k) HS (i := 1) rfl rfl ct5 rfl) HS ?_
    refine t_take 5 rfl (by kernel_rfl) (by kernel_rfl) (by kernel_rfl) (fun _ _ _ h => h) (fun w HS => r_bld' (cells := (((o.k :: List.replicate 31 (0 : UInt8))).map V8).toArray) (pv := [(0, V8 o.k)]) bd36 rfl rfl) HS ?_
    refine t_take 7 rfl (by kernel_rfl) (by kernel_rfl) (by kernel_rfl) (fun _ _ _ h => h) (fun w HS => r_mv) HS ?_
    refine t_take 8 rfl (by kernel_rfl) (by kernel_rfl) (by kernel_rfl) (fun _ _ _ h => h) (fun w HS => r_fa rfl fo30_1) HS ?_
    refine t_take 9 rfl (by kernel_rfl) (by kernel_rfl) (by kernel_rfl) (fun _ _ _ h => h) (fun w HS => r_ld (v := .string ⟨(o.who).toArray⟩) HS (i := 1) rfl rfl ct9 rfl) HS ?_
    refine t_take 10 rfl (by kernel_rfl) (by kernel_rfl) (by kernel_rfl) (fun _ _ _ h => h) (fun w HS => r_fa rfl fo30_2) HS ?_
    refine t_take 11 rfl (by kernel_rfl) (by kernel_rfl) (by kernel_rfl) (fun _ _ _ h => h) (fun w HS => r_ld (v := V8 o.k) HS (i := 1) rfl rfl ct5 rfl) HS ?_
    refine t_take 12 rfl (by kernel_rfl) (by kernel_rfl) (by kernel_rfl) (fun _ _ _ h => h) (fun w HS => r_bld' (cells := (((o.k :: List.replicate 31 (0 : UInt8))).map V8).toArray) (pv := [(0, V8 o.k)]) bd36 rfl rfl) HS ?_
    refine t_step 6 rfl (by kernel_rfl) (o_callR Try.func18 rfl rfl rfl (drop_m _ _ _ _ z (mst_of H (i := 0) (j := 1) (k := 2) rfl rfl rfl (by decide) (by decide) (by decide) hz.fh hz.fa hz.oh hz.oa) hz (by omega) o.who (idB o.k).1 (idB o.k).2) ?_)
    rintro _ w ⟨rfl, z14, hzx15, hzo16, Hc⟩
    replace H := (met_at H (i := 0) (j := 1) (k := 2) rfl rfl rfl (by decide) (by decide) (by decide) Hc)
    clear Hc
    replace H : Hp _ w _ ([_, .obj mb1 (mobj kT z14.Mh z14.c1), .obj mb2 (mobj kS z14.Ma z14.c2), _, _, _, _]) := H
    replace hzx15 : z14.X = dropX z.X o.who (idB o.k) := hzx15
    have hzx15l := drop_len z.X o.who (idB o.k)
    rw [← hzx15] at hzx15l
    refine ⟨H.sub (.cons_cons _ (.cons _ (.cons _ (.cons _ (.cons _ (.cons _ (.cons_cons _ (List.nil_sublist _)))))))), ?_⟩
    replace HS := H.sub (.cons_cons _ (.cons _ (.cons _ (.cons _ (.cons _ (.cons _ (.cons_cons _ (List.nil_sublist _))))))))
    refine t_step 13 rfl (by kernel_rfl) (o_callR Try.func49 rfl rfl rfl (dropR_ret _ rb y (H.ownP (LL := [.blk rb ([.slice (hd y.a1) y.Ls.length y.c1, .slice (hd y.a2) y.Qs.length y.c2]) 46, .own y.a1 y.Ls.length y.c1 ((y.Ls).flatMap thgE) 93 34, .own y.a2 y.Qs.length y.c2 ((y.Qs).flatMap limE) 98 2, .blk mb ([.map (some mb1), .map (some mb2)]) 54, .obj mb1 (mobj kT z14.Mh z14.c1), .obj mb2 (mobj kS z14.Ma z14.c2), .blk b1 ([VI o.kind, .string ⟨(o.who).toArray⟩, V8 o.k, VI o.n]) 30]) (L1 := [.blk rb ([.slice (hd y.a1) y.Ls.length y.c1, .slice (hd y.a2) y.Qs.length y.c2]) 46, .own y.a1 y.Ls.length y.c1 ((y.Ls).flatMap thgE) 93 34, .own y.a2 y.Qs.length y.c2 ((y.Qs).flatMap limE) 98 2]) (Lr := [.blk mb ([.map (some mb1), .map (some mb2)]) 54, .obj mb1 (mobj kT z14.Mh z14.c1), .obj mb2 (mobj kS z14.Ma z14.c2), .blk b1 ([VI o.kind, .string ⟨(o.who).toArray⟩, V8 o.k, VI o.n]) 30]) ((perm_front (j := 3) rfl).trans (.cons _ ((perm_front (j := 3) rfl).trans (.cons _ ((perm_front (j := 3) rfl).trans (.cons _ (.refl _))))))) rfl) (by first | assumption | omega) (by first | assumption | omega) o.who (idB o.k).1 (idB o.k).2) ?_)
    rintro _ w ⟨rfl, y17, hyl18, hyq19, Hc⟩
    replace H := H.callP (L1 := [.blk rb ([.slice (hd y.a1) y.Ls.length y.c1, .slice (hd y.a2) y.Qs.length y.c2]) 46, .own y.a1 y.Ls.length y.c1 ((y.Ls).flatMap thgE) 93 34, .own y.a2 y.Qs.length y.c2 ((y.Qs).flatMap limE) 98 2]) (Lr := [.blk mb ([.map (some mb1), .map (some mb2)]) 54, .obj mb1 (mobj kT z14.Mh z14.c1), .obj mb2 (mobj kS z14.Ma z14.c2), .blk b1 ([VI o.kind, .string ⟨(o.who).toArray⟩, V8 o.k, VI o.n]) 30]) (LL := [.blk rb ([.slice (hd y.a1) y.Ls.length y.c1, .slice (hd y.a2) y.Qs.length y.c2]) 46, .own y.a1 y.Ls.length y.c1 ((y.Ls).flatMap thgE) 93 34, .own y.a2 y.Qs.length y.c2 ((y.Qs).flatMap limE) 98 2, .blk mb ([.map (some mb1), .map (some mb2)]) 54, .obj mb1 (mobj kT z14.Mh z14.c1), .obj mb2 (mobj kS z14.Ma z14.c2), .blk b1 ([VI o.kind, .string ⟨(o.who).toArray⟩, V8 o.k, VI o.n]) 30]) ((perm_front (j := 3) rfl).trans (.cons _ ((perm_front (j := 3) rfl).trans (.cons _ ((perm_front (j := 3) rfl).trans (.cons _ (.refl _))))))) rfl Hc ((perm_front (j := 0) rfl).trans (.cons _ ((perm_front (j := 0) rfl).trans (.cons _ ((perm_front (j := 0) rfl).trans (.cons _ ((perm_front (j := 1) rfl).trans (.cons _ ((perm_front (j := 1) rfl).trans (.cons _ ((perm_front (j := 1) rfl).trans (.cons _ (.refl _)))))))))))))
    clear Hc
    replace H : Hp _ w _ ([_, _, _, .blk rb ([.slice (hd y17.a1) y17.Ls.length y17.c1, .slice (hd y17.a2) y17.Qs.length y17.c2]) 46, .own y17.a1 y17.Ls.length y17.c1 ((y17.Ls).flatMap thgE) 93 34, .own y17.a2 y17.Qs.length y17.c2 ((y17.Qs).flatMap limE) 98 2, _]) := H
    refine ⟨H.sub (.cons_cons _ (.cons _ (.cons _ (.cons _ (.cons _ (.cons _ (.cons_cons _ (List.nil_sublist _)))))))), ?_⟩
    replace HS := H.sub (.cons_cons _ (.cons _ (.cons _ (.cons _ (.cons _ (.cons _ (.cons_cons _ (List.nil_sublist _))))))))
    refine t_take 14 rfl (by kernel_rfl) (by kernel_rfl) (by kernel_rfl) (fun _ _ _ h => h) (fun w HS => r_bin (a := dropE z.X o.who (idB o.k)) (b := if (look y.Ls (o.who, (idB o.k))).isSome then 0 else 5) rfl rfl (fun _ => b_eqlB true (decide_eq_true (by rw [dropE, hr.look hz.inv])))) HS ?_
    refine t_take 15 rfl (by kernel_rfl) (by kernel_rfl) (by kernel_rfl) (fun _ _ _ h => h) (fun w HS => r_as) HS ?_
    refine t_done (by kernel_rfl) ?_
    clear HS
    refine c_ret ?_
    try dsimp only [Exit.then, Exit.inBlock]
    refine e_ret1 (v := .bool true) Try.results21 rfl ?_
    refine ⟨_, rfl, ?_⟩
    have hrel : MRel z14.X y17.Ls y17.Qs := by
      rw [hzx15, hyl18, hyq19]
      first | exact hr.add hz.inv _ _ _ | exact hr.drop hz.inv _ _ | exact hr.quota _ _
    have hql : y17.Qs.length ≤ y.Qs.length + 1 := by
      rw [hyq19]
      first | exact Nat.le_succ _ | exact setQ_len _ _ _
    have hml := ma_len hz hzo16 o.who (fun k h => by
      rw [hzx15] at h
      first | exact addX_keys _ _ _ _ k h | exact dropX_keys _ _ _ k h | exact quotaX_keys _ _ _ k h)
    exact ⟨rfl, z14, y17, hzo16, hrel, by omega, hql, hml, H.sub (.cons_cons _ (.cons_cons _ (.cons_cons _ (.cons_cons _ (.cons_cons _ (.cons_cons _ (List.nil_sublist _)))))))⟩
   ·
    repeat refine c_seq ?_
    refine c_no (by exact congrArg Value.bool (decide_eq_false hc13)) ?_
    refine c_skip ?_
    repeat refine c_seq ?_
    refine c_region ?_
    refine l_op (o_val (r_mv) ?_)
    refine l_op (o_val (r_fa rfl fo30_1) ?_)
    refine l_op (o_val (r_ld (v := .string ⟨(o.who).toArray⟩) H (i := 6) rfl rfl ct9 rfl) ?_)
    refine l_op (o_val (r_fa rfl fo30_3) ?_)
    refine l_op (o_val (r_ld (v := VI o.n) H (i := 6) rfl rfl ct2 rfl) ?_)
    refine l_op (o_callR Try.func19 rfl rfl rfl (quota_m _ _ _ _ z (mst_of H (i := 0) (j := 1) (k := 2) rfl rfl rfl (by decide) (by decide) (by decide) hz.fh hz.fa hz.oh hz.oa) hz o.who o.n (by omega)) ?_)
    rintro _ w ⟨rfl, z20, hzx21, hzo22, Hc⟩
    replace H := (met_at H (i := 0) (j := 1) (k := 2) rfl rfl rfl (by decide) (by decide) (by decide) Hc)
    clear Hc
    replace H : Hp _ w _ ([_, .obj mb1 (mobj kT z20.Mh z20.c1), .obj mb2 (mobj kS z20.Ma z20.c2), _, _, _, _]) := H
    replace hzx21 : z20.X = quotaX z.X o.who o.n := hzx21
    have hzx21l : z20.X.G.length = z.X.G.length := by rw [hzx21]; rfl
    first | refine l_end ?_ | refine l_nil ?_
    repeat refine c_seq ?_
    refine c_region ?_
    refine l_op (o_val (r_mv) ?_)
    refine l_op (o_val (r_fa rfl fo30_1) ?_)
    refine l_op (o_val (r_ld (v := .string ⟨(o.who).toArray⟩) H (i := 6) rfl rfl ct9 rfl) ?_)
    refine l_op (o_val (r_fa rfl fo30_3) ?_)
    refine l_op (o_val (r_ld (v := VI o.n) H (i := 6) rfl rfl ct2 rfl) ?_)
    refine l_op (o_callR Try.func50 rfl rfl rfl (quotaR_ret _ rb y (H.ownP (LL := [.blk rb ([.slice (hd y.a1) y.Ls.length y.c1, .slice (hd y.a2) y.Qs.length y.c2]) 46, .own y.a1 y.Ls.length y.c1 ((y.Ls).flatMap thgE) 93 34, .own y.a2 y.Qs.length y.c2 ((y.Qs).flatMap limE) 98 2, .blk mb ([.map (some mb1), .map (some mb2)]) 54, .obj mb1 (mobj kT z20.Mh z20.c1), .obj mb2 (mobj kS z20.Ma z20.c2), .blk b1 ([VI o.kind, .string ⟨(o.who).toArray⟩, V8 o.k, VI o.n]) 30]) (L1 := [.blk rb ([.slice (hd y.a1) y.Ls.length y.c1, .slice (hd y.a2) y.Qs.length y.c2]) 46, .own y.a1 y.Ls.length y.c1 ((y.Ls).flatMap thgE) 93 34, .own y.a2 y.Qs.length y.c2 ((y.Qs).flatMap limE) 98 2]) (Lr := [.blk mb ([.map (some mb1), .map (some mb2)]) 54, .obj mb1 (mobj kT z20.Mh z20.c1), .obj mb2 (mobj kS z20.Ma z20.c2), .blk b1 ([VI o.kind, .string ⟨(o.who).toArray⟩, V8 o.k, VI o.n]) 30]) ((perm_front (j := 3) rfl).trans (.cons _ ((perm_front (j := 3) rfl).trans (.cons _ ((perm_front (j := 3) rfl).trans (.cons _ (.refl _))))))) rfl) (by first | assumption | omega) (by first | assumption | omega) o.who o.n) ?_)
    rintro _ w ⟨rfl, y23, hyl24, hyq25, Hc⟩
    replace H := H.callP (L1 := [.blk rb ([.slice (hd y.a1) y.Ls.length y.c1, .slice (hd y.a2) y.Qs.length y.c2]) 46, .own y.a1 y.Ls.length y.c1 ((y.Ls).flatMap thgE) 93 34, .own y.a2 y.Qs.length y.c2 ((y.Qs).flatMap limE) 98 2]) (Lr := [.blk mb ([.map (some mb1), .map (some mb2)]) 54, .obj mb1 (mobj kT z20.Mh z20.c1), .obj mb2 (mobj kS z20.Ma z20.c2), .blk b1 ([VI o.kind, .string ⟨(o.who).toArray⟩, V8 o.k, VI o.n]) 30]) (LL := [.blk rb ([.slice (hd y.a1) y.Ls.length y.c1, .slice (hd y.a2) y.Qs.length y.c2]) 46, .own y.a1 y.Ls.length y.c1 ((y.Ls).flatMap thgE) 93 34, .own y.a2 y.Qs.length y.c2 ((y.Qs).flatMap limE) 98 2, .blk mb ([.map (some mb1), .map (some mb2)]) 54, .obj mb1 (mobj kT z20.Mh z20.c1), .obj mb2 (mobj kS z20.Ma z20.c2), .blk b1 ([VI o.kind, .string ⟨(o.who).toArray⟩, V8 o.k, VI o.n]) 30]) ((perm_front (j := 3) rfl).trans (.cons _ ((perm_front (j := 3) rfl).trans (.cons _ ((perm_front (j := 3) rfl).trans (.cons _ (.refl _))))))) rfl Hc ((perm_front (j := 0) rfl).trans (.cons _ ((perm_front (j := 0) rfl).trans (.cons _ ((perm_front (j := 0) rfl).trans (.cons _ ((perm_front (j := 1) rfl).trans (.cons _ ((perm_front (j := 1) rfl).trans (.cons _ ((perm_front (j := 1) rfl).trans (.cons _ (.refl _)))))))))))))
    clear Hc
    replace H : Hp _ w _ ([_, _, _, .blk rb ([.slice (hd y23.a1) y23.Ls.length y23.c1, .slice (hd y23.a2) y23.Qs.length y23.c2]) 46, .own y23.a1 y23.Ls.length y23.c1 ((y23.Ls).flatMap thgE) 93 34, .own y23.a2 y23.Qs.length y23.c2 ((y23.Qs).flatMap limE) 98 2, _]) := H
    first | refine l_end ?_ | refine l_nil ?_
    repeat refine c_seq ?_
    refine c_region ?_
    refine l_op (o_val (r_as) ?_)
    first | refine l_end ?_ | refine l_nil ?_
    refine c_ret ?_
    try dsimp only [Exit.then, Exit.inBlock]
    refine e_ret1 (v := .bool true) Try.results21 rfl ?_
    refine ⟨_, rfl, ?_⟩
    have hrel : MRel z20.X y23.Ls y23.Qs := by
      rw [hzx21, hyl24, hyq25]
      first | exact hr.add hz.inv _ _ _ | exact hr.drop hz.inv _ _ | exact hr.quota _ _
    have hql : y23.Qs.length ≤ y.Qs.length + 1 := by
      rw [hyq25]
      first | exact Nat.le_succ _ | exact setQ_len _ _ _
    have hml := ma_len hz hzo22 o.who (fun k h => by
      rw [hzx21] at h
      first | exact addX_keys _ _ _ _ k h | exact dropX_keys _ _ _ k h | exact quotaX_keys _ _ _ k h)
    exact ⟨rfl, z20, y23, hzo22, hrel, by omega, hql, hml, H.sub (.cons_cons _ (.cons_cons _ (.cons_cons _ (.cons_cons _ (.cons_cons _ (.cons_cons _ (List.nil_sublist _)))))))⟩
set_option maxHeartbeats 2000000 in
theorem meterAll_ret (w0 : World) (g : Gl OpM) (hg : g.ok opE 4 w0) (hb : ∀ e ∈ g.l, e.n ≤ 9223372036854775807) :
    Ret Try.prog 5 [g.v] w0 fun v w' => v = .bool true ∧ Hp w0 w' [] [] := by
  refine ret_mk Try.func5 rfl Try.ntmps5 (by simp) ?_
  have H := Hp.refl w0 []
  have hgl := hg.ln
  have hge := hg.le
  have hgx := hg.mx
  have hmL : maxLen = 9223372036854775807 := rfl
  have hG0 : MW.mt.X.G.length = 0 := rfl
  repeat refine c_seq ?_
  refine c_region ?_
  refine l_op (o_val (r_as) ?_)
  first | refine l_end ?_ | refine l_nil ?_
  repeat refine c_seq ?_
  refine c_region ?_
  refine l_op (o_callR Try.func13 rfl rfl rfl (begunM_ret _) ?_)
  rintro _ w ⟨rfl, Hc⟩
  replace H : Hp _ w _ ([]) := H.call Hc
  clear Hc
  refine l_op (o_val (r_not rfl) ?_)
  first | refine l_end ?_ | refine l_nil ?_
  repeat refine c_seq ?_
  refine c_no rfl ?_
  refine c_skip ?_
  repeat refine c_seq ?_
  refine c_region ?_
  refine l_op (o_val (r_mv) ?_)
  refine l_op (o_callR Try.func14 rfl rfl rfl (lightM_ret _ g (hg.up H) 100 (by omega)) ?_)
  rintro _ w ⟨rfl, Hc⟩
  replace H : Hp _ w _ ([]) := H.call Hc
  clear Hc
  refine l_op (o_val (r_not rfl) ?_)
  first | refine l_end ?_ | refine l_nil ?_
  have hc10 := Bool.eq_false_or_eq_true (lightM g.l 100)
  rcases hc10 with hc1 | hc1
  ·
   repeat refine c_seq ?_
   refine c_no (by exact congrArg Value.bool (congrArg not hc1)) ?_
   refine c_skip ?_
   have hlg := ((lightM_iff _ _).1 hc1).1
   repeat refine c_seq ?_
   refine c_region ?_
   refine l_op (o_callR Try.func15 rfl rfl rfl (mnew_ret _) ?_)
   rintro _ w ⟨nb2, nb3, nb4, rfl, Hc⟩
   replace H : Hp _ w _ ([.obj nb3 (mobj kT MW.mt.Mh MW.mt.c1), .obj nb4 (mobj kS MW.mt.Ma MW.mt.c2), .blk nb2 ([.map (some nb3), .map (some nb4)]) 54]) := H.call Hc
   clear Hc
   refine l_op (o_val (r_bld' (cells := ([.slice none 0 0, .slice none 0 0]).toArray) (pv := []) bd46 rfl rfl) ?_)
   refine l_op (o_box (v := .agg ([.slice none 0 0, .slice none 0 0]).toArray) H rfl (fun b5 w H hb5 => ?_))
   replace H : Hp _ w _ ([_, _, _, .blk b5 ([.slice none 0 0, .slice none 0 0]) 46]) := H
   refine l_op (o_val (r_as) ?_)
   refine l_op (o_val (r_as) ?_)
   first | refine l_end ?_ | refine l_nil ?_
   replace H := H.nilEnd 93 34
   replace H := H.nilEnd 98 2
   replace H : Hp _ w _ ([_, _, _, .blk b5 ([.slice (hd none) 0 0, .slice (hd none) 0 0]) 46, .own none 0 0 ((([] : List (MKey × Int))).flatMap thgE) 93 34, .own none 0 0 ((([] : List (List UInt8 × Int))).flatMap limE) 98 2]) := H
   repeat refine c_seq ?_
   refine c_region ?_
   refine l_op (o_val (r_as) ?_)
   first | refine l_end ?_ | refine l_nil ?_
   repeat refine c_seq ?_
   refine c_block ?_
   repeat refine c_seq ?_
   refine c_loop3 (fun (i : Nat) (z : MW) (y : RW) => [(0, g.v), (3, .pointer (some ⟨nb2, 0, none⟩)), (4, .pointer (some ⟨b5, 0, none⟩)), (5, VI (i : Int))])
     (fun (i : Nat) (z : MW) (y : RW) w => (i ≤ g.len ∧ z.ok ∧ MRel z.X y.Ls y.Qs ∧ z.X.G.length ≤ i ∧ y.Qs.length ≤ i ∧ z.Ma.length ≤ i) ∧ Hp w0 w [] ([.obj nb3 (mobj kT z.Mh z.c1), .obj nb4 (mobj kS z.Ma z.c2), .blk nb2 ([.map (some nb3), .map (some nb4)]) 54, .blk b5 ([.slice (hd y.a1) y.Ls.length y.c1, .slice (hd y.a2) y.Qs.length y.c2]) 46, .own y.a1 y.Ls.length y.c1 ((y.Ls).flatMap thgE) 93 34, .own y.a2 y.Qs.length y.c2 ((y.Qs).flatMap limE) 98 2]))
     (fun (i : Nat) (z : MW) (y : RW) => g.len - i) 0 MW.mt (⟨none, 0, none, 0, [], []⟩ : RW) ⟨rfl, rfl, rfl, rfl, trivial⟩ ⟨⟨Nat.zero_le _, MW.mt_ok, MRel.mt, Nat.le_refl _, Nat.le_refl _, Nat.le_refl _⟩, H⟩ ?_
   clear H
   rintro i z y τ w ⟨⟨hi, hz, hr, hb1, hb2, hb3⟩, H⟩
   repeat refine c_seq ?_
   refine c_region ?_
   refine l_op (o_val (r_mv) ?_)
   refine l_op (o_val (r_mv) ?_)
   refine l_op (o_val (r_lens el22 rfl) ?_)
   refine l_op (o_val (r_bin (a := (i : Int)) (b := (g.len : Int)) rfl rfl (fun _ => b_lss)) ?_)
   first | refine l_end ?_ | refine l_nil ?_
   by_cases hc6 : (i : Int) < (g.len : Int)
   ·
    repeat refine c_seq ?_
    refine c_yes (by exact congrArg Value.bool (decide_eq_true hc6)) ?_
    refine c_skip ?_
    repeat refine c_seq ?_
    refine c_block ?_
    repeat refine c_seq ?_
    refine c_region ?_
    refine l_op (o_val (r_mv) ?_)
    refine l_op (o_val (r_mv) ?_)
    have ah9 := ((hg.up H)).addr (by decide) (by first | omega | (dsimp only; omega))
    obtain ⟨ab7, ao8, ah9⟩ := ah9
    refine l_op (o_val (r_isN i rfl rfl el22 ah9 (by omega) (by (try simp only [Sl.cut]); omega)) ?_)
    have he11 : ∃ c, g.l[i]? = some c := ⟨_, List.getElem?_eq_getElem (by have := ((hg.up H)).ln; (try dsimp only at this ⊢); omega)⟩
    obtain ⟨e10, he11⟩ := he11
    have hez12 := ((hg.up H)).sz e10 (List.mem_of_getElem? he11)
    refine l_op (o_val (r_ldRow (s := g) (k := i) (hg.up H) ah9 rfl rt30 (by decide) he11) ?_)
    refine l_op (o_alloc H zc30 (fun b13 w H hb13 => ?_))
    replace H : Hp _ w _ ([_, _, _, _, _, _, .blk b13 ([VI 0, .string ⟨(([] : List UInt8)).toArray⟩, V8 (0 : UInt8), VI 0]) 30]) := H
    refine l_op (o_stW (C' := [VI e10.kind, .string ⟨(e10.who).toArray⟩, V8 e10.k, VI e10.n]) H (i := 6) rfl rfl rfl cs30 (by simp [Value.oneCell']) (by rfl) (by rfl) (fun w H => ?_))
    replace H : Hp _ w _ ([_, _, _, _, _, _, .blk b13 ([VI e10.kind, .string ⟨(e10.who).toArray⟩, V8 e10.k, VI e10.n]) 30]) := H
    first | refine l_end ?_ | refine l_nil ?_
    have hnb := hb _ (List.mem_of_getElem? he11)
    repeat refine c_seq ?_
    refine wp_held (fun w => Hp w0 w [] [.blk nb2 ([.map (some nb3), .map (some nb4)]) 54, .blk b13 ([VI e10.kind, .string ⟨(e10.who).toArray⟩, V8 e10.k, VI e10.n]) 30]) mixed ?_
    replace H := H.drew
    have HS := H.sub (.cons _ (.cons _ (.cons_cons _ (.cons _ (.cons _ (.cons _ (.cons_cons _ (List.nil_sublist _))))))))
    refine t_take 0 rfl (by kernel_rfl) (by kernel_rfl) (by kernel_rfl) (fun _ _ _ h => h) (fun w HS => r_mv) HS ?_
    refine t_take 1 rfl (by kernel_rfl) (by kernel_rfl) (by kernel_rfl) (fun _ _ _ h => h) (fun w HS => r_mv) HS ?_
    refine t_take 2 rfl (by kernel_rfl) (by kernel_rfl) (by kernel_rfl) (fun _ _ _ h => h) (fun w HS => r_ldA (C := [VI e10.kind, .string ⟨(e10.who).toArray⟩, V8 e10.k, VI e10.n]) HS (i := 1) rfl rfl rt30 (by rfl)) HS ?_
    refine t_step 3 rfl (by kernel_rfl) (o_callR Try.func21 rfl rfl rfl (do_ret _ nb2 nb3 nb4 b5 z y (H.ownP (LL := [.blk nb2 ([.map (some nb3), .map (some nb4)]) 54, .obj nb3 (mobj kT z.Mh z.c1), .obj nb4 (mobj kS z.Ma z.c2), .blk b5 ([.slice (hd y.a1) y.Ls.length y.c1, .slice (hd y.a2) y.Qs.length y.c2]) 46, .own y.a1 y.Ls.length y.c1 ((y.Ls).flatMap thgE) 93 34, .own y.a2 y.Qs.length y.c2 ((y.Qs).flatMap limE) 98 2, .blk b13 ([VI e10.kind, .string ⟨(e10.who).toArray⟩, V8 e10.k, VI e10.n]) 30]) (L1 := [.blk nb2 ([.map (some nb3), .map (some nb4)]) 54, .obj nb3 (mobj kT z.Mh z.c1), .obj nb4 (mobj kS z.Ma z.c2), .blk b5 ([.slice (hd y.a1) y.Ls.length y.c1, .slice (hd y.a2) y.Qs.length y.c2]) 46, .own y.a1 y.Ls.length y.c1 ((y.Ls).flatMap thgE) 93 34, .own y.a2 y.Qs.length y.c2 ((y.Qs).flatMap limE) 98 2]) (Lr := [.blk b13 ([VI e10.kind, .string ⟨(e10.who).toArray⟩, V8 e10.k, VI e10.n]) 30]) ((perm_front (j := 2) rfl).trans (.cons _ (.refl _))) rfl) hz hr (by omega) (by omega) e10 (by assumption)) ?_)
    rintro _ w ⟨rfl, z14, y15, hzo16, hre17, hla18, hlb19, hlc20, Hc⟩
    replace H := H.callP (L1 := [.blk nb2 ([.map (some nb3), .map (some nb4)]) 54, .obj nb3 (mobj kT z.Mh z.c1), .obj nb4 (mobj kS z.Ma z.c2), .blk b5 ([.slice (hd y.a1) y.Ls.length y.c1, .slice (hd y.a2) y.Qs.length y.c2]) 46, .own y.a1 y.Ls.length y.c1 ((y.Ls).flatMap thgE) 93 34, .own y.a2 y.Qs.length y.c2 ((y.Qs).flatMap limE) 98 2]) (Lr := [.blk b13 ([VI e10.kind, .string ⟨(e10.who).toArray⟩, V8 e10.k, VI e10.n]) 30]) (LL := [.blk nb2 ([.map (some nb3), .map (some nb4)]) 54, .obj nb3 (mobj kT z.Mh z.c1), .obj nb4 (mobj kS z.Ma z.c2), .blk b5 ([.slice (hd y.a1) y.Ls.length y.c1, .slice (hd y.a2) y.Qs.length y.c2]) 46, .own y.a1 y.Ls.length y.c1 ((y.Ls).flatMap thgE) 93 34, .own y.a2 y.Qs.length y.c2 ((y.Qs).flatMap limE) 98 2, .blk b13 ([VI e10.kind, .string ⟨(e10.who).toArray⟩, V8 e10.k, VI e10.n]) 30]) ((perm_front (j := 2) rfl).trans (.cons _ (.refl _))) rfl Hc ((perm_front (j := 2) rfl).trans (.cons _ ((perm_front (j := 2) rfl).trans (.cons _ ((perm_front (j := 1) rfl).trans (.cons _ ((perm_front (j := 1) rfl).trans (.cons _ ((perm_front (j := 1) rfl).trans (.cons _ ((perm_front (j := 1) rfl).trans (.cons _ (.refl _)))))))))))))
    clear Hc
    replace H : Hp _ w _ ([.obj nb3 (mobj kT z14.Mh z14.c1), .obj nb4 (mobj kS z14.Ma z14.c2), _, .blk b5 ([.slice (hd y15.a1) y15.Ls.length y15.c1, .slice (hd y15.a2) y15.Qs.length y15.c2]) 46, .own y15.a1 y15.Ls.length y15.c1 ((y15.Ls).flatMap thgE) 93 34, .own y15.a2 y15.Qs.length y15.c2 ((y15.Qs).flatMap limE) 98 2, _]) := H
    have hre17l := hre17.p.length_eq
    refine ⟨H.sub (.cons _ (.cons _ (.cons_cons _ (.cons _ (.cons _ (.cons _ (.cons_cons _ (List.nil_sublist _)))))))), ?_⟩
    replace HS := H.sub (.cons _ (.cons _ (.cons_cons _ (.cons _ (.cons _ (.cons _ (.cons_cons _ (List.nil_sublist _))))))))
    refine t_take 4 rfl (by kernel_rfl) (by kernel_rfl) (by kernel_rfl) (fun _ _ _ h => h) (fun w HS => r_not rfl) HS ?_
    refine t_take 5 rfl (by kernel_rfl) (by kernel_rfl) (by kernel_rfl) (fun _ _ _ h => h) (fun w HS => r_mv) HS ?_
    refine t_takeg 6 rfl (by kernel_rfl) (by kernel_rfl) (by kernel_rfl) (fun _ _ _ h => h) (yielded_mk _ _ _ rfl _ rfl rfl) (fun w HS => r_mv) HS ?_
    refine t_takeg 7 rfl (by kernel_rfl) (by kernel_rfl) (by kernel_rfl) (fun _ _ _ h => h) (yielded_mk _ _ _ rfl _ rfl rfl) (fun w HS => r_fa rfl fo30_1) HS ?_
    refine t_takeg 8 rfl (by kernel_rfl) (by kernel_rfl) (by kernel_rfl) (fun _ _ _ h => h) (yielded_mk _ _ _ rfl _ rfl rfl) (fun w HS => r_ld (v := .string ⟨(e10.who).toArray⟩) HS (i := 1) rfl rfl ct9 rfl) HS ?_
    refine t_takeg 10 rfl (by kernel_rfl) (by kernel_rfl) (by kernel_rfl) (fun _ _ _ h => h) (yielded_mk _ _ _ rfl _ rfl rfl) (fun w HS => r_mv) HS ?_
    refine t_takeg 11 rfl (by kernel_rfl) (by kernel_rfl) (by kernel_rfl) (fun _ _ _ h => h) (yielded_mk _ _ _ rfl _ rfl rfl) (fun w HS => r_fa rfl fo30_1) HS ?_
    refine t_takeg 12 rfl (by kernel_rfl) (by kernel_rfl) (by kernel_rfl) (fun _ _ _ h => h) (yielded_mk _ _ _ rfl _ rfl rfl) (fun w HS => r_ld (v := .string ⟨(e10.who).toArray⟩) HS (i := 1) rfl rfl ct9 rfl) HS ?_
    refine t_stepg 9 rfl (by kernel_rfl) (yielded_mk _ _ _ rfl _ rfl rfl) (o_callR Try.func20 rfl rfl rfl (mused_ret _ _ _ _ _ _ _ _ (look z14.X.G) z14.X.A (mst_of H (i := 2) (j := 0) (k := 1) rfl rfl rfl (by decide) (by decide) (by decide) hzo16.fh hzo16.fa hzo16.oh hzo16.oa) e10.who) ?_)
    rintro _ w ⟨rfl, Hc⟩
    replace H := (met_same H (i := 2) (j := 0) (k := 1) rfl rfl rfl (by decide) (by decide) (by decide) Hc)
    clear Hc
    replace H : Hp _ w _ [_, _, _, _, _, _, _] := H
    refine ⟨H.sub (.cons _ (.cons _ (.cons_cons _ (.cons _ (.cons _ (.cons _ (.cons_cons _ (List.nil_sublist _)))))))), ?_⟩
    replace HS := H.sub (.cons _ (.cons _ (.cons_cons _ (.cons _ (.cons _ (.cons _ (.cons_cons _ (List.nil_sublist _))))))))
    refine t_stepg 13 rfl (by kernel_rfl) (yielded_mk _ _ _ rfl _ rfl rfl) (o_callR Try.func22 rfl rfl rfl (usedR_ret _ b5 y15 (H.ownP (LL := [.blk b5 ([.slice (hd y15.a1) y15.Ls.length y15.c1, .slice (hd y15.a2) y15.Qs.length y15.c2]) 46, .own y15.a1 y15.Ls.length y15.c1 ((y15.Ls).flatMap thgE) 93 34, .own y15.a2 y15.Qs.length y15.c2 ((y15.Qs).flatMap limE) 98 2, .obj nb3 (mobj kT z14.Mh z14.c1), .obj nb4 (mobj kS z14.Ma z14.c2), .blk nb2 ([.map (some nb3), .map (some nb4)]) 54, .blk b13 ([VI e10.kind, .string ⟨(e10.who).toArray⟩, V8 e10.k, VI e10.n]) 30]) (L1 := [.blk b5 ([.slice (hd y15.a1) y15.Ls.length y15.c1, .slice (hd y15.a2) y15.Qs.length y15.c2]) 46, .own y15.a1 y15.Ls.length y15.c1 ((y15.Ls).flatMap thgE) 93 34, .own y15.a2 y15.Qs.length y15.c2 ((y15.Qs).flatMap limE) 98 2]) (Lr := [.obj nb3 (mobj kT z14.Mh z14.c1), .obj nb4 (mobj kS z14.Ma z14.c2), .blk nb2 ([.map (some nb3), .map (some nb4)]) 54, .blk b13 ([VI e10.kind, .string ⟨(e10.who).toArray⟩, V8 e10.k, VI e10.n]) 30]) ((perm_front (j := 3) rfl).trans (.cons _ ((perm_front (j := 3) rfl).trans (.cons _ ((perm_front (j := 3) rfl).trans (.cons _ (.refl _))))))) rfl) (by first | assumption | omega) (by first | assumption | omega) (hre17.nn hzo16.inv) e10.who (by rw [hre17.sum hzo16.inv]; exact (hzo16.inv.u _).2)) ?_)
    rintro _ w ⟨rfl, Hc⟩
    replace H := H.callP (L1 := [.blk b5 ([.slice (hd y15.a1) y15.Ls.length y15.c1, .slice (hd y15.a2) y15.Qs.length y15.c2]) 46, .own y15.a1 y15.Ls.length y15.c1 ((y15.Ls).flatMap thgE) 93 34, .own y15.a2 y15.Qs.length y15.c2 ((y15.Qs).flatMap limE) 98 2]) (Lr := [.obj nb3 (mobj kT z14.Mh z14.c1), .obj nb4 (mobj kS z14.Ma z14.c2), .blk nb2 ([.map (some nb3), .map (some nb4)]) 54, .blk b13 ([VI e10.kind, .string ⟨(e10.who).toArray⟩, V8 e10.k, VI e10.n]) 30]) (LL := [.blk b5 ([.slice (hd y15.a1) y15.Ls.length y15.c1, .slice (hd y15.a2) y15.Qs.length y15.c2]) 46, .own y15.a1 y15.Ls.length y15.c1 ((y15.Ls).flatMap thgE) 93 34, .own y15.a2 y15.Qs.length y15.c2 ((y15.Qs).flatMap limE) 98 2, .obj nb3 (mobj kT z14.Mh z14.c1), .obj nb4 (mobj kS z14.Ma z14.c2), .blk nb2 ([.map (some nb3), .map (some nb4)]) 54, .blk b13 ([VI e10.kind, .string ⟨(e10.who).toArray⟩, V8 e10.k, VI e10.n]) 30]) ((perm_front (j := 3) rfl).trans (.cons _ ((perm_front (j := 3) rfl).trans (.cons _ ((perm_front (j := 3) rfl).trans (.cons _ (.refl _))))))) rfl Hc ((perm_front (j := 0) rfl).trans (.cons _ ((perm_front (j := 0) rfl).trans (.cons _ ((perm_front (j := 0) rfl).trans (.cons _ ((perm_front (j := 1) rfl).trans (.cons _ ((perm_front (j := 1) rfl).trans (.cons _ ((perm_front (j := 1) rfl).trans (.cons _ (.refl _)))))))))))))
    clear Hc
    replace H : Hp _ w _ [_, _, _, _, _, _, _] := H
    refine ⟨H.sub (.cons _ (.cons _ (.cons_cons _ (.cons _ (.cons _ (.cons _ (.cons_cons _ (List.nil_sublist _)))))))), ?_⟩
    replace HS := H.sub (.cons _ (.cons _ (.cons_cons _ (.cons _ (.cons _ (.cons _ (.cons_cons _ (List.nil_sublist _))))))))
    refine t_takeg 14 rfl (by kernel_rfl) (by kernel_rfl) (by kernel_rfl) (fun _ _ _ h => h) (yielded_mk _ _ _ rfl _ rfl rfl) (fun w HS => r_bin (a := (z14.X.acc e10.who).used) (b := sumT e10.who y15.Ls) rfl rfl (fun _ => b_neqB false (decide_eq_false (fun hne => hne (hre17.sum hzo16.inv _).symm)))) HS ?_
    refine t_take 15 rfl (by kernel_rfl) (by kernel_rfl) (by kernel_rfl) (fun _ _ _ h => h) (fun w HS => r_pick rfl) HS ?_
    refine t_take 16 rfl (by kernel_rfl) (by kernel_rfl) (by kernel_rfl) (fun _ _ _ h => h) (fun w HS => r_mv) HS ?_
    refine t_takeg 17 rfl (by kernel_rfl) (by kernel_rfl) (by kernel_rfl) (fun _ _ _ h => h) (yielded_mk _ _ _ rfl _ rfl rfl) (fun w HS => r_mv) HS ?_
    refine t_takeg 18 rfl (by kernel_rfl) (by kernel_rfl) (by kernel_rfl) (fun _ _ _ h => h) (yielded_mk _ _ _ rfl _ rfl rfl) (fun w HS => r_fa rfl fo30_1) HS ?_
    refine t_takeg 19 rfl (by kernel_rfl) (by kernel_rfl) (by kernel_rfl) (fun _ _ _ h => h) (yielded_mk _ _ _ rfl _ rfl rfl) (fun w HS => r_ld (v := .string ⟨(e10.who).toArray⟩) HS (i := 1) rfl rfl ct9 rfl) HS ?_
    refine t_takeg 20 rfl (by kernel_rfl) (by kernel_rfl) (by kernel_rfl) (fun _ _ _ h => h) (yielded_mk _ _ _ rfl _ rfl rfl) (fun w HS => r_fa rfl fo30_2) HS ?_
    refine t_takeg 21 rfl (by kernel_rfl) (by kernel_rfl) (by kernel_rfl) (fun _ _ _ h => h) (yielded_mk _ _ _ rfl _ rfl rfl) (fun w HS => r_ld (v := V8 e10.k) HS (i := 1) rfl rfl ct5 rfl) HS ?_
    refine t_takeg 22 rfl (by kernel_rfl) (by kernel_rfl) (by kernel_rfl) (fun _ _ _ h => h) (yielded_mk _ _ _ rfl _ rfl rfl) (fun w HS => r_bld' (cells := (((e10.k :: List.replicate 31 (0 : UInt8))).map V8).toArray) (pv := [(0, V8 e10.k)]) bd36 rfl rfl) HS ?_
    refine t_takeg 24 rfl (by kernel_rfl) (by kernel_rfl) (by kernel_rfl) (fun _ _ _ h => h) (yielded_mk _ _ _ rfl _ rfl rfl) (fun w HS => r_mv) HS ?_
    refine t_takeg 25 rfl (by kernel_rfl) (by kernel_rfl) (by kernel_rfl) (fun _ _ _ h => h) (yielded_mk _ _ _ rfl _ rfl rfl) (fun w HS => r_fa rfl fo30_1) HS ?_
    refine t_takeg 26 rfl (by kernel_rfl) (by kernel_rfl) (by kernel_rfl) (fun _ _ _ h => h) (yielded_mk _ _ _ rfl _ rfl rfl) (fun w HS => r_ld (v := .string ⟨(e10.who).toArray⟩) HS (i := 1) rfl rfl ct9 rfl) HS ?_
    refine t_takeg 27 rfl (by kernel_rfl) (by kernel_rfl) (by kernel_rfl) (fun _ _ _ h => h) (yielded_mk _ _ _ rfl _ rfl rfl) (fun w HS => r_fa rfl fo30_2) HS ?_
    refine t_takeg 28 rfl (by kernel_rfl) (by kernel_rfl) (by kernel_rfl) (fun _ _ _ h => h) (yielded_mk _ _ _ rfl _ rfl rfl) (fun w HS => r_ld (v := V8 e10.k) HS (i := 1) rfl rfl ct5 rfl) HS ?_
    refine t_takeg 29 rfl (by kernel_rfl) (by kernel_rfl) (by kernel_rfl) (fun _ _ _ h => h) (yielded_mk _ _ _ rfl _ rfl rfl) (fun w HS => r_bld' (cells := (((e10.k :: List.replicate 31 (0 : UInt8))).map V8).toArray) (pv := [(0, V8 e10.k)]) bd36 rfl rfl) HS ?_
    refine t_stepg 23 rfl (by kernel_rfl) (yielded_mk _ _ _ rfl _ rfl rfl) (o_callR Try.func23 rfl rfl rfl (mhas_ret _ _ _ _ _ _ _ _ (look z14.X.G) z14.X.A (mst_of H (i := 2) (j := 0) (k := 1) rfl rfl rfl (by decide) (by decide) (by decide) hzo16.fh hzo16.fa hzo16.oh hzo16.oa) e10.who (idB e10.k).1 (idB e10.k).2) ?_)
    rintro _ w ⟨rfl, Hc⟩
    replace H := (met_same H (i := 2) (j := 0) (k := 1) rfl rfl rfl (by decide) (by decide) (by decide) Hc)
    clear Hc
    replace H : Hp _ w _ [_, _, _, _, _, _, _] := H
    refine ⟨H.sub (.cons _ (.cons _ (.cons_cons _ (.cons _ (.cons _ (.cons _ (.cons_cons _ (List.nil_sublist _)))))))), ?_⟩
    replace HS := H.sub (.cons _ (.cons _ (.cons_cons _ (.cons _ (.cons _ (.cons _ (.cons_cons _ (List.nil_sublist _))))))))
    refine t_stepg 30 rfl (by kernel_rfl) (yielded_mk _ _ _ rfl _ rfl rfl) (o_callR Try.func24 rfl rfl rfl (hasR_ret _ b5 y15 (H.ownP (LL := [.blk b5 ([.slice (hd y15.a1) y15.Ls.length y15.c1, .slice (hd y15.a2) y15.Qs.length y15.c2]) 46, .own y15.a1 y15.Ls.length y15.c1 ((y15.Ls).flatMap thgE) 93 34, .own y15.a2 y15.Qs.length y15.c2 ((y15.Qs).flatMap limE) 98 2, .obj nb3 (mobj kT z14.Mh z14.c1), .obj nb4 (mobj kS z14.Ma z14.c2), .blk nb2 ([.map (some nb3), .map (some nb4)]) 54, .blk b13 ([VI e10.kind, .string ⟨(e10.who).toArray⟩, V8 e10.k, VI e10.n]) 30]) (L1 := [.blk b5 ([.slice (hd y15.a1) y15.Ls.length y15.c1, .slice (hd y15.a2) y15.Qs.length y15.c2]) 46, .own y15.a1 y15.Ls.length y15.c1 ((y15.Ls).flatMap thgE) 93 34, .own y15.a2 y15.Qs.length y15.c2 ((y15.Qs).flatMap limE) 98 2]) (Lr := [.obj nb3 (mobj kT z14.Mh z14.c1), .obj nb4 (mobj kS z14.Ma z14.c2), .blk nb2 ([.map (some nb3), .map (some nb4)]) 54, .blk b13 ([VI e10.kind, .string ⟨(e10.who).toArray⟩, V8 e10.k, VI e10.n]) 30]) ((perm_front (j := 3) rfl).trans (.cons _ ((perm_front (j := 3) rfl).trans (.cons _ ((perm_front (j := 3) rfl).trans (.cons _ (.refl _))))))) rfl) (by first | assumption | omega) (by first | assumption | omega) e10.who (idB e10.k).1 (idB e10.k).2) ?_)
    rintro _ w ⟨rfl, Hc⟩
    replace H := H.callP (L1 := [.blk b5 ([.slice (hd y15.a1) y15.Ls.length y15.c1, .slice (hd y15.a2) y15.Qs.length y15.c2]) 46, .own y15.a1 y15.Ls.length y15.c1 ((y15.Ls).flatMap thgE) 93 34, .own y15.a2 y15.Qs.length y15.c2 ((y15.Qs).flatMap limE) 98 2]) (Lr := [.obj nb3 (mobj kT z14.Mh z14.c1), .obj nb4 (mobj kS z14.Ma z14.c2), .blk nb2 ([.map (some nb3), .map (some nb4)]) 54, .blk b13 ([VI e10.kind, .string ⟨(e10.who).toArray⟩, V8 e10.k, VI e10.n]) 30]) (LL := [.blk b5 ([.slice (hd y15.a1) y15.Ls.length y15.c1, .slice (hd y15.a2) y15.Qs.length y15.c2]) 46, .own y15.a1 y15.Ls.length y15.c1 ((y15.Ls).flatMap thgE) 93 34, .own y15.a2 y15.Qs.length y15.c2 ((y15.Qs).flatMap limE) 98 2, .obj nb3 (mobj kT z14.Mh z14.c1), .obj nb4 (mobj kS z14.Ma z14.c2), .blk nb2 ([.map (some nb3), .map (some nb4)]) 54, .blk b13 ([VI e10.kind, .string ⟨(e10.who).toArray⟩, V8 e10.k, VI e10.n]) 30]) ((perm_front (j := 3) rfl).trans (.cons _ ((perm_front (j := 3) rfl).trans (.cons _ ((perm_front (j := 3) rfl).trans (.cons _ (.refl _))))))) rfl Hc ((perm_front (j := 0) rfl).trans (.cons _ ((perm_front (j := 0) rfl).trans (.cons _ ((perm_front (j := 0) rfl).trans (.cons _ ((perm_front (j := 1) rfl).trans (.cons _ ((perm_front (j := 1) rfl).trans (.cons _ ((perm_front (j := 1) rfl).trans (.cons _ (.refl _)))))))))))))
    clear Hc
    replace H : Hp _ w _ [_, _, _, _, _, _, _] := H
    refine ⟨H.sub (.cons _ (.cons _ (.cons_cons _ (.cons _ (.cons _ (.cons _ (.cons_cons _ (List.nil_sublist _)))))))), ?_⟩
    replace HS := H.sub (.cons _ (.cons _ (.cons_cons _ (.cons _ (.cons _ (.cons _ (.cons_cons _ (List.nil_sublist _))))))))
    refine t_takeg 31 rfl (by kernel_rfl) (by kernel_rfl) (by kernel_rfl) (fun _ _ _ h => h) (yielded_mk _ _ _ rfl _ rfl rfl) (fun w HS => r_bne Try.underlying4 rfl rfl) HS ?_
    have hk21 : (!(((look z14.X.G (e10.who, (idB e10.k))).isSome) == ((look y15.Ls (e10.who, (idB e10.k))).isSome))) = false := (by rw [hre17.look hzo16.inv]; simp)
    refine t_take 32 rfl (by kernel_rfl) (by kernel_rfl) (by kernel_rfl) (fun _ _ _ h => h) (fun w HS => r_pick rfl) HS ?_
    refine t_done (by kernel_rfl) ?_
    clear HS
    repeat refine c_seq ?_
    refine c_no (by exact congrArg Value.bool hk21) ?_
    refine c_skip ?_
    repeat refine c_seq ?_
    refine c_region ?_
    refine l_op (o_val (r_mv) ?_)
    refine l_op (o_callR Try.func25 rfl rfl rfl (mten_ret _ _ _ _ _ _ _ _ (look z14.X.G) z14.X.A (mst_of H (i := 2) (j := 0) (k := 1) rfl rfl rfl (by decide) (by decide) (by decide) hzo16.fh hzo16.fa hzo16.oh hzo16.oa) (by omega)) ?_)
    rintro _ w ⟨tR22, a23, c24, hT25, rfl, Hc⟩
    replace H := H.callP (L1 := [.blk nb2 ([.map (some nb3), .map (some nb4)]) 54, .obj nb3 (mobj kT z14.Mh z14.c1), .obj nb4 (mobj kS z14.Ma z14.c2)]) (Lr := [.blk b5 ([.slice (hd y15.a1) y15.Ls.length y15.c1, .slice (hd y15.a2) y15.Qs.length y15.c2]) 46, .own y15.a1 y15.Ls.length y15.c1 ((y15.Ls).flatMap thgE) 93 34, .own y15.a2 y15.Qs.length y15.c2 ((y15.Qs).flatMap limE) 98 2, .blk b13 ([VI e10.kind, .string ⟨(e10.who).toArray⟩, V8 e10.k, VI e10.n]) 30]) (LL := [.blk nb2 ([.map (some nb3), .map (some nb4)]) 54, .obj nb3 (mobj kT z14.Mh z14.c1), .obj nb4 (mobj kS z14.Ma z14.c2), .blk b5 ([.slice (hd y15.a1) y15.Ls.length y15.c1, .slice (hd y15.a2) y15.Qs.length y15.c2]) 46, .own y15.a1 y15.Ls.length y15.c1 ((y15.Ls).flatMap thgE) 93 34, .own y15.a2 y15.Qs.length y15.c2 ((y15.Qs).flatMap limE) 98 2, .blk b13 ([VI e10.kind, .string ⟨(e10.who).toArray⟩, V8 e10.k, VI e10.n]) 30]) ((perm_front (j := 2) rfl).trans (.cons _ (.refl _))) rfl Hc ((perm_front (j := 5) rfl).trans (.cons _ ((perm_front (j := 5) rfl).trans (.cons _ ((perm_front (j := 4) rfl).trans (.cons _ (.refl _)))))))
    clear Hc
    replace H : Hp _ w _ ([_, _, _, _, _, _, _, .own a23 tR22.length c24 ((tR22).flatMap strE) 9 1]) := H
    refine l_op (o_val (r_mv) ?_)
    refine l_op (o_callR Try.func26 rfl rfl rfl (tenR_ret _ b5 y15 (H.ownP (LL := [.blk b5 ([.slice (hd y15.a1) y15.Ls.length y15.c1, .slice (hd y15.a2) y15.Qs.length y15.c2]) 46, .own y15.a1 y15.Ls.length y15.c1 ((y15.Ls).flatMap thgE) 93 34, .own y15.a2 y15.Qs.length y15.c2 ((y15.Qs).flatMap limE) 98 2, .obj nb3 (mobj kT z14.Mh z14.c1), .obj nb4 (mobj kS z14.Ma z14.c2), .blk nb2 ([.map (some nb3), .map (some nb4)]) 54, .blk b13 ([VI e10.kind, .string ⟨(e10.who).toArray⟩, V8 e10.k, VI e10.n]) 30, .own a23 tR22.length c24 ((tR22).flatMap strE) 9 1]) (L1 := [.blk b5 ([.slice (hd y15.a1) y15.Ls.length y15.c1, .slice (hd y15.a2) y15.Qs.length y15.c2]) 46, .own y15.a1 y15.Ls.length y15.c1 ((y15.Ls).flatMap thgE) 93 34, .own y15.a2 y15.Qs.length y15.c2 ((y15.Qs).flatMap limE) 98 2]) (Lr := [.obj nb3 (mobj kT z14.Mh z14.c1), .obj nb4 (mobj kS z14.Ma z14.c2), .blk nb2 ([.map (some nb3), .map (some nb4)]) 54, .blk b13 ([VI e10.kind, .string ⟨(e10.who).toArray⟩, V8 e10.k, VI e10.n]) 30, .own a23 tR22.length c24 ((tR22).flatMap strE) 9 1]) ((perm_front (j := 3) rfl).trans (.cons _ ((perm_front (j := 3) rfl).trans (.cons _ ((perm_front (j := 3) rfl).trans (.cons _ (.refl _))))))) rfl) (by first | assumption | omega) (by first | assumption | omega)) ?_)
    rintro _ w ⟨a26, c27, rfl, Hc⟩
    replace H := H.callP (L1 := [.blk b5 ([.slice (hd y15.a1) y15.Ls.length y15.c1, .slice (hd y15.a2) y15.Qs.length y15.c2]) 46, .own y15.a1 y15.Ls.length y15.c1 ((y15.Ls).flatMap thgE) 93 34, .own y15.a2 y15.Qs.length y15.c2 ((y15.Qs).flatMap limE) 98 2]) (Lr := [.obj nb3 (mobj kT z14.Mh z14.c1), .obj nb4 (mobj kS z14.Ma z14.c2), .blk nb2 ([.map (some nb3), .map (some nb4)]) 54, .blk b13 ([VI e10.kind, .string ⟨(e10.who).toArray⟩, V8 e10.k, VI e10.n]) 30, .own a23 tR22.length c24 ((tR22).flatMap strE) 9 1]) (LL := [.blk b5 ([.slice (hd y15.a1) y15.Ls.length y15.c1, .slice (hd y15.a2) y15.Qs.length y15.c2]) 46, .own y15.a1 y15.Ls.length y15.c1 ((y15.Ls).flatMap thgE) 93 34, .own y15.a2 y15.Qs.length y15.c2 ((y15.Qs).flatMap limE) 98 2, .obj nb3 (mobj kT z14.Mh z14.c1), .obj nb4 (mobj kS z14.Ma z14.c2), .blk nb2 ([.map (some nb3), .map (some nb4)]) 54, .blk b13 ([VI e10.kind, .string ⟨(e10.who).toArray⟩, V8 e10.k, VI e10.n]) 30, .own a23 tR22.length c24 ((tR22).flatMap strE) 9 1]) ((perm_front (j := 3) rfl).trans (.cons _ ((perm_front (j := 3) rfl).trans (.cons _ ((perm_front (j := 3) rfl).trans (.cons _ (.refl _))))))) rfl Hc ((perm_front (j := 0) rfl).trans (.cons _ ((perm_front (j := 0) rfl).trans (.cons _ ((perm_front (j := 0) rfl).trans (.cons _ ((perm_front (j := 2) rfl).trans (.cons _ ((perm_front (j := 2) rfl).trans (.cons _ ((perm_front (j := 2) rfl).trans (.cons _ (.refl _)))))))))))))
    clear Hc
    replace H : Hp _ w _ ([_, _, _, _, _, _, _, _, .own a26 ((tenQ (tenL y15.Ls) y15.Qs).length) c27 ((tenQ (tenL y15.Ls) y15.Qs).flatMap strE) 9 1]) := H
    refine l_op (o_val (r_as) ?_)
    refine l_op (o_val (r_as) ?_)
    first | refine l_end ?_ | refine l_nil ?_
    have hR28 : tR22 = tenQ (tenL y15.Ls) y15.Qs := hre17.ten hzo16.inv hT25
    rw [hR28] at H ⊢
    replace H : Hp _ w _ ([_, _, _, _, _, _, _, .own a23 ((tenQ (tenL y15.Ls) y15.Qs).length) c24 ((tenQ (tenL y15.Ls) y15.Qs).flatMap strE) 9 1, _]) := H
    have htq := tenQ_len (tenL y15.Ls) y15.Qs
    have htl := tenL_len y15.Ls
    have hlp := hre17.p.length_eq
    repeat refine c_seq ?_
    refine c_region ?_
    refine l_op (o_val (r_mv) ?_)
    refine l_op (o_val (r_lens el49 rfl) ?_)
    refine l_op (o_val (r_mv) ?_)
    refine l_op (o_val (r_lens el49 rfl) ?_)
    refine l_op (o_val (r_bin (a := (((tenQ (tenL y15.Ls) y15.Qs).length : Nat) : Int)) (b := (((tenQ (tenL y15.Ls) y15.Qs).length : Nat) : Int)) rfl rfl (fun _ => b_neqB false (decide_eq_false (fun h => h rfl)))) ?_)
    first | refine l_end ?_ | refine l_nil ?_
    repeat refine c_seq ?_
    refine c_no rfl ?_
    refine c_skip ?_
    repeat refine c_seq ?_
    refine c_region ?_
    refine l_op (o_val (r_as) ?_)
    first | refine l_end ?_ | refine l_nil ?_
    repeat refine c_seq ?_
    refine c_block ?_
    repeat refine c_seq ?_
    refine c_loop (fun (k : Nat) => [(0, g.v), (3, .pointer (some ⟨nb2, 0, none⟩)), (4, .pointer (some ⟨b5, 0, none⟩)), (5, VI (i : Int)), (7, .slice (hd a23) ((tenQ (tenL y15.Ls) y15.Qs).length) c24), (8, .slice (hd a26) ((tenQ (tenL y15.Ls) y15.Qs).length) c27), (9, VI (k : Int))])
      (fun (k : Nat) w => (k ≤ (tenQ (tenL y15.Ls) y15.Qs).length) ∧ Hp w0 w [] ([.obj nb3 (mobj kT z14.Mh z14.c1), .obj nb4 (mobj kS z14.Ma z14.c2), .blk nb2 ([.map (some nb3), .map (some nb4)]) 54, .blk b5 ([.slice (hd y15.a1) y15.Ls.length y15.c1, .slice (hd y15.a2) y15.Qs.length y15.c2]) 46, .own y15.a1 y15.Ls.length y15.c1 ((y15.Ls).flatMap thgE) 93 34, .own y15.a2 y15.Qs.length y15.c2 ((y15.Qs).flatMap limE) 98 2, .blk b13 ([VI e10.kind, .string ⟨(e10.who).toArray⟩, V8 e10.k, VI e10.n]) 30, .own a23 ((tenQ (tenL y15.Ls) y15.Qs).length) c24 ((List.replicate k [63] ++ (tenQ (tenL y15.Ls) y15.Qs).drop k).flatMap strE) 9 1, .own a26 ((tenQ (tenL y15.Ls) y15.Qs).length) c27 ((tenQ (tenL y15.Ls) y15.Qs).flatMap strE) 9 1]))
      (fun (k : Nat) => (tenQ (tenL y15.Ls) y15.Qs).length - k) 0 ⟨rfl, rfl, rfl, rfl, rfl, rfl, rfl, trivial⟩ ⟨Nat.zero_le _, H⟩ ?_
    clear H
    rintro k τ w ⟨hk, H⟩
    repeat refine c_seq ?_
    refine c_region ?_
    refine l_op (o_val (r_mv) ?_)
    refine l_op (o_val (r_mv) ?_)
    refine l_op (o_val (r_lens el49 rfl) ?_)
    refine l_op (o_val (r_bin (a := (k : Int)) (b := (((tenQ (tenL y15.Ls) y15.Qs).length : Nat) : Int)) rfl rfl (fun _ => b_lss)) ?_)
    first | refine l_end ?_ | refine l_nil ?_
    by_cases hc29 : (k : Int) < (((tenQ (tenL y15.Ls) y15.Qs).length : Nat) : Int)
    ·
     repeat refine c_seq ?_
     refine c_yes (by exact congrArg Value.bool (decide_eq_true hc29)) ?_
     refine c_skip ?_
     repeat refine c_seq ?_
     refine c_block ?_
     repeat refine c_seq ?_
     refine c_still mixed (by kernel_rfl) ?_
     replace H := H.drew
     refine s_op (r_mv) ?_
     refine s_op (r_mv) ?_
     have ah31 := H.ownAddr (i := 7) rfl (by omega)
     obtain ⟨ab30, ah31⟩ := ah31
     refine s_op (r_isN k rfl rfl el49 ah31 (by omega) (by (try simp only [Sl.cut]); omega)) ?_
     have he33 : ∃ c, (List.replicate k [63] ++ (tenQ (tenL y15.Ls) y15.Qs).drop k)[k]? = some c := ⟨_, List.getElem?_eq_getElem (by have := ((H.glOwn (i := 7) rfl (by decide) (fun _ _ => rfl))).ln; (try dsimp only at this ⊢); omega)⟩
     obtain ⟨e32, he33⟩ := he33
     have hez34 := ((H.glOwn (i := 7) rfl (by decide) (fun _ _ => rfl))).sz e32 (List.mem_of_getElem? he33)
     refine s_op (r_gc (v := .string ⟨(e32).toArray⟩) (s := (⟨hd a23, (tenQ (tenL y15.Ls) y15.Qs).length, c24, List.replicate k [63] ++ (tenQ (tenL y15.Ls) y15.Qs).drop k⟩ : Gl (List UInt8))) (j := k) (H.glOwn (i := 7) rfl (by decide) (fun _ _ => rfl)) ah31 rfl ct9 he33 rfl) ?_
     refine s_op (r_mv) ?_
     refine s_op (r_mv) ?_
     have ah36 := H.ownAddr (i := 8) rfl (by omega)
     obtain ⟨ab35, ah36⟩ := ah36
     refine s_op (r_isN k rfl rfl el49 ah36 (by omega) (by (try simp only [Sl.cut]); omega)) ?_
     have he38 : ∃ c, (tenQ (tenL y15.Ls) y15.Qs)[k]? = some c := ⟨_, List.getElem?_eq_getElem (by have := ((H.glOwn (i := 8) rfl (by decide) (fun _ _ => rfl))).ln; (try dsimp only at this ⊢); omega)⟩
     obtain ⟨e37, he38⟩ := he38
     have hez39 := ((H.glOwn (i := 8) rfl (by decide) (fun _ _ => rfl))).sz e37 (List.mem_of_getElem? he38)
     refine s_op (r_gc (v := .string ⟨(e37).toArray⟩) (s := (⟨hd a26, (tenQ (tenL y15.Ls) y15.Qs).length, c27, tenQ (tenL y15.Ls) y15.Qs⟩ : Gl (List UInt8))) (j := k) (H.glOwn (i := 8) rfl (by decide) (fun _ _ => rfl)) ah36 rfl ct9 he38 rfl) ?_
     refine s_op (r_strne (a := e32) (b := e37) rfl rfl) ?_
     have hk40 : (!(decide (e32 = e37))) = false := (by rw [show e32 = e37 from Option.some.inj ((over_get _ _ _ he33).symm.trans he38)]; simp)
     refine s_nil ?_
     repeat refine c_seq ?_
     refine c_no (by exact congrArg Value.bool hk40) ?_
     refine c_skip ?_
     repeat refine c_seq ?_
     refine c_region ?_
     refine l_op (o_val (r_mv) ?_)
     refine l_op (o_val (r_mv) ?_)
     refine l_op (o_val (r_isN k rfl rfl el49 ah31 (by omega) (by (try simp only [Sl.cut]); omega)) ?_)
     refine l_op (o_stGV (enc := strE) (off := 0) (V := ([.string ⟨(([63] : List UInt8)).toArray⟩] : List Value)) (k := k) ([63] : List UInt8) H (i := 7) rfl (fun _ _ => rfl) rfl ah31 rfl (by rfl) cs9 (by rfl) (by simp [Value.oneCell']) he33 (show Cut3 (strE e32) [] (strE e32) [] 0 1 from ⟨rfl, rfl, rfl⟩) rfl (fun w H => ?_))
     replace H : Hp _ w _ ([_, _, _, _, _, _, _, .own a23 ((tenQ (tenL y15.Ls) y15.Qs).length) c24 (((List.replicate k [63] ++ (tenQ (tenL y15.Ls) y15.Qs).drop k).set k ([63] : List UInt8)).flatMap strE) 9 1, _]) := H
     first | refine l_end ?_ | refine l_nil ?_
     repeat refine c_seq ?_
     refine c_region ?_
     refine l_op (o_val (r_mv) ?_)
     refine l_op (o_val (r_bin (a := (k : Int)) (b := 1) rfl rfl (fun _ => b_add (by omega) (by omega))) ?_)
     refine l_op (o_val (r_as) ?_)
     first | refine l_end ?_ | refine l_nil ?_
     rw [over_set _ k (by omega)] at H
     refine round_end (k + 1) ?_ ?_ ?_
     · exact ⟨rfl, rfl, rfl, rfl, rfl, rfl, show VI ((k : Int) + 1) = VI ((k + 1 : Nat) : Int) from congrArg VI (by omega), trivial⟩
     · refine ⟨?_, ?_⟩
       · try dsimp only
         exact by omega
       · exact H.sub (.cons_cons _ (.cons_cons _ (.cons_cons _ (.cons_cons _ (.cons_cons _ (.cons_cons _ (.cons_cons _ (.cons_cons _ (.cons_cons _ (List.nil_sublist _))))))))))
     · show (tenQ (tenL y15.Ls) y15.Qs).length - (k + 1 : Nat) < (tenQ (tenL y15.Ls) y15.Qs).length - k; omega
    ·
     repeat refine c_seq ?_
     refine c_no (by exact congrArg Value.bool (decide_eq_false hc29)) ?_
     refine c_exit ?_
     repeat refine c_seq ?_
     refine c_region ?_
     refine l_op (o_val (r_mv) ?_)
     refine l_op (o_val (r_bin (a := (i : Int)) (b := 1) rfl rfl (fun _ => b_add (by omega) (by omega))) ?_)
     refine l_op (o_val (r_as) ?_)
     first | refine l_end ?_ | refine l_nil ?_
     refine round_end (i + 1, z14, y15) ?_ ?_ ?_
     · exact ⟨rfl, rfl, rfl, show VI ((i : Int) + 1) = VI ((i + 1 : Nat) : Int) from congrArg VI (by omega), trivial⟩
     · refine ⟨?_, ?_⟩
       · try dsimp only
         exact ⟨by omega, hzo16, hre17, by omega, by omega, by omega⟩
       · exact H.sub (.cons_cons _ (.cons_cons _ (.cons_cons _ (.cons_cons _ (.cons_cons _ (.cons_cons _ (List.nil_sublist _)))))))
     · show g.len - (i + 1 : Nat) < g.len - i; omega
   ·
    repeat refine c_seq ?_
    refine c_no (by exact congrArg Value.bool (decide_eq_false hc6)) ?_
    refine c_exit ?_
    repeat refine c_seq ?_
    refine c_region ?_
    refine l_op (o_val (r_as) ?_)
    first | refine l_end ?_ | refine l_nil ?_
    refine c_ret ?_
    try dsimp only [Exit.then, Exit.inBlock]
    refine e_ret1 (v := .bool true) Try.results5 rfl ?_
    refine ⟨_, rfl, ?_⟩
    exact ⟨rfl, H.sub (List.nil_sublist _)⟩
  ·
   repeat refine c_seq ?_
   refine c_yes (by exact congrArg Value.bool (congrArg not hc1)) ?_
   repeat refine c_seq ?_
   refine c_region ?_
   refine l_op (o_val (r_as) ?_)
   first | refine l_end ?_ | refine l_nil ?_
   refine c_ret ?_
   try dsimp only [Exit.then, Exit.inBlock]
   refine e_ret1 (v := .bool true) Try.results5 rfl ?_
   refine ⟨_, rfl, ?_⟩
   exact ⟨rfl, H.sub (List.nil_sublist _)⟩
end Go.Proofs.Ytncmcgcilijfkaa
