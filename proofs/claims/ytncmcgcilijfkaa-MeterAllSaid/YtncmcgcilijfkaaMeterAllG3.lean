/- Lemmas for the statement MeterAll, part 3: rules of operations, walks through functions, plain laws. -/
import Derived.Test.YtncmcgcilijfkaaMeterAllG2
import Derived.Ground.SlgmProg
import Derived.Shelf.SortM.Plain
import Derived.Shelf.SortM.SortNone
namespace Go.Proofs.Ytncmcgcilijfkaa
open Go
set_option maxRecDepth 100000
theorem hasR_ret (w0 : World) (rb : Nat) (z : RW) (hO : Own w0 (rch rb z)) (hl1 : z.Ls.length ≤ 1048576) (hl2 : z.Qs.length ≤ 1048576) (s o : List UInt8) (ho : o.length = 32) :
    Ret Try.prog 24 [.pointer (some ⟨rb, 0, none⟩), .string ⟨(s).toArray⟩, .agg ((o).map V8).toArray] w0 fun v w' => v = .bool (look z.Ls (s, ⟨o, ho⟩)).isSome ∧ Hp w0 w' (keys (rch rb z)) (rch rb z) := by
  refine ret_mk Try.func24 rfl Try.ntmps24 (by simp) ?_
  have H : Hp w0 w0 (keys (rch rb z)) [.blk rb ([.slice (hd z.a1) z.Ls.length z.c1, .slice (hd z.a2) z.Qs.length z.c2]) 46, .own z.a1 z.Ls.length z.c1 ((z.Ls).flatMap thgE) 93 34, .own z.a2 z.Qs.length z.c2 ((z.Qs).flatMap limE) 98 2] := hO.start
  repeat refine c_seq ?_
  refine c_region ?_
  refine l_op (o_box (v := .agg ((o).map V8).toArray) H rfl (fun b1 w H hb1 => ?_))
  replace H : Hp _ w _ ([.blk rb ([.slice (hd z.a1) z.Ls.length z.c1, .slice (hd z.a2) z.Qs.length z.c2]) 46, .own z.a1 z.Ls.length z.c1 ((z.Ls).flatMap thgE) 93 34, .own z.a2 z.Qs.length z.c2 ((z.Qs).flatMap limE) 98 2, .blk b1 ((o).map V8) 36]) := H
  refine l_op (o_val (r_as) ?_)
  first | refine l_end ?_ | refine l_nil ?_
  repeat refine c_seq ?_
  refine c_region ?_
  refine l_op (o_val (r_mv) ?_)
  refine l_op (o_val (r_mv) ?_)
  refine l_op (o_val (r_ldAA (l := o) H (i := 3) rfl rfl rt36 (show (o).length = 32 from ho)) ?_)
  refine l_op (o_callR Try.func51 rfl rfl rfl (atR_ret _ rb z (H.ownP (LL := [.blk rb ([.slice (hd z.a1) z.Ls.length z.c1, .slice (hd z.a2) z.Qs.length z.c2]) 46, .own z.a1 z.Ls.length z.c1 ((z.Ls).flatMap thgE) 93 34, .own z.a2 z.Qs.length z.c2 ((z.Qs).flatMap limE) 98 2, .blk b1 ((o).map V8) 36]) (L1 := [.blk rb ([.slice (hd z.a1) z.Ls.length z.c1, .slice (hd z.a2) z.Qs.length z.c2]) 46, .own z.a1 z.Ls.length z.c1 ((z.Ls).flatMap thgE) 93 34, .own z.a2 z.Qs.length z.c2 ((z.Qs).flatMap limE) 98 2]) (Lr := [.blk b1 ((o).map V8) 36]) (.refl _) rfl) (by first | assumption | omega) (by first | assumption | omega) s o (show (o).length = 32 from ho)) ?_)
  rintro _ w ⟨rfl, Hc⟩
  replace H := H.callP (L1 := [.blk rb ([.slice (hd z.a1) z.Ls.length z.c1, .slice (hd z.a2) z.Qs.length z.c2]) 46, .own z.a1 z.Ls.length z.c1 ((z.Ls).flatMap thgE) 93 34, .own z.a2 z.Qs.length z.c2 ((z.Qs).flatMap limE) 98 2]) (Lr := [.blk b1 ((o).map V8) 36]) (LL := [.blk rb ([.slice (hd z.a1) z.Ls.length z.c1, .slice (hd z.a2) z.Qs.length z.c2]) 46, .own z.a1 z.Ls.length z.c1 ((z.Ls).flatMap thgE) 93 34, .own z.a2 z.Qs.length z.c2 ((z.Qs).flatMap limE) 98 2, .blk b1 ((o).map V8) 36]) (.refl _) rfl Hc ((perm_front (j := 1) rfl).trans (.cons _ ((perm_front (j := 1) rfl).trans (.cons _ ((perm_front (j := 1) rfl).trans (.cons _ (.refl _)))))))
  clear Hc
  replace H : Hp _ w _ [_, _, _, _] := H
  have hat := atL_look s (⟨o, (show (o).length = 32 from ho)⟩ : Id32) z.Ls
  refine l_op (o_val (r_bin (a := atL s (⟨o, (show (o).length = 32 from ho)⟩ : Id32) z.Ls) (b := 0) rfl rfl (fun _ => b_geq)) ?_)
  refine l_op (o_val (r_as) ?_)
  first | refine l_end ?_ | refine l_nil ?_
  refine c_ret ?_
  try dsimp only [Exit.then, Exit.inBlock]
  refine e_ret1 (v := .bool (decide (0 ≤ atL s (⟨o, (show (o).length = 32 from ho)⟩ : Id32) z.Ls))) Try.results24 rfl ?_
  refine ⟨_, rfl, ?_⟩
  refine ⟨?_, H.sub (.cons_cons _ (.cons_cons _ (.cons_cons _ (List.nil_sublist _))))⟩
  congr 1
  rw [Bool.eq_iff_iff, decide_eq_true_eq]
  exact hat.1
theorem quotaR_ret (w0 : World) (rb : Nat) (z : RW) (hO : Own w0 (rch rb z)) (_hl1 : z.Ls.length ≤ 1048576) (hl2 : z.Qs.length ≤ 1048576) (s : List UInt8) (n : Int) :
    Ret Try.prog 50 [.pointer (some ⟨rb, 0, none⟩), .string ⟨(s).toArray⟩, VI n] w0 fun v w' => v = .tuple #[] ∧ RLeft w0 w' rb z z.Ls (setQ s (if n < 0 then 0 else n) z.Qs) := by
  refine ret_mk Try.func50 rfl Try.ntmps50 (by simp) ?_
  have H : Hp w0 w0 (keys (rch rb z)) [.blk rb ([.slice (hd z.a1) z.Ls.length z.c1, .slice (hd z.a2) z.Qs.length z.c2]) 46, .own z.a1 z.Ls.length z.c1 ((z.Ls).flatMap thgE) 93 34, .own z.a2 z.Qs.length z.c2 ((z.Qs).flatMap limE) 98 2] := hO.start
  repeat refine c_seq ?_
  refine c_region ?_
  refine l_op (o_val (r_mv) ?_)
  refine l_op (o_val (r_max rfl rfl) ?_)
  refine l_op (o_val (r_as) ?_)
  first | refine l_end ?_ | refine l_nil ?_
  repeat refine c_seq ?_
  refine c_region ?_
  refine l_op (o_val (r_as) ?_)
  first | refine l_end ?_ | refine l_nil ?_
  repeat refine c_seq ?_
  refine c_block ?_
  repeat refine c_seq ?_
  refine c_loop (fun (i : Nat) => [(0, .pointer (some ⟨rb, 0, none⟩)), (1, .string ⟨(s).toArray⟩), (2, VI (if n < 0 then 0 else n)), (6, VI (i : Int))])
    (fun (i : Nat) w => (i ≤ z.Qs.length ∧ ∀ (j : Nat) (x : List UInt8 × Int), j < i → z.Qs[j]? = some x → x.1 ≠ s) ∧ Hp w0 w (keys (rch rb z)) ([.blk rb ([.slice (hd z.a1) z.Ls.length z.c1, .slice (hd z.a2) z.Qs.length z.c2]) 46, .own z.a1 z.Ls.length z.c1 ((z.Ls).flatMap thgE) 93 34, .own z.a2 z.Qs.length z.c2 ((z.Qs).flatMap limE) 98 2]))
    (fun (i : Nat) => z.Qs.length - i) 0 ⟨rfl, rfl, rfl, rfl, trivial⟩ ⟨⟨Nat.zero_le _, fun j x hj => absurd hj (by omega)⟩, H⟩ ?_
  clear H
  rintro i τ w ⟨⟨hi, hall⟩, H⟩
  repeat refine c_seq ?_
  refine c_region ?_
  refine l_op (o_val (r_mv) ?_)
  refine l_op (o_val (r_mv) ?_)
  refine l_op (o_val (r_nilc rfl) ?_)
  refine l_op (o_val (r_fa rfl fo46_1) ?_)
  refine l_op (o_val (r_ld (v := .slice (hd z.a2) z.Qs.length z.c2) H (i := 0) rfl rfl ct44 rfl) ?_)
  refine l_op (o_val (r_lens el44 rfl) ?_)
  refine l_op (o_val (r_bin (a := (i : Int)) (b := (z.Qs.length : Int)) rfl rfl (fun _ => b_lss)) ?_)
  first | refine l_end ?_ | refine l_nil ?_
  by_cases hc1 : (i : Int) < (z.Qs.length : Int)
  ·
   repeat refine c_seq ?_
   refine c_yes (by exact congrArg Value.bool (decide_eq_true hc1)) ?_
   refine c_skip ?_
   repeat refine c_seq ?_
   refine c_block ?_
   repeat refine c_seq ?_
   refine c_region ?_
   refine l_op (o_val (r_mv) ?_)
   refine l_op (o_val (r_nilc rfl) ?_)
   refine l_op (o_val (r_fa rfl fo46_1) ?_)
   refine l_op (o_val (r_ld (v := .slice (hd z.a2) z.Qs.length z.c2) H (i := 0) rfl rfl ct44 rfl) ?_)
   refine l_op (o_val (r_mv) ?_)
   have ah3 := H.ownAddr (i := 2) rfl (by omega)
   obtain ⟨ab2, ah3⟩ := ah3
   refine l_op (o_val (r_isN i rfl rfl el44 ah3 (by omega) (by (try simp only [Sl.cut]); omega)) ?_)
   refine l_op (o_val (r_fa rfl fo98_0) ?_)
   have he5 : ∃ c, (z.Qs)[i]? = some c := ⟨_, List.getElem?_eq_getElem (by have := ((H.glOwn (i := 2) rfl (by decide) (fun c _ => limE_len c))).ln; (try dsimp only at this ⊢); omega)⟩
   obtain ⟨e4, he5⟩ := he5
   have hez6 := ((H.glOwn (i := 2) rfl (by decide) (fun c _ => limE_len c))).sz e4 (List.mem_of_getElem? he5)
   refine l_op (o_val (r_g1 (v := .string ⟨(e4.1).toArray⟩) (s := (⟨hd z.a2, z.Qs.length, z.c2, z.Qs⟩ : Gl (List UInt8 × Int))) (j := i) (H.glOwn (i := 2) rfl (by decide) (fun c _ => limE_len c)) ah3 rfl ct9 he5 (by decide) (show Cut3 (limE e4) (([] : List Value)) (([.string ⟨(e4.1).toArray⟩] : List Value)) (([VI e4.2] : List Value)) 0 1 from ⟨(show ([.string ⟨(e4.1).toArray⟩, VI e4.2] : List Value) = ([] : List Value) ++ ((([.string ⟨(e4.1).toArray⟩] : List Value)) ++ (([VI e4.2] : List Value))) from by simp only [List.cons_append, List.nil_append]), (by rfl), (by rfl)⟩)) ?_)
   refine l_op (o_val (r_mv) ?_)
   refine l_op (o_val (r_streq (a := e4.1) (b := s) rfl rfl) ?_)
   first | refine l_end ?_ | refine l_nil ?_
   by_cases hc7 : e4.1 = s
   ·
    repeat refine c_seq ?_
    refine c_yes (by exact congrArg Value.bool (decide_eq_true hc7)) ?_
    repeat refine c_seq ?_
    refine c_region ?_
    refine l_op (o_val (r_mv) ?_)
    refine l_op (o_val (r_nilc rfl) ?_)
    refine l_op (o_val (r_fa rfl fo46_1) ?_)
    refine l_op (o_val (r_ld (v := .slice (hd z.a2) z.Qs.length z.c2) H (i := 0) rfl rfl ct44 rfl) ?_)
    refine l_op (o_val (r_mv) ?_)
    refine l_op (o_val (r_mv) ?_)
    refine l_op (o_val (r_isN i rfl rfl el44 ah3 (by omega) (by (try simp only [Sl.cut]); omega)) ?_)
    refine l_op (o_val (r_fa rfl fo98_1) ?_)
    refine l_op (o_stGV (enc := limE) (off := 1) (V := ([VI (if n < 0 then 0 else n)] : List Value)) (k := i) (e4.1, (if n < 0 then 0 else n)) H (i := 2) rfl (fun c _ => limE_len c) rfl ah3 rfl (by rfl) cs2 (by rfl) (by simp [Value.oneCell']) he5 (show Cut3 (limE e4) (([.string ⟨(e4.1).toArray⟩] : List Value)) (([VI e4.2] : List Value)) (([] : List Value)) 1 1 from ⟨(show ([.string ⟨(e4.1).toArray⟩, VI e4.2] : List Value) = ([.string ⟨(e4.1).toArray⟩] : List Value) ++ ((([VI e4.2] : List Value)) ++ (([] : List Value))) from by simp only [List.cons_append, List.nil_append]), (by rfl), (by rfl)⟩) (show ([.string ⟨(e4.1).toArray⟩, VI (if n < 0 then 0 else n)] : List Value) = ([.string ⟨(e4.1).toArray⟩] : List Value) ++ (([VI (if n < 0 then 0 else n)] : List Value) ++ (([] : List Value))) from by simp only [List.cons_append, List.nil_append]) (fun w H => ?_))
    replace H : Hp _ w _ ([_, _, .own z.a2 z.Qs.length z.c2 (((z.Qs).set i (e4.1, (if n < 0 then 0 else n))).flatMap limE) 98 2]) := H
    first | refine l_end ?_ | refine l_nil ?_
    refine c_ret ?_
    try dsimp only [Exit.then, Exit.inBlock]
    refine e_ret0 Try.results50 ?_
    refine ⟨_, rfl, ?_⟩
    have hset := setQ_get s (if n < 0 then 0 else n) z.Qs i e4 hall he5 (by assumption)
    exact ⟨rfl, rleft_of ((H.permL (.refl _)).sub (.cons_cons _ (.cons_cons _ (.cons_cons _ (List.nil_sublist _))))) rfl (by rw [hset, List.length_set]) rfl hset.symm⟩
   ·
    repeat refine c_seq ?_
    refine c_no (by exact congrArg Value.bool (decide_eq_false hc7)) ?_
    refine c_skip ?_
    repeat refine c_seq ?_
    refine c_region ?_
    refine l_op (o_val (r_mv) ?_)
    refine l_op (o_val (r_bin (a := (i : Int)) (b := 1) rfl rfl (fun _ => b_add (by omega) (by omega))) ?_)
    refine l_op (o_val (r_as) ?_)
    first | refine l_end ?_ | refine l_nil ?_
    refine round_end (i + 1) ?_ ?_ ?_
    · exact ⟨rfl, rfl, rfl, show VI ((i : Int) + 1) = VI ((i + 1 : Nat) : Int) from congrArg VI (by omega), trivial⟩
    · refine ⟨?_, ?_⟩
      · try dsimp only
        exact ⟨by omega, fun j x hj hjx => by
          by_cases hji : j < i
          · exact hall j x hji hjx
          · have e : j = i := by omega
            rw [e, he5] at hjx
            cases hjx
            assumption⟩
      · exact H
    · show z.Qs.length - (i + 1 : Nat) < z.Qs.length - i; omega
  ·
   repeat refine c_seq ?_
   refine c_no (by exact congrArg Value.bool (decide_eq_false hc1)) ?_
   refine c_exit ?_
   repeat refine c_seq ?_
   refine c_region ?_
   refine l_op (o_val (r_mv) ?_)
   refine l_op (o_val (r_mv) ?_)
   refine l_op (o_val (r_nilc rfl) ?_)
   refine l_op (o_val (r_fa rfl fo46_1) ?_)
   refine l_op (o_val (r_ld (v := .slice (hd z.a2) z.Qs.length z.c2) H (i := 0) rfl rfl ct44 rfl) ?_)
   refine l_op (o_val (r_mv) ?_)
   refine l_op (o_val (r_mv) ?_)
   refine l_op (o_val (r_bldG (Z := ([.string ⟨(([] : List UInt8)).toArray⟩, VI 0] : List Value)) (E := ([.string ⟨(s).toArray⟩, VI (if n < 0 then 0 else n)] : List Value)) (pv := [(0, .string ⟨(s).toArray⟩), (1, VI (if n < 0 then 0 else n))]) bd98 rfl rfl (.cons (A := ([] : List Value)) (B := ([.string ⟨(([] : List UInt8)).toArray⟩] : List Value)) (D := ([VI 0] : List Value)) (V := ([.string ⟨(s).toArray⟩] : List Value)) (a := 0) (b := 1) rfl (show Cut3 (([.string ⟨(([] : List UInt8)).toArray⟩, VI 0] : List Value)) (([] : List Value)) (([.string ⟨(([] : List UInt8)).toArray⟩] : List Value)) (([VI 0] : List Value)) 0 1 from ⟨(show ([.string ⟨(([] : List UInt8)).toArray⟩, VI 0] : List Value) = ([] : List Value) ++ ((([.string ⟨(([] : List UInt8)).toArray⟩] : List Value)) ++ (([VI 0] : List Value))) from by simp only [List.cons_append, List.nil_append]), (by rfl), (by rfl)⟩) (by rfl) (by rfl) ((show ([.string ⟨(s).toArray⟩, VI 0] : List Value) = ([] : List Value) ++ ((([.string ⟨(s).toArray⟩] : List Value)) ++ (([VI 0] : List Value))) from by simp only [List.cons_append, List.nil_append]) ▸ .cons (A := ([.string ⟨(s).toArray⟩] : List Value)) (B := ([VI 0] : List Value)) (D := ([] : List Value)) (V := ([VI (if n < 0 then 0 else n)] : List Value)) (a := 1) (b := 1) rfl (show Cut3 (([.string ⟨(s).toArray⟩, VI 0] : List Value)) (([.string ⟨(s).toArray⟩] : List Value)) (([VI 0] : List Value)) (([] : List Value)) 1 1 from ⟨(show ([.string ⟨(s).toArray⟩, VI 0] : List Value) = ([.string ⟨(s).toArray⟩] : List Value) ++ ((([VI 0] : List Value)) ++ (([] : List Value))) from by simp only [List.cons_append, List.nil_append]), (by rfl), (by rfl)⟩) (by rfl) (by rfl) ((show ([.string ⟨(s).toArray⟩, VI (if n < 0 then 0 else n)] : List Value) = ([.string ⟨(s).toArray⟩] : List Value) ++ ((([VI (if n < 0 then 0 else n)] : List Value)) ++ (([] : List Value))) from by simp only [List.cons_append, List.nil_append]) ▸ .nil _)))) ?_)
   refine l_op (o_bslG1 (enc := limE) ((s, (if n < 0 then 0 else n))) H sl44 zc98 (by rfl) (by decide) (by decide) rfl (limE_len _) (fun b8 w H hb8 => ?_))
   replace H : Hp _ w _ ([_, _, _, .own (some b8) 1 1 (([(s, (if n < 0 then 0 else n))]).flatMap limE) 98 2]) := H
   refine l_op (o_appG (enc := limE) (s := ⟨hd (some b8), 1, 1, [(s, (if n < 0 then 0 else n))]⟩) (l' := z.Qs ++ ([(s, (if n < 0 then 0 else n))])) (len' := z.Qs.length + 1) rfl rfl H (i := 2) rfl sl44 Try.underlying44 rfl rfl (H.glOwn (i := 3) rfl (by decide) (fun c _ => limE_len c)) (by decide) (fun c _ => limE_all c) (by omega) (by decide) (fun a9 c10 w H => ?_))
   replace H : Hp _ w _ ([_, _, .own a9 (z.Qs.length + 1) c10 ((z.Qs ++ ([(s, (if n < 0 then 0 else n))])).flatMap limE) 98 2, _]) := H
   refine l_op (o_val (r_nilc rfl) ?_)
   refine l_op (o_val (r_fa rfl fo46_1) ?_)
   refine l_op (o_st (v := .slice (hd a9) (z.Qs.length + 1) c10) H (i := 0) rfl rfl rfl cs44 rfl (by simp only [List.length_cons, List.length_nil]; omega) (fun w H => ?_))
   replace H : Hp _ w _ ([.blk rb ([.slice (hd z.a1) z.Ls.length z.c1, .slice (hd a9) (z.Qs.length + 1) c10]) 46, _, _, _]) := H
   first | refine l_end ?_ | refine l_nil ?_
   try simp only [Exit.then, Exit.inBlock, ↓reduceIte]
   refine e_norm ?_
   refine e_ret0 Try.results50 ?_
   refine ⟨_, rfl, ?_⟩
   have hset := setQ_none s (if n < 0 then 0 else n) z.Qs (fun j x hx => hall j x (by have := (List.getElem?_eq_some_iff.1 hx).1; omega) hx)
   exact ⟨rfl, rleft_of ((H.permL (.refl _)).sub (.cons_cons _ (.cons_cons _ (.cons_cons _ (List.nil_sublist _))))) rfl (by rw [hset, List.length_append]; rfl) rfl hset.symm⟩
theorem dropR_ret (w0 : World) (rb : Nat) (z : RW) (hO : Own w0 (rch rb z)) (hl1 : z.Ls.length ≤ 1048576) (hl2 : z.Qs.length ≤ 1048576) (s o : List UInt8) (ho : o.length = 32) :
    Ret Try.prog 49 [.pointer (some ⟨rb, 0, none⟩), .string ⟨(s).toArray⟩, .agg ((o).map V8).toArray] w0 fun v w' => v = VI (if (look z.Ls (s, (⟨o, ho⟩ : Id32))).isSome then 0 else 5) ∧ RLeft w0 w' rb z (if (look z.Ls (s, (⟨o, ho⟩ : Id32))).isSome then dropG (s, (⟨o, ho⟩ : Id32)) z.Ls else z.Ls) z.Qs := by
  refine ret_mk Try.func49 rfl Try.ntmps49 (by simp) ?_
  have H : Hp w0 w0 (keys (rch rb z)) [.blk rb ([.slice (hd z.a1) z.Ls.length z.c1, .slice (hd z.a2) z.Qs.length z.c2]) 46, .own z.a1 z.Ls.length z.c1 ((z.Ls).flatMap thgE) 93 34, .own z.a2 z.Qs.length z.c2 ((z.Qs).flatMap limE) 98 2] := hO.start
  repeat refine c_seq ?_
  refine c_region ?_
  refine l_op (o_box (v := .agg ((o).map V8).toArray) H rfl (fun b1 w H hb1 => ?_))
  replace H : Hp _ w _ ([.blk rb ([.slice (hd z.a1) z.Ls.length z.c1, .slice (hd z.a2) z.Qs.length z.c2]) 46, .own z.a1 z.Ls.length z.c1 ((z.Ls).flatMap thgE) 93 34, .own z.a2 z.Qs.length z.c2 ((z.Qs).flatMap limE) 98 2, .blk b1 ((o).map V8) 36]) := H
  refine l_op (o_val (r_as) ?_)
  first | refine l_end ?_ | refine l_nil ?_
  repeat refine c_seq ?_
  refine c_region ?_
  refine l_op (o_val (r_mv) ?_)
  refine l_op (o_val (r_mv) ?_)
  refine l_op (o_val (r_ldAA (l := o) H (i := 3) rfl rfl rt36 (show (o).length = 32 from ho)) ?_)
  refine l_op (o_callR Try.func51 rfl rfl rfl (atR_ret _ rb z (H.ownP (LL := [.blk rb ([.slice (hd z.a1) z.Ls.length z.c1, .slice (hd z.a2) z.Qs.length z.c2]) 46, .own z.a1 z.Ls.length z.c1 ((z.Ls).flatMap thgE) 93 34, .own z.a2 z.Qs.length z.c2 ((z.Qs).flatMap limE) 98 2, .blk b1 ((o).map V8) 36]) (L1 := [.blk rb ([.slice (hd z.a1) z.Ls.length z.c1, .slice (hd z.a2) z.Qs.length z.c2]) 46, .own z.a1 z.Ls.length z.c1 ((z.Ls).flatMap thgE) 93 34, .own z.a2 z.Qs.length z.c2 ((z.Qs).flatMap limE) 98 2]) (Lr := [.blk b1 ((o).map V8) 36]) (.refl _) rfl) (by first | assumption | omega) (by first | assumption | omega) s o (show (o).length = 32 from ho)) ?_)
  rintro _ w ⟨rfl, Hc⟩
  replace H := H.callP (L1 := [.blk rb ([.slice (hd z.a1) z.Ls.length z.c1, .slice (hd z.a2) z.Qs.length z.c2]) 46, .own z.a1 z.Ls.length z.c1 ((z.Ls).flatMap thgE) 93 34, .own z.a2 z.Qs.length z.c2 ((z.Qs).flatMap limE) 98 2]) (Lr := [.blk b1 ((o).map V8) 36]) (LL := [.blk rb ([.slice (hd z.a1) z.Ls.length z.c1, .slice (hd z.a2) z.Qs.length z.c2]) 46, .own z.a1 z.Ls.length z.c1 ((z.Ls).flatMap thgE) 93 34, .own z.a2 z.Qs.length z.c2 ((z.Qs).flatMap limE) 98 2, .blk b1 ((o).map V8) 36]) (.refl _) rfl Hc ((perm_front (j := 1) rfl).trans (.cons _ ((perm_front (j := 1) rfl).trans (.cons _ ((perm_front (j := 1) rfl).trans (.cons _ (.refl _)))))))
  clear Hc
  replace H : Hp _ w _ [_, _, _, _] := H
  have hat := atL_look s (⟨o, (show (o).length = 32 from ho)⟩ : Id32) z.Ls
  refine l_op (o_val (r_as) ?_)
  first | refine l_end ?_ | refine l_nil ?_
  repeat refine c_seq ?_
  refine c_region ?_
  refine l_op (o_val (r_mv) ?_)
  refine l_op (o_val (r_bin (a := atL s (⟨o, (show (o).length = 32 from ho)⟩ : Id32) z.Ls) (b := 0) rfl rfl (fun _ => b_lss)) ?_)
  first | refine l_end ?_ | refine l_nil ?_
  by_cases hc2 : atL s (⟨o, (show (o).length = 32 from ho)⟩ : Id32) z.Ls < 0
  ·
   repeat refine c_seq ?_
   refine c_yes (by exact congrArg Value.bool (decide_eq_true hc2)) ?_
   repeat refine c_seq ?_
   refine c_region ?_
   refine l_op (o_val (r_as) ?_)
   first | refine l_end ?_ | refine l_nil ?_
   refine c_ret ?_
   try dsimp only [Exit.then, Exit.inBlock]
   refine e_ret1 (v := VI 5) Try.results49 rfl ?_
   refine ⟨_, rfl, ?_⟩
   have hno : (look z.Ls (s, (⟨o, ho⟩ : Id32))).isSome = false := Bool.eq_false_iff.2 fun h => by have := hat.1.2 h; omega
   rw [if_neg (by rw [hno]; decide), if_neg (by rw [hno]; decide)]
   exact ⟨rfl, rleft_of (H.sub (.cons_cons _ (.cons_cons _ (.cons_cons _ (List.nil_sublist _))))) rfl rfl rfl rfl⟩
  ·
   repeat refine c_seq ?_
   refine c_no (by exact congrArg Value.bool (decide_eq_false hc2)) ?_
   refine c_skip ?_
   repeat refine c_seq ?_
   refine wp_held (fun w => Hp w0 w (keys (rch rb z)) [.own z.a1 z.Ls.length z.c1 ((z.Ls).flatMap thgE) 93 34, .own z.a2 z.Qs.length z.c2 ((z.Qs).flatMap limE) 98 2, .blk b1 ((o).map V8) 36]) mixed ?_
   replace H := H.drew
   have HS := H.sub (.cons _ (.cons_cons _ (.cons_cons _ (.cons_cons _ (List.nil_sublist _)))))
   refine t_take 0 rfl (by kernel_rfl) (by kernel_rfl) (by kernel_rfl) (fun _ _ _ h => h) (fun w HS => r_mv) HS ?_
   refine t_take 2 rfl (by kernel_rfl) (by kernel_rfl) (by kernel_rfl) (fun _ _ _ h => h) (fun w HS => r_mv) HS ?_
   refine t_take 3 rfl (by kernel_rfl) (by kernel_rfl) (by kernel_rfl) (fun _ _ _ h => h) (fun w HS => r_nilc rfl) HS ?_
   refine t_take 4 rfl (by kernel_rfl) (by kernel_rfl) (by kernel_rfl) (fun _ _ _ h => h) (fun w HS => r_fa rfl fo46_0) HS ?_
   refine t_take 6 rfl (by kernel_rfl) (by kernel_rfl) (by kernel_rfl) (fun _ _ _ h => h) (fun w HS => r_mv) HS ?_
   refine t_take 9 rfl (by kernel_rfl) (by kernel_rfl) (by kernel_rfl) (fun _ _ _ h => h) (fun w HS => r_mv) HS ?_
   refine t_take 10 rfl (by kernel_rfl) (by kernel_rfl) (by kernel_rfl) (fun _ _ _ h => h) (fun w HS => r_nilc rfl) HS ?_
   refine t_take 11 rfl (by kernel_rfl) (by kernel_rfl) (by kernel_rfl) (fun _ _ _ h => h) (fun w HS => r_fa rfl fo46_0) HS ?_
   refine t_take 13 rfl (by kernel_rfl) (by kernel_rfl) (by kernel_rfl) (fun _ _ _ h => h) (fun w HS => r_mv) HS ?_
   refine t_take 14 rfl (by kernel_rfl) (by kernel_rfl) (by kernel_rfl) (fun _ _ _ h => h) (fun w HS => r_bin (a := atL s (⟨o, (show (o).length = 32 from ho)⟩ : Id32) z.Ls) (b := 1) rfl rfl (fun _ => b_add (by omega) (by omega))) HS ?_
   refine t_all [1, 5, 12] (by kernel_rfl) (by simp) (all_cons (w_op 1 rfl ?_) (all_cons (w_op 5 rfl ?_) (all_cons (w_op 12 rfl ?_) (all_nil))))
   ·
    refine (o_bslG0 (α := (MKey × Int)) (enc := thgE) H sl43 zc93 (by decide) (fun b3 w H hb3 => ?_))
    replace H : Hp _ w _ ([_, _, _, _, .own (some b3) 0 0 ((([] : List (MKey × Int))).flatMap thgE) 93 34]) := H
    refine ⟨H.sub (.cons _ (.cons_cons _ (.cons_cons _ (.cons_cons _ (List.nil_sublist _))))), ?_⟩
    replace HS := H.sub (.cons _ (.cons_cons _ (.cons_cons _ (.cons_cons _ (List.nil_sublist _)))))
    refine t_all [5, 12] (by kernel_rfl) (by simp) (all_cons (w_op 5 rfl ?_) (all_cons (w_op 12 rfl ?_) (all_nil)))
    ·
     refine (o_val (r_ld (v := .slice (hd z.a1) z.Ls.length z.c1) H (i := 0) rfl rfl ct43 rfl) ?_)
     refine ⟨H.sub (.cons _ (.cons_cons _ (.cons_cons _ (.cons_cons _ (List.nil_sublist _))))), ?_⟩
     replace HS := H.sub (.cons _ (.cons_cons _ (.cons_cons _ (.cons_cons _ (List.nil_sublist _)))))
     have hol4 := (HS.ownLen (i := 0) rfl).2.1
     refine t_take 7 rfl (by kernel_rfl) (by kernel_rfl) (by kernel_rfl) (fun _ _ _ h => h) (fun w HS => r_slG (s := ⟨hd z.a1, z.Ls.length, z.c1, z.Ls⟩) 0 ((atL s (⟨o, (show (o).length = 32 from ho)⟩ : Id32) z.Ls).toNat) z.c1 (lv := none) (hv := some (VI (atL s (⟨o, (show (o).length = 32 from ho)⟩ : Id32) z.Ls))) (mv := none) rfl el43 rfl rfl rfl (fun w => by exact sbh ((atL s (⟨o, (show (o).length = 32 from ho)⟩ : Id32) z.Ls).toNat) (by omega) (by (try simp only []); omega) w)) HS ?_
     refine t_all [8, 12] (by kernel_rfl) (by simp) (all_cons (w_op 8 rfl ?_) (all_cons (w_op 12 rfl ?_) (all_nil)))
     ·
      refine (o_appG (enc := thgE) (s := (Gl.cut ⟨hd z.a1, z.Ls.length, z.c1, z.Ls⟩ 34 0 ((atL s (⟨o, (show (o).length = 32 from ho)⟩ : Id32) z.Ls).toNat) z.c1)) (l' := ((z.Ls).drop 0).take ((atL s (⟨o, (show (o).length = 32 from ho)⟩ : Id32) z.Ls).toNat)) (len' := (atL s (⟨o, (show (o).length = 32 from ho)⟩ : Id32) z.Ls).toNat) rfl (Nat.zero_add _) H (i := 4) rfl sl43 Try.underlying43 rfl rfl ((H.glOwn (i := 1) rfl (by decide) (fun c _ => thgE_len c)).cut (l := 0) (h := (atL s (⟨o, (show (o).length = 32 from ho)⟩ : Id32) z.Ls).toNat) (m := z.c1) (by omega) (by (try simp only []); omega) (by omega) (by (try simp only []); omega)) (by decide) (fun c _ => thgE_all c) (by omega) (by decide) (fun a5 c6 w H => ?_))
      replace H : Hp _ w _ ([_, _, _, _, .own a5 ((atL s (⟨o, (show (o).length = 32 from ho)⟩ : Id32) z.Ls).toNat) c6 ((((z.Ls).drop 0).take ((atL s (⟨o, (show (o).length = 32 from ho)⟩ : Id32) z.Ls).toNat)).flatMap thgE) 93 34]) := H
      refine ⟨H.sub (.cons _ (.cons_cons _ (.cons_cons _ (.cons_cons _ (List.nil_sublist _))))), ?_⟩
      replace HS := H.sub (.cons _ (.cons_cons _ (.cons_cons _ (.cons_cons _ (List.nil_sublist _)))))
      refine t_step 12 rfl (by kernel_rfl) (o_val (r_ld (v := .slice (hd z.a1) z.Ls.length z.c1) H (i := 0) rfl rfl ct43 rfl) ?_)
      refine ⟨H.sub (.cons _ (.cons_cons _ (.cons_cons _ (.cons_cons _ (List.nil_sublist _))))), ?_⟩
      replace HS := H.sub (.cons _ (.cons_cons _ (.cons_cons _ (.cons_cons _ (List.nil_sublist _)))))
      refine t_take 15 rfl (by kernel_rfl) (by kernel_rfl) (by kernel_rfl) (fun _ _ _ h => h) (fun w HS => r_slG (s := ⟨hd z.a1, z.Ls.length, z.c1, z.Ls⟩) (((atL s (⟨o, (show (o).length = 32 from ho)⟩ : Id32) z.Ls) + 1).toNat) z.Ls.length z.c1 (lv := some (VI ((atL s (⟨o, (show (o).length = 32 from ho)⟩ : Id32) z.Ls) + 1))) (hv := none) (mv := none) rfl el43 rfl rfl rfl (fun w => by exact sbl (((atL s (⟨o, (show (o).length = 32 from ho)⟩ : Id32) z.Ls) + 1).toNat) (by omega) (by (try simp only []); omega) w)) HS ?_
      refine t_step 16 rfl (by kernel_rfl) (o_appG (enc := thgE) (s := (Gl.cut ⟨hd z.a1, z.Ls.length, z.c1, z.Ls⟩ 34 (((atL s (⟨o, (show (o).length = 32 from ho)⟩ : Id32) z.Ls) + 1).toNat) z.Ls.length z.c1)) (l' := ((z.Ls).drop 0).take ((atL s (⟨o, (show (o).length = 32 from ho)⟩ : Id32) z.Ls).toNat) ++ (((z.Ls).drop (((atL s (⟨o, (show (o).length = 32 from ho)⟩ : Id32) z.Ls) + 1).toNat)).take (z.Ls.length - (((atL s (⟨o, (show (o).length = 32 from ho)⟩ : Id32) z.Ls) + 1).toNat)))) (len' := (atL s (⟨o, (show (o).length = 32 from ho)⟩ : Id32) z.Ls).toNat + (z.Ls.length - (((atL s (⟨o, (show (o).length = 32 from ho)⟩ : Id32) z.Ls) + 1).toNat))) rfl rfl H (i := 4) rfl sl43 Try.underlying43 rfl rfl ((H.glOwn (i := 1) rfl (by decide) (fun c _ => thgE_len c)).cut (l := ((atL s (⟨o, (show (o).length = 32 from ho)⟩ : Id32) z.Ls) + 1).toNat) (h := z.Ls.length) (m := z.c1) (by omega) (by (try simp only []); omega) (by omega) (by (try simp only []); omega)) (by decide) (fun c _ => thgE_all c) (by omega) (by decide) (fun a7 c8 w H => ?_))
      replace H : Hp _ w _ ([_, _, _, _, .own a7 ((atL s (⟨o, (show (o).length = 32 from ho)⟩ : Id32) z.Ls).toNat + (z.Ls.length - (((atL s (⟨o, (show (o).length = 32 from ho)⟩ : Id32) z.Ls) + 1).toNat))) c8 ((((z.Ls).drop 0).take ((atL s (⟨o, (show (o).length = 32 from ho)⟩ : Id32) z.Ls).toNat) ++ (((z.Ls).drop (((atL s (⟨o, (show (o).length = 32 from ho)⟩ : Id32) z.Ls) + 1).toNat)).take (z.Ls.length - (((atL s (⟨o, (show (o).length = 32 from ho)⟩ : Id32) z.Ls) + 1).toNat)))).flatMap thgE) 93 34]) := H
      refine ⟨H.sub (.cons _ (.cons_cons _ (.cons_cons _ (.cons_cons _ (List.nil_sublist _))))), ?_⟩
      replace HS := H.sub (.cons _ (.cons_cons _ (.cons_cons _ (.cons_cons _ (List.nil_sublist _)))))
      refine t_take 17 rfl (by kernel_rfl) (by kernel_rfl) (by kernel_rfl) (fun _ _ _ h => h) (fun w HS => r_nilc rfl) HS ?_
      refine t_take 18 rfl (by kernel_rfl) (by kernel_rfl) (by kernel_rfl) (fun _ _ _ h => h) (fun w HS => r_fa rfl fo46_0) HS ?_
      refine t_step 19 rfl (by kernel_rfl) (o_st (v := .slice (hd a7) ((atL s (⟨o, (show (o).length = 32 from ho)⟩ : Id32) z.Ls).toNat + (z.Ls.length - (((atL s (⟨o, (show (o).length = 32 from ho)⟩ : Id32) z.Ls) + 1).toNat))) c8) H (i := 0) rfl rfl rfl cs43 rfl (by simp only [List.length_cons, List.length_nil]; omega) (fun w H => ?_))
      replace H : Hp _ w _ ([.blk rb ([.slice (hd a7) ((atL s (⟨o, (show (o).length = 32 from ho)⟩ : Id32) z.Ls).toNat + (z.Ls.length - (((atL s (⟨o, (show (o).length = 32 from ho)⟩ : Id32) z.Ls) + 1).toNat))) c8, .slice (hd z.a2) z.Qs.length z.c2]) 46, _, _, _, _]) := H
      refine ⟨H.sub (.cons _ (.cons_cons _ (.cons_cons _ (.cons_cons _ (List.nil_sublist _))))), ?_⟩
      replace HS := H.sub (.cons _ (.cons_cons _ (.cons_cons _ (.cons_cons _ (List.nil_sublist _)))))
      refine t_done (by kernel_rfl) ?_
      clear HS
      repeat refine c_seq ?_
      refine c_region ?_
      refine l_op (o_val (r_as) ?_)
      first | refine l_end ?_ | refine l_nil ?_
      refine c_ret ?_
      try dsimp only [Exit.then, Exit.inBlock]
      refine e_ret1 (v := VI 0) Try.results49 rfl ?_
      refine ⟨_, rfl, ?_⟩
      have hyes : (look z.Ls (s, (⟨o, ho⟩ : Id32))).isSome = true := hat.1.1 (by omega)
      have hdr := atL_drop s ⟨o, ho⟩ z.Ls (atL s ⟨o, ho⟩ z.Ls).toNat (by omega)
      rw [if_pos hyes, if_pos hyes]
      refine ⟨rfl, rleft_of ((H.permL ((perm_front (j := 0) rfl).trans (.cons _ ((perm_front (j := 3) rfl).trans (.cons _ ((perm_front (j := 1) rfl).trans (.cons _ (.refl _)))))))).sub (.cons_cons _ (.cons_cons _ (.cons_cons _ (List.nil_sublist _))))) ?_ rfl ?_ rfl⟩
      · rw [← hdr, List.length_append, List.length_take, List.length_drop]; omega
      · rw [← hdr]
        simp
        rw [List.take_of_length_le (by rw [List.length_drop]; omega)]
        congr 1
        omega
     ·
      refine (o_val (r_ld (v := .slice (hd z.a1) z.Ls.length z.c1) H (i := 0) rfl rfl ct43 rfl) ?_)
      refine ⟨H.sub (.cons _ (.cons_cons _ (.cons_cons _ (.cons_cons _ (List.nil_sublist _))))), ?_⟩
      replace HS := H.sub (.cons _ (.cons_cons _ (.cons_cons _ (.cons_cons _ (List.nil_sublist _)))))
      refine t_take 15 rfl (by kernel_rfl) (by kernel_rfl) (by kernel_rfl) (fun _ _ _ h => h) (fun w HS => r_slG (s := ⟨hd z.a1, z.Ls.length, z.c1, z.Ls⟩) (((atL s (⟨o, (show (o).length = 32 from ho)⟩ : Id32) z.Ls) + 1).toNat) z.Ls.length z.c1 (lv := some (VI ((atL s (⟨o, (show (o).length = 32 from ho)⟩ : Id32) z.Ls) + 1))) (hv := none) (mv := none) rfl el43 rfl rfl rfl (fun w => by exact sbl (((atL s (⟨o, (show (o).length = 32 from ho)⟩ : Id32) z.Ls) + 1).toNat) (by omega) (by (try simp only []); omega) w)) HS ?_
      refine t_step 8 rfl (by kernel_rfl) (o_appG (enc := thgE) (s := (Gl.cut ⟨hd z.a1, z.Ls.length, z.c1, z.Ls⟩ 34 0 ((atL s (⟨o, (show (o).length = 32 from ho)⟩ : Id32) z.Ls).toNat) z.c1)) (l' := ((z.Ls).drop 0).take ((atL s (⟨o, (show (o).length = 32 from ho)⟩ : Id32) z.Ls).toNat)) (len' := (atL s (⟨o, (show (o).length = 32 from ho)⟩ : Id32) z.Ls).toNat) rfl (Nat.zero_add _) H (i := 4) rfl sl43 Try.underlying43 rfl rfl ((H.glOwn (i := 1) rfl (by decide) (fun c _ => thgE_len c)).cut (l := 0) (h := (atL s (⟨o, (show (o).length = 32 from ho)⟩ : Id32) z.Ls).toNat) (m := z.c1) (by omega) (by (try simp only []); omega) (by omega) (by (try simp only []); omega)) (by decide) (fun c _ => thgE_all c) (by omega) (by decide) (fun a9 c10 w H => ?_))
      replace H : Hp _ w _ ([_, _, _, _, .own a9 ((atL s (⟨o, (show (o).length = 32 from ho)⟩ : Id32) z.Ls).toNat) c10 ((((z.Ls).drop 0).take ((atL s (⟨o, (show (o).length = 32 from ho)⟩ : Id32) z.Ls).toNat)).flatMap thgE) 93 34]) := H
      refine ⟨H.sub (.cons _ (.cons_cons _ (.cons_cons _ (.cons_cons _ (List.nil_sublist _))))), ?_⟩
      replace HS := H.sub (.cons _ (.cons_cons _ (.cons_cons _ (.cons_cons _ (List.nil_sublist _)))))
      refine t_step 16 rfl (by kernel_rfl) (o_appG (enc := thgE) (s := (Gl.cut ⟨hd z.a1, z.Ls.length, z.c1, z.Ls⟩ 34 (((atL s (⟨o, (show (o).length = 32 from ho)⟩ : Id32) z.Ls) + 1).toNat) z.Ls.length z.c1)) (l' := ((z.Ls).drop 0).take ((atL s (⟨o, (show (o).length = 32 from ho)⟩ : Id32) z.Ls).toNat) ++ (((z.Ls).drop (((atL s (⟨o, (show (o).length = 32 from ho)⟩ : Id32) z.Ls) + 1).toNat)).take (z.Ls.length - (((atL s (⟨o, (show (o).length = 32 from ho)⟩ : Id32) z.Ls) + 1).toNat)))) (len' := (atL s (⟨o, (show (o).length = 32 from ho)⟩ : Id32) z.Ls).toNat + (z.Ls.length - (((atL s (⟨o, (show (o).length = 32 from ho)⟩ : Id32) z.Ls) + 1).toNat))) rfl rfl H (i := 4) rfl sl43 Try.underlying43 rfl rfl ((H.glOwn (i := 1) rfl (by decide) (fun c _ => thgE_len c)).cut (l := ((atL s (⟨o, (show (o).length = 32 from ho)⟩ : Id32) z.Ls) + 1).toNat) (h := z.Ls.length) (m := z.c1) (by omega) (by (try simp only []); omega) (by omega) (by (try simp only []); omega)) (by decide) (fun c _ => thgE_all c) (by omega) (by decide) (fun a11 c12 w H => ?_))
      replace H : Hp _ w _ ([_, _, _, _, .own a11 ((atL s (⟨o, (show (o).length = 32 from ho)⟩ : Id32) z.Ls).toNat + (z.Ls.length - (((atL s (⟨o, (show (o).length = 32 from ho)⟩ : Id32) z.Ls) + 1).toNat))) c12 ((((z.Ls).drop 0).take ((atL s (⟨o, (show (o).length = 32 from ho)⟩ : Id32) z.Ls).toNat) ++ (((z.Ls).drop (((atL s (⟨o, (show (o).length = 32 from ho)⟩ : Id32) z.Ls) + 1).toNat)).take (z.Ls.length - (((atL s (⟨o, (show (o).length = 32 from ho)⟩ : Id32) z.Ls) + 1).toNat)))).flatMap thgE) 93 34]) := H
      refine ⟨H.sub (.cons _ (.cons_cons _ (.cons_cons _ (.cons_cons _ (List.nil_sublist _))))), ?_⟩
      replace HS := H.sub (.cons _ (.cons_cons _ (.cons_cons _ (.cons_cons _ (List.nil_sublist _)))))
      refine t_take 17 rfl (by kernel_rfl) (by kernel_rfl) (by kernel_rfl) (fun _ _ _ h => h) (fun w HS => r_nilc rfl) HS ?_
      refine t_take 18 rfl (by kernel_rfl) (by kernel_rfl) (by kernel_rfl) (fun _ _ _ h => h) (fun w HS => r_fa rfl fo46_0) HS ?_
      refine t_step 19 rfl (by kernel_rfl) (o_st (v := .slice (hd a11) ((atL s (⟨o, (show (o).length = 32 from ho)⟩ : Id32) z.Ls).toNat + (z.Ls.length - (((atL s (⟨o, (show (o).length = 32 from ho)⟩ : Id32) z.Ls) + 1).toNat))) c12) H (i := 0) rfl rfl rfl cs43 rfl (by simp only [List.length_cons, List.length_nil]; omega) (fun w H => ?_))
      replace H : Hp _ w _ ([.blk rb ([.slice (hd a11) ((atL s (⟨o, (show (o).length = 32 from ho)⟩ : Id32) z.Ls).toNat + (z.Ls.length - (((atL s (⟨o, (show (o).length = 32 from ho)⟩ : Id32) z.Ls) + 1).toNat))) c12, .slice (hd z.a2) z.Qs.length z.c2]) 46, _, _, _, _]) := H
      refine ⟨H.sub (.cons _ (.cons_cons _ (.cons_cons _ (.cons_cons _ (List.nil_sublist _))))), ?_⟩
      replace HS := H.sub (.cons _ (.cons_cons _ (.cons_cons _ (.cons_cons _ (List.nil_sublist _)))))
      refine t_done (by kernel_rfl) ?_
      clear HS
      repeat refine c_seq ?_
      refine c_region ?_
      refine l_op (o_val (r_as) ?_)
      first | refine l_end ?_ | refine l_nil ?_
      refine c_ret ?_
      try dsimp only [Exit.then, Exit.inBlock]
      refine e_ret1 (v := VI 0) Try.results49 rfl ?_
      refine ⟨_, rfl, ?_⟩
      have hyes : (look z.Ls (s, (⟨o, ho⟩ : Id32))).isSome = true := hat.1.1 (by omega)
      have hdr := atL_drop s ⟨o, ho⟩ z.Ls (atL s ⟨o, ho⟩ z.Ls).toNat (by omega)
      rw [if_pos hyes, if_pos hyes]
      refine ⟨rfl, rleft_of ((H.permL ((perm_front (j := 0) rfl).trans (.cons _ ((perm_front (j := 3) rfl).trans (.cons _ ((perm_front (j := 1) rfl).trans (.cons _ (.refl _)))))))).sub (.cons_cons _ (.cons_cons _ (.cons_cons _ (List.nil_sublist _))))) ?_ rfl ?_ rfl⟩
      · rw [← hdr, List.length_append, List.length_take, List.length_drop]; omega
      · rw [← hdr]
        simp
        rw [List.take_of_length_le (by rw [List.length_drop]; omega)]
        congr 1
        omega
    ·
     refine (o_val (r_ld (v := .slice (hd z.a1) z.Ls.length z.c1) H (i := 0) rfl rfl ct43 rfl) ?_)
     refine ⟨H.sub (.cons _ (.cons_cons _ (.cons_cons _ (.cons_cons _ (List.nil_sublist _))))), ?_⟩
     replace HS := H.sub (.cons _ (.cons_cons _ (.cons_cons _ (.cons_cons _ (List.nil_sublist _)))))
     refine t_take 15 rfl (by kernel_rfl) (by kernel_rfl) (by kernel_rfl) (fun _ _ _ h => h) (fun w HS => r_slG (s := ⟨hd z.a1, z.Ls.length, z.c1, z.Ls⟩) (((atL s (⟨o, (show (o).length = 32 from ho)⟩ : Id32) z.Ls) + 1).toNat) z.Ls.length z.c1 (lv := some (VI ((atL s (⟨o, (show (o).length = 32 from ho)⟩ : Id32) z.Ls) + 1))) (hv := none) (mv := none) rfl el43 rfl rfl rfl (fun w => by exact sbl (((atL s (⟨o, (show (o).length = 32 from ho)⟩ : Id32) z.Ls) + 1).toNat) (by omega) (by (try simp only []); omega) w)) HS ?_
     refine t_step 5 rfl (by kernel_rfl) (o_val (r_ld (v := .slice (hd z.a1) z.Ls.length z.c1) H (i := 0) rfl rfl ct43 rfl) ?_)
     refine ⟨H.sub (.cons _ (.cons_cons _ (.cons_cons _ (.cons_cons _ (List.nil_sublist _))))), ?_⟩
     replace HS := H.sub (.cons _ (.cons_cons _ (.cons_cons _ (.cons_cons _ (List.nil_sublist _)))))
     have hol13 := (HS.ownLen (i := 0) rfl).2.1
     refine t_take 7 rfl (by kernel_rfl) (by kernel_rfl) (by kernel_rfl) (fun _ _ _ h => h) (fun w HS => r_slG (s := ⟨hd z.a1, z.Ls.length, z.c1, z.Ls⟩) 0 ((atL s (⟨o, (show (o).length = 32 from ho)⟩ : Id32) z.Ls).toNat) z.c1 (lv := none) (hv := some (VI (atL s (⟨o, (show (o).length = 32 from ho)⟩ : Id32) z.Ls))) (mv := none) rfl el43 rfl rfl rfl (fun w => by exact sbh ((atL s (⟨o, (show (o).length = 32 from ho)⟩ : Id32) z.Ls).toNat) (by omega) (by (try simp only []); omega) w)) HS ?_
     refine t_step 8 rfl (by kernel_rfl) (o_appG (enc := thgE) (s := (Gl.cut ⟨hd z.a1, z.Ls.length, z.c1, z.Ls⟩ 34 0 ((atL s (⟨o, (show (o).length = 32 from ho)⟩ : Id32) z.Ls).toNat) z.c1)) (l' := ((z.Ls).drop 0).take ((atL s (⟨o, (show (o).length = 32 from ho)⟩ : Id32) z.Ls).toNat)) (len' := (atL s (⟨o, (show (o).length = 32 from ho)⟩ : Id32) z.Ls).toNat) rfl (Nat.zero_add _) H (i := 4) rfl sl43 Try.underlying43 rfl rfl ((H.glOwn (i := 1) rfl (by decide) (fun c _ => thgE_len c)).cut (l := 0) (h := (atL s (⟨o, (show (o).length = 32 from ho)⟩ : Id32) z.Ls).toNat) (m := z.c1) (by omega) (by (try simp only []); omega) (by omega) (by (try simp only []); omega)) (by decide) (fun c _ => thgE_all c) (by omega) (by decide) (fun a14 c15 w H => ?_))
     replace H : Hp _ w _ ([_, _, _, _, .own a14 ((atL s (⟨o, (show (o).length = 32 from ho)⟩ : Id32) z.Ls).toNat) c15 ((((z.Ls).drop 0).take ((atL s (⟨o, (show (o).length = 32 from ho)⟩ : Id32) z.Ls).toNat)).flatMap thgE) 93 34]) := H
     refine ⟨H.sub (.cons _ (.cons_cons _ (.cons_cons _ (.cons_cons _ (List.nil_sublist _))))), ?_⟩
     replace HS := H.sub (.cons _ (.cons_cons _ (.cons_cons _ (.cons_cons _ (List.nil_sublist _)))))
     refine t_step 16 rfl (by kernel_rfl) (o_appG (enc := thgE) (s := (Gl.cut ⟨hd z.a1, z.Ls.length, z.c1, z.Ls⟩ 34 (((atL s (⟨o, (show (o).length = 32 from ho)⟩ : Id32) z.Ls) + 1).toNat) z.Ls.length z.c1)) (l' := ((z.Ls).drop 0).take ((atL s (⟨o, (show (o).length = 32 from ho)⟩ : Id32) z.Ls).toNat) ++ (((z.Ls).drop (((atL s (⟨o, (show (o).length = 32 from ho)⟩ : Id32) z.Ls) + 1).toNat)).take (z.Ls.length - (((atL s (⟨o, (show (o).length = 32 from ho)⟩ : Id32) z.Ls) + 1).toNat)))) (len' := (atL s (⟨o, (show (o).length = 32 from ho)⟩ : Id32) z.Ls).toNat + (z.Ls.length - (((atL s (⟨o, (show (o).length = 32 from ho)⟩ : Id32) z.Ls) + 1).toNat))) rfl rfl H (i := 4) rfl sl43 Try.underlying43 rfl rfl ((H.glOwn (i := 1) rfl (by decide) (fun c _ => thgE_len c)).cut (l := ((atL s (⟨o, (show (o).length = 32 from ho)⟩ : Id32) z.Ls) + 1).toNat) (h := z.Ls.length) (m := z.c1) (by omega) (by (try simp only []); omega) (by omega) (by (try simp only []); omega)) (by decide) (fun c _ => thgE_all c) (by omega) (by decide) (fun a16 c17 w H => ?_))
     replace H : Hp _ w _ ([_, _, _, _, .own a16 ((atL s (⟨o, (show (o).length = 32 from ho)⟩ : Id32) z.Ls).toNat + (z.Ls.length - (((atL s (⟨o, (show (o).length = 32 from ho)⟩ : Id32) z.Ls) + 1).toNat))) c17 ((((z.Ls).drop 0).take ((atL s (⟨o, (show (o).length = 32 from ho)⟩ : Id32) z.Ls).toNat) ++ (((z.Ls).drop (((atL s (⟨o, (show (o).length = 32 from ho)⟩ : Id32) z.Ls) + 1).toNat)).take (z.Ls.length - (((atL s (⟨o, (show (o).length = 32 from ho)⟩ : Id32) z.Ls) + 1).toNat)))).flatMap thgE) 93 34]) := H
     refine ⟨H.sub (.cons _ (.cons_cons _ (.cons_cons _ (.cons_cons _ (List.nil_sublist _))))), ?_⟩
     replace HS := H.sub (.cons _ (.cons_cons _ (.cons_cons _ (.cons_cons _ (List.nil_sublist _)))))
     refine t_take 17 rfl (by kernel_rfl) (by kernel_rfl) (by kernel_rfl) (fun _ _ _ h => h) (fun w HS => r_nilc rfl) HS ?_
     refine t_take 18 rfl (by kernel_rfl) (by kernel_rfl) (by kernel_rfl) (fun _ _ _ h => h) (fun w HS => r_fa rfl fo46_0) HS ?_
     refine t_step 19 rfl (by kernel_rfl) (o_st (v := .slice (hd a16) ((atL s (⟨o, (show (o).length = 32 from ho)⟩ : Id32) z.Ls).toNat + (z.Ls.length - (((atL s (⟨o, (show (o).length = 32 from ho)⟩ : Id32) z.Ls) + 1).toNat))) c17) H (i := 0) rfl rfl rfl cs43 rfl (by simp only [List.length_cons, List.length_nil]; omega) (fun w H => ?_))
     replace H : Hp _ w _ ([.blk rb ([.slice (hd a16) ((atL s (⟨o, (show (o).length = 32 from ho)⟩ : Id32) z.Ls).toNat + (z.Ls.length - (((atL s (⟨o, (show (o).length = 32 from ho)⟩ : Id32) z.Ls) + 1).toNat))) c17, .slice (hd z.a2) z.Qs.length z.c2]) 46, _, _, _, _]) := H
     refine ⟨H.sub (.cons _ (.cons_cons _ (.cons_cons _ (.cons_cons _ (List.nil_sublist _))))), ?_⟩
     replace HS := H.sub (.cons _ (.cons_cons _ (.cons_cons _ (.cons_cons _ (List.nil_sublist _)))))
     refine t_done (by kernel_rfl) ?_
     clear HS
     repeat refine c_seq ?_
     refine c_region ?_
     refine l_op (o_val (r_as) ?_)
     first | refine l_end ?_ | refine l_nil ?_
     refine c_ret ?_
     try dsimp only [Exit.then, Exit.inBlock]
     refine e_ret1 (v := VI 0) Try.results49 rfl ?_
     refine ⟨_, rfl, ?_⟩
     have hyes : (look z.Ls (s, (⟨o, ho⟩ : Id32))).isSome = true := hat.1.1 (by omega)
     have hdr := atL_drop s ⟨o, ho⟩ z.Ls (atL s ⟨o, ho⟩ z.Ls).toNat (by omega)
     rw [if_pos hyes, if_pos hyes]
     refine ⟨rfl, rleft_of ((H.permL ((perm_front (j := 0) rfl).trans (.cons _ ((perm_front (j := 3) rfl).trans (.cons _ ((perm_front (j := 1) rfl).trans (.cons _ (.refl _)))))))).sub (.cons_cons _ (.cons_cons _ (.cons_cons _ (List.nil_sublist _))))) ?_ rfl ?_ rfl⟩
     · rw [← hdr, List.length_append, List.length_take, List.length_drop]; omega
     · rw [← hdr]
       simp
       rw [List.take_of_length_le (by rw [List.length_drop]; omega)]
       congr 1
       omega
   ·
    refine (o_val (r_ld (v := .slice (hd z.a1) z.Ls.length z.c1) H (i := 0) rfl rfl ct43 rfl) ?_)
    refine ⟨H.sub (.cons _ (.cons_cons _ (.cons_cons _ (.cons_cons _ (List.nil_sublist _))))), ?_⟩
    replace HS := H.sub (.cons _ (.cons_cons _ (.cons_cons _ (.cons_cons _ (List.nil_sublist _)))))
    have hol18 := (HS.ownLen (i := 0) rfl).2.1
    refine t_take 7 rfl (by kernel_rfl) (by kernel_rfl) (by kernel_rfl) (fun _ _ _ h => h) (fun w HS => r_slG (s := ⟨hd z.a1, z.Ls.length, z.c1, z.Ls⟩) 0 ((atL s (⟨o, (show (o).length = 32 from ho)⟩ : Id32) z.Ls).toNat) z.c1 (lv := none) (hv := some (VI (atL s (⟨o, (show (o).length = 32 from ho)⟩ : Id32) z.Ls))) (mv := none) rfl el43 rfl rfl rfl (fun w => by exact sbh ((atL s (⟨o, (show (o).length = 32 from ho)⟩ : Id32) z.Ls).toNat) (by omega) (by (try simp only []); omega) w)) HS ?_
    refine t_all [1, 12] (by kernel_rfl) (by simp) (all_cons (w_op 1 rfl ?_) (all_cons (w_op 12 rfl ?_) (all_nil)))
    ·
     refine (o_bslG0 (α := (MKey × Int)) (enc := thgE) H sl43 zc93 (by decide) (fun b19 w H hb19 => ?_))
     replace H : Hp _ w _ ([_, _, _, _, .own (some b19) 0 0 ((([] : List (MKey × Int))).flatMap thgE) 93 34]) := H
     refine ⟨H.sub (.cons _ (.cons_cons _ (.cons_cons _ (.cons_cons _ (List.nil_sublist _))))), ?_⟩
     replace HS := H.sub (.cons _ (.cons_cons _ (.cons_cons _ (.cons_cons _ (List.nil_sublist _)))))
     refine t_all [8, 12] (by kernel_rfl) (by simp) (all_cons (w_op 8 rfl ?_) (all_cons (w_op 12 rfl ?_) (all_nil)))
     ·
      refine (o_appG (enc := thgE) (s := (Gl.cut ⟨hd z.a1, z.Ls.length, z.c1, z.Ls⟩ 34 0 ((atL s (⟨o, (show (o).length = 32 from ho)⟩ : Id32) z.Ls).toNat) z.c1)) (l' := ((z.Ls).drop 0).take ((atL s (⟨o, (show (o).length = 32 from ho)⟩ : Id32) z.Ls).toNat)) (len' := (atL s (⟨o, (show (o).length = 32 from ho)⟩ : Id32) z.Ls).toNat) rfl (Nat.zero_add _) H (i := 4) rfl sl43 Try.underlying43 rfl rfl ((H.glOwn (i := 1) rfl (by decide) (fun c _ => thgE_len c)).cut (l := 0) (h := (atL s (⟨o, (show (o).length = 32 from ho)⟩ : Id32) z.Ls).toNat) (m := z.c1) (by omega) (by (try simp only []); omega) (by omega) (by (try simp only []); omega)) (by decide) (fun c _ => thgE_all c) (by omega) (by decide) (fun a20 c21 w H => ?_))
      replace H : Hp _ w _ ([_, _, _, _, .own a20 ((atL s (⟨o, (show (o).length = 32 from ho)⟩ : Id32) z.Ls).toNat) c21 ((((z.Ls).drop 0).take ((atL s (⟨o, (show (o).length = 32 from ho)⟩ : Id32) z.Ls).toNat)).flatMap thgE) 93 34]) := H
      refine ⟨H.sub (.cons _ (.cons_cons _ (.cons_cons _ (.cons_cons _ (List.nil_sublist _))))), ?_⟩
      replace HS := H.sub (.cons _ (.cons_cons _ (.cons_cons _ (.cons_cons _ (List.nil_sublist _)))))
      refine t_step 12 rfl (by kernel_rfl) (o_val (r_ld (v := .slice (hd z.a1) z.Ls.length z.c1) H (i := 0) rfl rfl ct43 rfl) ?_)
      refine ⟨H.sub (.cons _ (.cons_cons _ (.cons_cons _ (.cons_cons _ (List.nil_sublist _))))), ?_⟩
      replace HS := H.sub (.cons _ (.cons_cons _ (.cons_cons _ (.cons_cons _ (List.nil_sublist _)))))
      refine t_take 15 rfl (by kernel_rfl) (by kernel_rfl) (by kernel_rfl) (fun _ _ _ h => h) (fun w HS => r_slG (s := ⟨hd z.a1, z.Ls.length, z.c1, z.Ls⟩) (((atL s (⟨o, (show (o).length = 32 from ho)⟩ : Id32) z.Ls) + 1).toNat) z.Ls.length z.c1 (lv := some (VI ((atL s (⟨o, (show (o).length = 32 from ho)⟩ : Id32) z.Ls) + 1))) (hv := none) (mv := none) rfl el43 rfl rfl rfl (fun w => by exact sbl (((atL s (⟨o, (show (o).length = 32 from ho)⟩ : Id32) z.Ls) + 1).toNat) (by omega) (by (try simp only []); omega) w)) HS ?_
      refine t_step 16 rfl (by kernel_rfl) (o_appG (enc := thgE) (s := (Gl.cut ⟨hd z.a1, z.Ls.length, z.c1, z.Ls⟩ 34 (((atL s (⟨o, (show (o).length = 32 from ho)⟩ : Id32) z.Ls) + 1).toNat) z.Ls.length z.c1)) (l' := ((z.Ls).drop 0).take ((atL s (⟨o, (show (o).length = 32 from ho)⟩ : Id32) z.Ls).toNat) ++ (((z.Ls).drop (((atL s (⟨o, (show (o).length = 32 from ho)⟩ : Id32) z.Ls) + 1).toNat)).take (z.Ls.length - (((atL s (⟨o, (show (o).length = 32 from ho)⟩ : Id32) z.Ls) + 1).toNat)))) (len' := (atL s (⟨o, (show (o).length = 32 from ho)⟩ : Id32) z.Ls).toNat + (z.Ls.length - (((atL s (⟨o, (show (o).length = 32 from ho)⟩ : Id32) z.Ls) + 1).toNat))) rfl rfl H (i := 4) rfl sl43 Try.underlying43 rfl rfl ((H.glOwn (i := 1) rfl (by decide) (fun c _ => thgE_len c)).cut (l := ((atL s (⟨o, (show (o).length = 32 from ho)⟩ : Id32) z.Ls) + 1).toNat) (h := z.Ls.length) (m := z.c1) (by omega) (by (try simp only []); omega) (by omega) (by (try simp only []); omega)) (by decide) (fun c _ => thgE_all c) (by omega) (by decide) (fun a22 c23 w H => ?_))
      replace H : Hp _ w _ ([_, _, _, _, .own a22 ((atL s (⟨o, (show (o).length = 32 from ho)⟩ : Id32) z.Ls).toNat + (z.Ls.length - (((atL s (⟨o, (show (o).length = 32 from ho)⟩ : Id32) z.Ls) + 1).toNat))) c23 ((((z.Ls).drop 0).take ((atL s (⟨o, (show (o).length = 32 from ho)⟩ : Id32) z.Ls).toNat) ++ (((z.Ls).drop (((atL s (⟨o, (show (o).length = 32 from ho)⟩ : Id32) z.Ls) + 1).toNat)).take (z.Ls.length - (((atL s (⟨o, (show (o).length = 32 from ho)⟩ : Id32) z.Ls) + 1).toNat)))).flatMap thgE) 93 34]) := H
      refine ⟨H.sub (.cons _ (.cons_cons _ (.cons_cons _ (.cons_cons _ (List.nil_sublist _))))), ?_⟩
      replace HS := H.sub (.cons _ (.cons_cons _ (.cons_cons _ (.cons_cons _ (List.nil_sublist _)))))
      refine t_take 17 rfl (by kernel_rfl) (by kernel_rfl) (by kernel_rfl) (fun _ _ _ h => h) (fun w HS => r_nilc rfl) HS ?_
      refine t_take 18 rfl (by kernel_rfl) (by kernel_rfl) (by kernel_rfl) (fun _ _ _ h => h) (fun w HS => r_fa rfl fo46_0) HS ?_
      refine t_step 19 rfl (by kernel_rfl) (o_st (v := .slice (hd a22) ((atL s (⟨o, (show (o).length = 32 from ho)⟩ : Id32) z.Ls).toNat + (z.Ls.length - (((atL s (⟨o, (show (o).length = 32 from ho)⟩ : Id32) z.Ls) + 1).toNat))) c23) H (i := 0) rfl rfl rfl cs43 rfl (by simp only [List.length_cons, List.length_nil]; omega) (fun w H => ?_))
      replace H : Hp _ w _ ([.blk rb ([.slice (hd a22) ((atL s (⟨o, (show (o).length = 32 from ho)⟩ : Id32) z.Ls).toNat + (z.Ls.length - (((atL s (⟨o, (show (o).length = 32 from ho)⟩ : Id32) z.Ls) + 1).toNat))) c23, .slice (hd z.a2) z.Qs.length z.c2]) 46, _, _, _, _]) := H
      refine ⟨H.sub (.cons _ (.cons_cons _ (.cons_cons _ (.cons_cons _ (List.nil_sublist _))))), ?_⟩
      replace HS := H.sub (.cons _ (.cons_cons _ (.cons_cons _ (.cons_cons _ (List.nil_sublist _)))))
      refine t_done (by kernel_rfl) ?_
      clear HS
      repeat refine c_seq ?_
      refine c_region ?_
      refine l_op (o_val (r_as) ?_)
      first | refine l_end ?_ | refine l_nil ?_
      refine c_ret ?_
      try dsimp only [Exit.then, Exit.inBlock]
      refine e_ret1 (v := VI 0) Try.results49 rfl ?_
      refine ⟨_, rfl, ?_⟩
      have hyes : (look z.Ls (s, (⟨o, ho⟩ : Id32))).isSome = true := hat.1.1 (by omega)
      have hdr := atL_drop s ⟨o, ho⟩ z.Ls (atL s ⟨o, ho⟩ z.Ls).toNat (by omega)
      rw [if_pos hyes, if_pos hyes]
      refine ⟨rfl, rleft_of ((H.permL ((perm_front (j := 0) rfl).trans (.cons _ ((perm_front (j := 3) rfl).trans (.cons _ ((perm_front (j := 1) rfl).trans (.cons _ (.refl _)))))))).sub (.cons_cons _ (.cons_cons _ (.cons_cons _ (List.nil_sublist _))))) ?_ rfl ?_ rfl⟩
      · rw [← hdr, List.length_append, List.length_take, List.length_drop]; omega
      · rw [← hdr]
        simp
        rw [List.take_of_length_le (by rw [List.length_drop]; omega)]
        congr 1
        omega
     ·
      refine (o_val (r_ld (v := .slice (hd z.a1) z.Ls.length z.c1) H (i := 0) rfl rfl ct43 rfl) ?_)
      refine ⟨H.sub (.cons _ (.cons_cons _ (.cons_cons _ (.cons_cons _ (List.nil_sublist _))))), ?_⟩
      replace HS := H.sub (.cons _ (.cons_cons _ (.cons_cons _ (.cons_cons _ (List.nil_sublist _)))))
      refine t_take 15 rfl (by kernel_rfl) (by kernel_rfl) (by kernel_rfl) (fun _ _ _ h => h) (fun w HS => r_slG (s := ⟨hd z.a1, z.Ls.length, z.c1, z.Ls⟩) (((atL s (⟨o, (show (o).length = 32 from ho)⟩ : Id32) z.Ls) + 1).toNat) z.Ls.length z.c1 (lv := some (VI ((atL s (⟨o, (show (o).length = 32 from ho)⟩ : Id32) z.Ls) + 1))) (hv := none) (mv := none) rfl el43 rfl rfl rfl (fun w => by exact sbl (((atL s (⟨o, (show (o).length = 32 from ho)⟩ : Id32) z.Ls) + 1).toNat) (by omega) (by (try simp only []); omega) w)) HS ?_
      refine t_step 8 rfl (by kernel_rfl) (o_appG (enc := thgE) (s := (Gl.cut ⟨hd z.a1, z.Ls.length, z.c1, z.Ls⟩ 34 0 ((atL s (⟨o, (show (o).length = 32 from ho)⟩ : Id32) z.Ls).toNat) z.c1)) (l' := ((z.Ls).drop 0).take ((atL s (⟨o, (show (o).length = 32 from ho)⟩ : Id32) z.Ls).toNat)) (len' := (atL s (⟨o, (show (o).length = 32 from ho)⟩ : Id32) z.Ls).toNat) rfl (Nat.zero_add _) H (i := 4) rfl sl43 Try.underlying43 rfl rfl ((H.glOwn (i := 1) rfl (by decide) (fun c _ => thgE_len c)).cut (l := 0) (h := (atL s (⟨o, (show (o).length = 32 from ho)⟩ : Id32) z.Ls).toNat) (m := z.c1) (by omega) (by (try simp only []); omega) (by omega) (by (try simp only []); omega)) (by decide) (fun c _ => thgE_all c) (by omega) (by decide) (fun a24 c25 w H => ?_))
      replace H : Hp _ w _ ([_, _, _, _, .own a24 ((atL s (⟨o, (show (o).length = 32 from ho)⟩ : Id32) z.Ls).toNat) c25 ((((z.Ls).drop 0).take ((atL s (⟨o, (show (o).length = 32 from ho)⟩ : Id32) z.Ls).toNat)).flatMap thgE) 93 34]) := H
      refine ⟨H.sub (.cons _ (.cons_cons _ (.cons_cons _ (.cons_cons _ (List.nil_sublist _))))), ?_⟩
      replace HS := H.sub (.cons _ (.cons_cons _ (.cons_cons _ (.cons_cons _ (List.nil_sublist _)))))
      refine t_step 16 rfl (by kernel_rfl) (o_appG (enc := thgE) (s := (Gl.cut ⟨hd z.a1, z.Ls.length, z.c1, z.Ls⟩ 34 (((atL s (⟨o, (show (o).length = 32 from ho)⟩ : Id32) z.Ls) + 1).toNat) z.Ls.length z.c1)) (l' := ((z.Ls).drop 0).take ((atL s (⟨o, (show (o).length = 32 from ho)⟩ : Id32) z.Ls).toNat) ++ (((z.Ls).drop (((atL s (⟨o, (show (o).length = 32 from ho)⟩ : Id32) z.Ls) + 1).toNat)).take (z.Ls.length - (((atL s (⟨o, (show (o).length = 32 from ho)⟩ : Id32) z.Ls) + 1).toNat)))) (len' := (atL s (⟨o, (show (o).length = 32 from ho)⟩ : Id32) z.Ls).toNat + (z.Ls.length - (((atL s (⟨o, (show (o).length = 32 from ho)⟩ : Id32) z.Ls) + 1).toNat))) rfl rfl H (i := 4) rfl sl43 Try.underlying43 rfl rfl ((H.glOwn (i := 1) rfl (by decide) (fun c _ => thgE_len c)).cut (l := ((atL s (⟨o, (show (o).length = 32 from ho)⟩ : Id32) z.Ls) + 1).toNat) (h := z.Ls.length) (m := z.c1) (by omega) (by (try simp only []); omega) (by omega) (by (try simp only []); omega)) (by decide) (fun c _ => thgE_all c) (by omega) (by decide) (fun a26 c27 w H => ?_))
      replace H : Hp _ w _ ([_, _, _, _, .own a26 ((atL s (⟨o, (show (o).length = 32 from ho)⟩ : Id32) z.Ls).toNat + (z.Ls.length - (((atL s (⟨o, (show (o).length = 32 from ho)⟩ : Id32) z.Ls) + 1).toNat))) c27 ((((z.Ls).drop 0).take ((atL s (⟨o, (show (o).length = 32 from ho)⟩ : Id32) z.Ls).toNat) ++ (((z.Ls).drop (((atL s (⟨o, (show (o).length = 32 from ho)⟩ : Id32) z.Ls) + 1).toNat)).take (z.Ls.length - (((atL s (⟨o, (show (o).length = 32 from ho)⟩ : Id32) z.Ls) + 1).toNat)))).flatMap thgE) 93 34]) := H
      refine ⟨H.sub (.cons _ (.cons_cons _ (.cons_cons _ (.cons_cons _ (List.nil_sublist _))))), ?_⟩
      replace HS := H.sub (.cons _ (.cons_cons _ (.cons_cons _ (.cons_cons _ (List.nil_sublist _)))))
      refine t_take 17 rfl (by kernel_rfl) (by kernel_rfl) (by kernel_rfl) (fun _ _ _ h => h) (fun w HS => r_nilc rfl) HS ?_
      refine t_take 18 rfl (by kernel_rfl) (by kernel_rfl) (by kernel_rfl) (fun _ _ _ h => h) (fun w HS => r_fa rfl fo46_0) HS ?_
      refine t_step 19 rfl (by kernel_rfl) (o_st (v := .slice (hd a26) ((atL s (⟨o, (show (o).length = 32 from ho)⟩ : Id32) z.Ls).toNat + (z.Ls.length - (((atL s (⟨o, (show (o).length = 32 from ho)⟩ : Id32) z.Ls) + 1).toNat))) c27) H (i := 0) rfl rfl rfl cs43 rfl (by simp only [List.length_cons, List.length_nil]; omega) (fun w H => ?_))
      replace H : Hp _ w _ ([.blk rb ([.slice (hd a26) ((atL s (⟨o, (show (o).length = 32 from ho)⟩ : Id32) z.Ls).toNat + (z.Ls.length - (((atL s (⟨o, (show (o).length = 32 from ho)⟩ : Id32) z.Ls) + 1).toNat))) c27, .slice (hd z.a2) z.Qs.length z.c2]) 46, _, _, _, _]) := H
      refine ⟨H.sub (.cons _ (.cons_cons _ (.cons_cons _ (.cons_cons _ (List.nil_sublist _))))), ?_⟩
      replace HS := H.sub (.cons _ (.cons_cons _ (.cons_cons _ (.cons_cons _ (List.nil_sublist _)))))
      refine t_done (by kernel_rfl) ?_
      clear HS
      repeat refine c_seq ?_
      refine c_region ?_
      refine l_op (o_val (r_as) ?_)
      first | refine l_end ?_ | refine l_nil ?_
      refine c_ret ?_
      try dsimp only [Exit.then, Exit.inBlock]
      refine e_ret1 (v := VI 0) Try.results49 rfl ?_
      refine ⟨_, rfl, ?_⟩
      have hyes : (look z.Ls (s, (⟨o, ho⟩ : Id32))).isSome = true := hat.1.1 (by omega)
      have hdr := atL_drop s ⟨o, ho⟩ z.Ls (atL s ⟨o, ho⟩ z.Ls).toNat (by omega)
      rw [if_pos hyes, if_pos hyes]
      refine ⟨rfl, rleft_of ((H.permL ((perm_front (j := 0) rfl).trans (.cons _ ((perm_front (j := 3) rfl).trans (.cons _ ((perm_front (j := 1) rfl).trans (.cons _ (.refl _)))))))).sub (.cons_cons _ (.cons_cons _ (.cons_cons _ (List.nil_sublist _))))) ?_ rfl ?_ rfl⟩
      · rw [← hdr, List.length_append, List.length_take, List.length_drop]; omega
      · rw [← hdr]
        simp
        rw [List.take_of_length_le (by rw [List.length_drop]; omega)]
        congr 1
        omega
    ·
     refine (o_val (r_ld (v := .slice (hd z.a1) z.Ls.length z.c1) H (i := 0) rfl rfl ct43 rfl) ?_)
     refine ⟨H.sub (.cons _ (.cons_cons _ (.cons_cons _ (.cons_cons _ (List.nil_sublist _))))), ?_⟩
     replace HS := H.sub (.cons _ (.cons_cons _ (.cons_cons _ (.cons_cons _ (List.nil_sublist _)))))
     refine t_take 15 rfl (by kernel_rfl) (by kernel_rfl) (by kernel_rfl) (fun _ _ _ h => h) (fun w HS => r_slG (s := ⟨hd z.a1, z.Ls.length, z.c1, z.Ls⟩) (((atL s (⟨o, (show (o).length = 32 from ho)⟩ : Id32) z.Ls) + 1).toNat) z.Ls.length z.c1 (lv := some (VI ((atL s (⟨o, (show (o).length = 32 from ho)⟩ : Id32) z.Ls) + 1))) (hv := none) (mv := none) rfl el43 rfl rfl rfl (fun w => by exact sbl (((atL s (⟨o, (show (o).length = 32 from ho)⟩ : Id32) z.Ls) + 1).toNat) (by omega) (by (try simp only []); omega) w)) HS ?_
     refine t_step 1 rfl (by kernel_rfl) (o_bslG0 (α := (MKey × Int)) (enc := thgE) H sl43 zc93 (by decide) (fun b28 w H hb28 => ?_))
     replace H : Hp _ w _ ([_, _, _, _, .own (some b28) 0 0 ((([] : List (MKey × Int))).flatMap thgE) 93 34]) := H
     refine ⟨H.sub (.cons _ (.cons_cons _ (.cons_cons _ (.cons_cons _ (List.nil_sublist _))))), ?_⟩
     replace HS := H.sub (.cons _ (.cons_cons _ (.cons_cons _ (.cons_cons _ (List.nil_sublist _)))))
     refine t_step 8 rfl (by kernel_rfl) (o_appG (enc := thgE) (s := (Gl.cut ⟨hd z.a1, z.Ls.length, z.c1, z.Ls⟩ 34 0 ((atL s (⟨o, (show (o).length = 32 from ho)⟩ : Id32) z.Ls).toNat) z.c1)) (l' := ((z.Ls).drop 0).take ((atL s (⟨o, (show (o).length = 32 from ho)⟩ : Id32) z.Ls).toNat)) (len' := (atL s (⟨o, (show (o).length = 32 from ho)⟩ : Id32) z.Ls).toNat) rfl (Nat.zero_add _) H (i := 4) rfl sl43 Try.underlying43 rfl rfl ((H.glOwn (i := 1) rfl (by decide) (fun c _ => thgE_len c)).cut (l := 0) (h := (atL s (⟨o, (show (o).length = 32 from ho)⟩ : Id32) z.Ls).toNat) (m := z.c1) (by omega) (by (try simp only []); omega) (by omega) (by (try simp only []); omega)) (by decide) (fun c _ => thgE_all c) (by omega) (by decide) (fun a29 c30 w H => ?_))
     replace H : Hp _ w _ ([_, _, _, _, .own a29 ((atL s (⟨o, (show (o).length = 32 from ho)⟩ : Id32) z.Ls).toNat) c30 ((((z.Ls).drop 0).take ((atL s (⟨o, (show (o).length = 32 from ho)⟩ : Id32) z.Ls).toNat)).flatMap thgE) 93 34]) := H
     refine ⟨H.sub (.cons _ (.cons_cons _ (.cons_cons _ (.cons_cons _ (List.nil_sublist _))))), ?_⟩
     replace HS := H.sub (.cons _ (.cons_cons _ (.cons_cons _ (.cons_cons _ (List.nil_sublist _)))))
     refine t_step 16 rfl (by kernel_rfl) (o_appG (enc := thgE) (s := (Gl.cut ⟨hd z.a1, z.Ls.length, z.c1, z.Ls⟩ 34 (((atL s (⟨o, (show (o).length = 32 from ho)⟩ : Id32) z.Ls) + 1).toNat) z.Ls.length z.c1)) (l' := ((z.Ls).drop 0).take ((atL s (⟨o, (show (o).length = 32 from ho)⟩ : Id32) z.Ls).toNat) ++ (((z.Ls).drop (((atL s (⟨o, (show (o).length = 32 from ho)⟩ : Id32) z.Ls) + 1).toNat)).take (z.Ls.length - (((atL s (⟨o, (show (o).length = 32 from ho)⟩ : Id32) z.Ls) + 1).toNat)))) (len' := (atL s (⟨o, (show (o).length = 32 from ho)⟩ : Id32) z.Ls).toNat + (z.Ls.length - (((atL s (⟨o, (show (o).length = 32 from ho)⟩ : Id32) z.Ls) + 1).toNat))) rfl rfl H (i := 4) rfl sl43 Try.underlying43 rfl rfl ((H.glOwn (i := 1) rfl (by decide) (fun c _ => thgE_len c)).cut (l := ((atL s (⟨o, (show (o).length = 32 from ho)⟩ : Id32) z.Ls) + 1).toNat) (h := z.Ls.length) (m := z.c1) (by omega) (by (try simp only []); omega) (by omega) (by (try simp only []); omega)) (by decide) (fun c _ => thgE_all c) (by omega) (by decide) (fun a31 c32 w H => ?_))
     replace H : Hp _ w _ ([_, _, _, _, .own a31 ((atL s (⟨o, (show (o).length = 32 from ho)⟩ : Id32) z.Ls).toNat + (z.Ls.length - (((atL s (⟨o, (show (o).length = 32 from ho)⟩ : Id32) z.Ls) + 1).toNat))) c32 ((((z.Ls).drop 0).take ((atL s (⟨o, (show (o).length = 32 from ho)⟩ : Id32) z.Ls).toNat) ++ (((z.Ls).drop (((atL s (⟨o, (show (o).length = 32 from ho)⟩ : Id32) z.Ls) + 1).toNat)).take (z.Ls.length - (((atL s (⟨o, (show (o).length = 32 from ho)⟩ : Id32) z.Ls) + 1).toNat)))).flatMap thgE) 93 34]) := H
     refine ⟨H.sub (.cons _ (.cons_cons _ (.cons_cons _ (.cons_cons _ (List.nil_sublist _))))), ?_⟩
     replace HS := H.sub (.cons _ (.cons_cons _ (.cons_cons _ (.cons_cons _ (List.nil_sublist _)))))
     refine t_take 17 rfl (by kernel_rfl) (by kernel_rfl) (by kernel_rfl) (fun _ _ _ h => h) (fun w HS => r_nilc rfl) HS ?_
     refine t_take 18 rfl (by kernel_rfl) (by kernel_rfl) (by kernel_rfl) (fun _ _ _ h => h) (fun w HS => r_fa rfl fo46_0) HS ?_
     refine t_step 19 rfl (by kernel_rfl) (o_st (v := .slice (hd a31) ((atL s (⟨o, (show (o).length = 32 from ho)⟩ : Id32) z.Ls).toNat + (z.Ls.length - (((atL s (⟨o, (show (o).length = 32 from ho)⟩ : Id32) z.Ls) + 1).toNat))) c32) H (i := 0) rfl rfl rfl cs43 rfl (by simp only [List.length_cons, List.length_nil]; omega) (fun w H => ?_))
     replace H : Hp _ w _ ([.blk rb ([.slice (hd a31) ((atL s (⟨o, (show (o).length = 32 from ho)⟩ : Id32) z.Ls).toNat + (z.Ls.length - (((atL s (⟨o, (show (o).length = 32 from ho)⟩ : Id32) z.Ls) + 1).toNat))) c32, .slice (hd z.a2) z.Qs.length z.c2]) 46, _, _, _, _]) := H
     refine ⟨H.sub (.cons _ (.cons_cons _ (.cons_cons _ (.cons_cons _ (List.nil_sublist _))))), ?_⟩
     replace HS := H.sub (.cons _ (.cons_cons _ (.cons_cons _ (.cons_cons _ (List.nil_sublist _)))))
     refine t_done (by kernel_rfl) ?_
     clear HS
     repeat refine c_seq ?_
     refine c_region ?_
     refine l_op (o_val (r_as) ?_)
     first | refine l_end ?_ | refine l_nil ?_
     refine c_ret ?_
     try dsimp only [Exit.then, Exit.inBlock]
     refine e_ret1 (v := VI 0) Try.results49 rfl ?_
     refine ⟨_, rfl, ?_⟩
     have hyes : (look z.Ls (s, (⟨o, ho⟩ : Id32))).isSome = true := hat.1.1 (by omega)
     have hdr := atL_drop s ⟨o, ho⟩ z.Ls (atL s ⟨o, ho⟩ z.Ls).toNat (by omega)
     rw [if_pos hyes, if_pos hyes]
     refine ⟨rfl, rleft_of ((H.permL ((perm_front (j := 0) rfl).trans (.cons _ ((perm_front (j := 3) rfl).trans (.cons _ ((perm_front (j := 1) rfl).trans (.cons _ (.refl _)))))))).sub (.cons_cons _ (.cons_cons _ (.cons_cons _ (List.nil_sublist _))))) ?_ rfl ?_ rfl⟩
     · rw [← hdr, List.length_append, List.length_take, List.length_drop]; omega
     · rw [← hdr]
       simp
       rw [List.take_of_length_le (by rw [List.length_drop]; omega)]
       congr 1
       omega
   ·
    refine (o_val (r_ld (v := .slice (hd z.a1) z.Ls.length z.c1) H (i := 0) rfl rfl ct43 rfl) ?_)
    refine ⟨H.sub (.cons _ (.cons_cons _ (.cons_cons _ (.cons_cons _ (List.nil_sublist _))))), ?_⟩
    replace HS := H.sub (.cons _ (.cons_cons _ (.cons_cons _ (.cons_cons _ (List.nil_sublist _)))))
    refine t_take 15 rfl (by kernel_rfl) (by kernel_rfl) (by kernel_rfl) (fun _ _ _ h => h) (fun w HS => r_slG (s := ⟨hd z.a1, z.Ls.length, z.c1, z.Ls⟩) (((atL s (⟨o, (show (o).length = 32 from ho)⟩ : Id32) z.Ls) + 1).toNat) z.Ls.length z.c1 (lv := some (VI ((atL s (⟨o, (show (o).length = 32 from ho)⟩ : Id32) z.Ls) + 1))) (hv := none) (mv := none) rfl el43 rfl rfl rfl (fun w => by exact sbl (((atL s (⟨o, (show (o).length = 32 from ho)⟩ : Id32) z.Ls) + 1).toNat) (by omega) (by (try simp only []); omega) w)) HS ?_
    refine t_all [1, 5] (by kernel_rfl) (by simp) (all_cons (w_op 1 rfl ?_) (all_cons (w_op 5 rfl ?_) (all_nil)))
    ·
     refine (o_bslG0 (α := (MKey × Int)) (enc := thgE) H sl43 zc93 (by decide) (fun b33 w H hb33 => ?_))
     replace H : Hp _ w _ ([_, _, _, _, .own (some b33) 0 0 ((([] : List (MKey × Int))).flatMap thgE) 93 34]) := H
     refine ⟨H.sub (.cons _ (.cons_cons _ (.cons_cons _ (.cons_cons _ (List.nil_sublist _))))), ?_⟩
     replace HS := H.sub (.cons _ (.cons_cons _ (.cons_cons _ (.cons_cons _ (List.nil_sublist _)))))
     refine t_step 5 rfl (by kernel_rfl) (o_val (r_ld (v := .slice (hd z.a1) z.Ls.length z.c1) H (i := 0) rfl rfl ct43 rfl) ?_)
     refine ⟨H.sub (.cons _ (.cons_cons _ (.cons_cons _ (.cons_cons _ (List.nil_sublist _))))), ?_⟩
     replace HS := H.sub (.cons _ (.cons_cons _ (.cons_cons _ (.cons_cons _ (List.nil_sublist _)))))
     have hol34 := (HS.ownLen (i := 0) rfl).2.1
     refine t_take 7 rfl (by kernel_rfl) (by kernel_rfl) (by kernel_rfl) (fun _ _ _ h => h) (fun w HS => r_slG (s := ⟨hd z.a1, z.Ls.length, z.c1, z.Ls⟩) 0 ((atL s (⟨o, (show (o).length = 32 from ho)⟩ : Id32) z.Ls).toNat) z.c1 (lv := none) (hv := some (VI (atL s (⟨o, (show (o).length = 32 from ho)⟩ : Id32) z.Ls))) (mv := none) rfl el43 rfl rfl rfl (fun w => by exact sbh ((atL s (⟨o, (show (o).length = 32 from ho)⟩ : Id32) z.Ls).toNat) (by omega) (by (try simp only []); omega) w)) HS ?_
     refine t_step 8 rfl (by kernel_rfl) (o_appG (enc := thgE) (s := (Gl.cut ⟨hd z.a1, z.Ls.length, z.c1, z.Ls⟩ 34 0 ((atL s (⟨o, (show (o).length = 32 from ho)⟩ : Id32) z.Ls).toNat) z.c1)) (l' := ((z.Ls).drop 0).take ((atL s (⟨o, (show (o).length = 32 from ho)⟩ : Id32) z.Ls).toNat)) (len' := (atL s (⟨o, (show (o).length = 32 from ho)⟩ : Id32) z.Ls).toNat) rfl (Nat.zero_add _) H (i := 4) rfl sl43 Try.underlying43 rfl rfl ((H.glOwn (i := 1) rfl (by decide) (fun c _ => thgE_len c)).cut (l := 0) (h := (atL s (⟨o, (show (o).length = 32 from ho)⟩ : Id32) z.Ls).toNat) (m := z.c1) (by omega) (by (try simp only []); omega) (by omega) (by (try simp only []); omega)) (by decide) (fun c _ => thgE_all c) (by omega) (by decide) (fun a35 c36 w H => ?_))
     replace H : Hp _ w _ ([_, _, _, _, .own a35 ((atL s (⟨o, (show (o).length = 32 from ho)⟩ : Id32) z.Ls).toNat) c36 ((((z.Ls).drop 0).take ((atL s (⟨o, (show (o).length = 32 from ho)⟩ : Id32) z.Ls).toNat)).flatMap thgE) 93 34]) := H
     refine ⟨H.sub (.cons _ (.cons_cons _ (.cons_cons _ (.cons_cons _ (List.nil_sublist _))))), ?_⟩
     replace HS := H.sub (.cons _ (.cons_cons _ (.cons_cons _ (.cons_cons _ (List.nil_sublist _)))))
     refine t_step 16 rfl (by kernel_rfl) (o_appG (enc := thgE) (s := (Gl.cut ⟨hd z.a1, z.Ls.length, z.c1, z.Ls⟩ 34 (((atL s (⟨o, (show (o).length = 32 from ho)⟩ : Id32) z.Ls) + 1).toNat) z.Ls.length z.c1)) (l' := ((z.Ls).drop 0).take ((atL s (⟨o, (show (o).length = 32 from ho)⟩ : Id32) z.Ls).toNat) ++ (((z.Ls).drop (((atL s (⟨o, (show (o).length = 32 from ho)⟩ : Id32) z.Ls) + 1).toNat)).take (z.Ls.length - (((atL s (⟨o, (show (o).length = 32 from ho)⟩ : Id32) z.Ls) + 1).toNat)))) (len' := (atL s (⟨o, (show (o).length = 32 from ho)⟩ : Id32) z.Ls).toNat + (z.Ls.length - (((atL s (⟨o, (show (o).length = 32 from ho)⟩ : Id32) z.Ls) + 1).toNat))) rfl rfl H (i := 4) rfl sl43 Try.underlying43 rfl rfl ((H.glOwn (i := 1) rfl (by decide) (fun c _ => thgE_len c)).cut (l := ((atL s (⟨o, (show (o).length = 32 from ho)⟩ : Id32) z.Ls) + 1).toNat) (h := z.Ls.length) (m := z.c1) (by omega) (by (try simp only []); omega) (by omega) (by (try simp only []); omega)) (by decide) (fun c _ => thgE_all c) (by omega) (by decide) (fun a37 c38 w H => ?_))
     replace H : Hp _ w _ ([_, _, _, _, .own a37 ((atL s (⟨o, (show (o).length = 32 from ho)⟩ : Id32) z.Ls).toNat + (z.Ls.length - (((atL s (⟨o, (show (o).length = 32 from ho)⟩ : Id32) z.Ls) + 1).toNat))) c38 ((((z.Ls).drop 0).take ((atL s (⟨o, (show (o).length = 32 from ho)⟩ : Id32) z.Ls).toNat) ++ (((z.Ls).drop (((atL s (⟨o, (show (o).length = 32 from ho)⟩ : Id32) z.Ls) + 1).toNat)).take (z.Ls.length - (((atL s (⟨o, (show (o).length = 32 from ho)⟩ : Id32) z.Ls) + 1).toNat)))).flatMap thgE) 93 34]) := H
     refine ⟨H.sub (.cons _ (.cons_cons _ (.cons_cons _ (.cons_cons _ (List.nil_sublist _))))), ?_⟩
     replace HS := H.sub (.cons _ (.cons_cons _ (.cons_cons _ (.cons_cons _ (List.nil_sublist _)))))
     refine t_take 17 rfl (by kernel_rfl) (by kernel_rfl) (by kernel_rfl) (fun _ _ _ h => h) (fun w HS => r_nilc rfl) HS ?_
     refine t_take 18 rfl (by kernel_rfl) (by kernel_rfl) (by kernel_rfl) (fun _ _ _ h => h) (fun w HS => r_fa rfl fo46_0) HS ?_
     refine t_step 19 rfl (by kernel_rfl) (o_st (v := .slice (hd a37) ((atL s (⟨o, (show (o).length = 32 from ho)⟩ : Id32) z.Ls).toNat + (z.Ls.length - (((atL s (⟨o, (show (o).length = 32 from ho)⟩ : Id32) z.Ls) + 1).toNat))) c38) H (i := 0) rfl rfl rfl cs43 rfl (by simp only [List.length_cons, List.length_nil]; omega) (fun w H => ?_))
     replace H : Hp _ w _ ([.blk rb ([.slice (hd a37) ((atL s (⟨o, (show (o).length = 32 from ho)⟩ : Id32) z.Ls).toNat + (z.Ls.length - (((atL s (⟨o, (show (o).length = 32 from ho)⟩ : Id32) z.Ls) + 1).toNat))) c38, .slice (hd z.a2) z.Qs.length z.c2]) 46, _, _, _, _]) := H
     refine ⟨H.sub (.cons _ (.cons_cons _ (.cons_cons _ (.cons_cons _ (List.nil_sublist _))))), ?_⟩
     replace HS := H.sub (.cons _ (.cons_cons _ (.cons_cons _ (.cons_cons _ (List.nil_sublist _)))))
     refine t_done (by kernel_rfl) ?_
     clear HS
     repeat refine c_seq ?_
     refine c_region ?_
     refine l_op (o_val (r_as) ?_)
     first | refine l_end ?_ | refine l_nil ?_
     refine c_ret ?_
     try dsimp only [Exit.then, Exit.inBlock]
     refine e_ret1 (v := VI 0) Try.results49 rfl ?_
     refine ⟨_, rfl, ?_⟩
     have hyes : (look z.Ls (s, (⟨o, ho⟩ : Id32))).isSome = true := hat.1.1 (by omega)
     have hdr := atL_drop s ⟨o, ho⟩ z.Ls (atL s ⟨o, ho⟩ z.Ls).toNat (by omega)
     rw [if_pos hyes, if_pos hyes]
     refine ⟨rfl, rleft_of ((H.permL ((perm_front (j := 0) rfl).trans (.cons _ ((perm_front (j := 3) rfl).trans (.cons _ ((perm_front (j := 1) rfl).trans (.cons _ (.refl _)))))))).sub (.cons_cons _ (.cons_cons _ (.cons_cons _ (List.nil_sublist _))))) ?_ rfl ?_ rfl⟩
     · rw [← hdr, List.length_append, List.length_take, List.length_drop]; omega
     · rw [← hdr]
       simp
       rw [List.take_of_length_le (by rw [List.length_drop]; omega)]
       congr 1
       omega
    ·
     refine (o_val (r_ld (v := .slice (hd z.a1) z.Ls.length z.c1) H (i := 0) rfl rfl ct43 rfl) ?_)
     refine ⟨H.sub (.cons _ (.cons_cons _ (.cons_cons _ (.cons_cons _ (List.nil_sublist _))))), ?_⟩
     replace HS := H.sub (.cons _ (.cons_cons _ (.cons_cons _ (.cons_cons _ (List.nil_sublist _)))))
     have hol39 := (HS.ownLen (i := 0) rfl).2.1
     refine t_take 7 rfl (by kernel_rfl) (by kernel_rfl) (by kernel_rfl) (fun _ _ _ h => h) (fun w HS => r_slG (s := ⟨hd z.a1, z.Ls.length, z.c1, z.Ls⟩) 0 ((atL s (⟨o, (show (o).length = 32 from ho)⟩ : Id32) z.Ls).toNat) z.c1 (lv := none) (hv := some (VI (atL s (⟨o, (show (o).length = 32 from ho)⟩ : Id32) z.Ls))) (mv := none) rfl el43 rfl rfl rfl (fun w => by exact sbh ((atL s (⟨o, (show (o).length = 32 from ho)⟩ : Id32) z.Ls).toNat) (by omega) (by (try simp only []); omega) w)) HS ?_
     refine t_step 1 rfl (by kernel_rfl) (o_bslG0 (α := (MKey × Int)) (enc := thgE) H sl43 zc93 (by decide) (fun b40 w H hb40 => ?_))
     replace H : Hp _ w _ ([_, _, _, _, .own (some b40) 0 0 ((([] : List (MKey × Int))).flatMap thgE) 93 34]) := H
     refine ⟨H.sub (.cons _ (.cons_cons _ (.cons_cons _ (.cons_cons _ (List.nil_sublist _))))), ?_⟩
     replace HS := H.sub (.cons _ (.cons_cons _ (.cons_cons _ (.cons_cons _ (List.nil_sublist _)))))
     refine t_step 8 rfl (by kernel_rfl) (o_appG (enc := thgE) (s := (Gl.cut ⟨hd z.a1, z.Ls.length, z.c1, z.Ls⟩ 34 0 ((atL s (⟨o, (show (o).length = 32 from ho)⟩ : Id32) z.Ls).toNat) z.c1)) (l' := ((z.Ls).drop 0).take ((atL s (⟨o, (show (o).length = 32 from ho)⟩ : Id32) z.Ls).toNat)) (len' := (atL s (⟨o, (show (o).length = 32 from ho)⟩ : Id32) z.Ls).toNat) rfl (Nat.zero_add _) H (i := 4) rfl sl43 Try.underlying43 rfl rfl ((H.glOwn (i := 1) rfl (by decide) (fun c _ => thgE_len c)).cut (l := 0) (h := (atL s (⟨o, (show (o).length = 32 from ho)⟩ : Id32) z.Ls).toNat) (m := z.c1) (by omega) (by (try simp only []); omega) (by omega) (by (try simp only []); omega)) (by decide) (fun c _ => thgE_all c) (by omega) (by decide) (fun a41 c42 w H => ?_))
     replace H : Hp _ w _ ([_, _, _, _, .own a41 ((atL s (⟨o, (show (o).length = 32 from ho)⟩ : Id32) z.Ls).toNat) c42 ((((z.Ls).drop 0).take ((atL s (⟨o, (show (o).length = 32 from ho)⟩ : Id32) z.Ls).toNat)).flatMap thgE) 93 34]) := H
     refine ⟨H.sub (.cons _ (.cons_cons _ (.cons_cons _ (.cons_cons _ (List.nil_sublist _))))), ?_⟩
     replace HS := H.sub (.cons _ (.cons_cons _ (.cons_cons _ (.cons_cons _ (List.nil_sublist _)))))
     refine t_step 16 rfl (by kernel_rfl) (o_appG (enc := thgE) (s := (Gl.cut ⟨hd z.a1, z.Ls.length, z.c1, z.Ls⟩ 34 (((atL s (⟨o, (show (o).length = 32 from ho)⟩ : Id32) z.Ls) + 1).toNat) z.Ls.length z.c1)) (l' := ((z.Ls).drop 0).take ((atL s (⟨o, (show (o).length = 32 from ho)⟩ : Id32) z.Ls).toNat) ++ (((z.Ls).drop (((atL s (⟨o, (show (o).length = 32 from ho)⟩ : Id32) z.Ls) + 1).toNat)).take (z.Ls.length - (((atL s (⟨o, (show (o).length = 32 from ho)⟩ : Id32) z.Ls) + 1).toNat)))) (len' := (atL s (⟨o, (show (o).length = 32 from ho)⟩ : Id32) z.Ls).toNat + (z.Ls.length - (((atL s (⟨o, (show (o).length = 32 from ho)⟩ : Id32) z.Ls) + 1).toNat))) rfl rfl H (i := 4) rfl sl43 Try.underlying43 rfl rfl ((H.glOwn (i := 1) rfl (by decide) (fun c _ => thgE_len c)).cut (l := ((atL s (⟨o, (show (o).length = 32 from ho)⟩ : Id32) z.Ls) + 1).toNat) (h := z.Ls.length) (m := z.c1) (by omega) (by (try simp only []); omega) (by omega) (by (try simp only []); omega)) (by decide) (fun c _ => thgE_all c) (by omega) (by decide) (fun a43 c44 w H => ?_))
     replace H : Hp _ w _ ([_, _, _, _, .own a43 ((atL s (⟨o, (show (o).length = 32 from ho)⟩ : Id32) z.Ls).toNat + (z.Ls.length - (((atL s (⟨o, (show (o).length = 32 from ho)⟩ : Id32) z.Ls) + 1).toNat))) c44 ((((z.Ls).drop 0).take ((atL s (⟨o, (show (o).length = 32 from ho)⟩ : Id32) z.Ls).toNat) ++ (((z.Ls).drop (((atL s (⟨o, (show (o).length = 32 from ho)⟩ : Id32) z.Ls) + 1).toNat)).take (z.Ls.length - (((atL s (⟨o, (show (o).length = 32 from ho)⟩ : Id32) z.Ls) + 1).toNat)))).flatMap thgE) 93 34]) := H
     refine ⟨H.sub (.cons _ (.cons_cons _ (.cons_cons _ (.cons_cons _ (List.nil_sublist _))))), ?_⟩
     replace HS := H.sub (.cons _ (.cons_cons _ (.cons_cons _ (.cons_cons _ (List.nil_sublist _)))))
     refine t_take 17 rfl (by kernel_rfl) (by kernel_rfl) (by kernel_rfl) (fun _ _ _ h => h) (fun w HS => r_nilc rfl) HS ?_
     refine t_take 18 rfl (by kernel_rfl) (by kernel_rfl) (by kernel_rfl) (fun _ _ _ h => h) (fun w HS => r_fa rfl fo46_0) HS ?_
     refine t_step 19 rfl (by kernel_rfl) (o_st (v := .slice (hd a43) ((atL s (⟨o, (show (o).length = 32 from ho)⟩ : Id32) z.Ls).toNat + (z.Ls.length - (((atL s (⟨o, (show (o).length = 32 from ho)⟩ : Id32) z.Ls) + 1).toNat))) c44) H (i := 0) rfl rfl rfl cs43 rfl (by simp only [List.length_cons, List.length_nil]; omega) (fun w H => ?_))
     replace H : Hp _ w _ ([.blk rb ([.slice (hd a43) ((atL s (⟨o, (show (o).length = 32 from ho)⟩ : Id32) z.Ls).toNat + (z.Ls.length - (((atL s (⟨o, (show (o).length = 32 from ho)⟩ : Id32) z.Ls) + 1).toNat))) c44, .slice (hd z.a2) z.Qs.length z.c2]) 46, _, _, _, _]) := H
     refine ⟨H.sub (.cons _ (.cons_cons _ (.cons_cons _ (.cons_cons _ (List.nil_sublist _))))), ?_⟩
     replace HS := H.sub (.cons _ (.cons_cons _ (.cons_cons _ (.cons_cons _ (List.nil_sublist _)))))
     refine t_done (by kernel_rfl) ?_
     clear HS
     repeat refine c_seq ?_
     refine c_region ?_
     refine l_op (o_val (r_as) ?_)
     first | refine l_end ?_ | refine l_nil ?_
     refine c_ret ?_
     try dsimp only [Exit.then, Exit.inBlock]
     refine e_ret1 (v := VI 0) Try.results49 rfl ?_
     refine ⟨_, rfl, ?_⟩
     have hyes : (look z.Ls (s, (⟨o, ho⟩ : Id32))).isSome = true := hat.1.1 (by omega)
     have hdr := atL_drop s ⟨o, ho⟩ z.Ls (atL s ⟨o, ho⟩ z.Ls).toNat (by omega)
     rw [if_pos hyes, if_pos hyes]
     refine ⟨rfl, rleft_of ((H.permL ((perm_front (j := 0) rfl).trans (.cons _ ((perm_front (j := 3) rfl).trans (.cons _ ((perm_front (j := 1) rfl).trans (.cons _ (.refl _)))))))).sub (.cons_cons _ (.cons_cons _ (.cons_cons _ (List.nil_sublist _))))) ?_ rfl ?_ rfl⟩
     · rw [← hdr, List.length_append, List.length_take, List.length_drop]; omega
     · rw [← hdr]
       simp
       rw [List.take_of_length_le (by rw [List.length_drop]; omega)]
       congr 1
       omega
theorem addR_ret (w0 : World) (rb : Nat) (z : RW) (hO : Own w0 (rch rb z)) (hl1 : z.Ls.length ≤ 1048576) (hl2 : z.Qs.length ≤ 1048576) (hnn : ∀ p ∈ z.Ls, 0 ≤ p.2) (s o : List UInt8) (ho : o.length = 32) (n : Int) (hsm : sumT s z.Ls ≤ 9223372036854775807) (hmy : 0 ≤ mayQ s z.Qs ∧ mayQ s z.Qs ≤ 9223372036854775807) :
    Ret Try.prog 48 [.pointer (some ⟨rb, 0, none⟩), .string ⟨(s).toArray⟩, .agg ((o).map V8).toArray, VI n] w0 fun v w' => v = .tuple #[.bool (decide (¬ n < 0 ∧ (look z.Ls (s, (⟨o, ho⟩ : Id32))).isSome = false ∧ ¬ (mayQ s z.Qs < n ∨ mayQ s z.Qs - n < sumT s z.Ls))), VI (if n < 0 then 1 else if (look z.Ls (s, (⟨o, ho⟩ : Id32))).isSome then 0 else if mayQ s z.Qs < n ∨ mayQ s z.Qs - n < sumT s z.Ls then 16 else 0)] ∧ RLeft w0 w' rb z (if (¬ n < 0 ∧ (look z.Ls (s, (⟨o, ho⟩ : Id32))).isSome = false ∧ ¬ (mayQ s z.Qs < n ∨ mayQ s z.Qs - n < sumT s z.Ls)) then z.Ls ++ [((s, (⟨o, ho⟩ : Id32)), n)] else z.Ls) z.Qs := by
  refine ret_mk Try.func48 rfl Try.ntmps48 (by simp) ?_
  have H : Hp w0 w0 (keys (rch rb z)) [.blk rb ([.slice (hd z.a1) z.Ls.length z.c1, .slice (hd z.a2) z.Qs.length z.c2]) 46, .own z.a1 z.Ls.length z.c1 ((z.Ls).flatMap thgE) 93 34, .own z.a2 z.Qs.length z.c2 ((z.Qs).flatMap limE) 98 2] := hO.start
  repeat refine c_seq ?_
  refine c_region ?_
  refine l_op (o_box (v := .agg ((o).map V8).toArray) H rfl (fun b1 w H hb1 => ?_))
  replace H : Hp _ w _ ([.blk rb ([.slice (hd z.a1) z.Ls.length z.c1, .slice (hd z.a2) z.Qs.length z.c2]) 46, .own z.a1 z.Ls.length z.c1 ((z.Ls).flatMap thgE) 93 34, .own z.a2 z.Qs.length z.c2 ((z.Qs).flatMap limE) 98 2, .blk b1 ((o).map V8) 36]) := H
  refine l_op (o_val (r_as) ?_)
  refine l_op (o_val (r_as) ?_)
  first | refine l_end ?_ | refine l_nil ?_
  repeat refine c_seq ?_
  refine c_region ?_
  refine l_op (o_val (r_mv) ?_)
  refine l_op (o_val (r_bin (a := n) (b := 0) rfl rfl (fun _ => b_lss)) ?_)
  first | refine l_end ?_ | refine l_nil ?_
  by_cases hc2 : n < 0
  ·
   repeat refine c_seq ?_
   refine c_yes (by exact congrArg Value.bool (decide_eq_true hc2)) ?_
   repeat refine c_seq ?_
   refine c_region ?_
   refine l_op (o_val (r_as) ?_)
   refine l_op (o_val (r_as) ?_)
   first | refine l_end ?_ | refine l_nil ?_
   refine c_ret ?_
   try dsimp only [Exit.then, Exit.inBlock]
   refine e_retN (vs := [.bool false, VI 1]) _ Try.results48 rfl (resT (v := .bool false) rfl (resT (v := VI 1) rfl (resZ))) ?_
   refine ⟨_, rfl, ?_⟩
   have hC : ¬ (¬ n < 0 ∧ (look z.Ls (s, (⟨o, ho⟩ : Id32))).isSome = false ∧ ¬ (mayQ s z.Qs < n ∨ mayQ s z.Qs - n < sumT s z.Ls)) := fun h => by omega
   rw [decide_eq_false hC, if_neg hC, if_pos (by omega)]
   exact ⟨rfl, rleft_of (H.sub (.cons_cons _ (.cons_cons _ (.cons_cons _ (List.nil_sublist _))))) rfl rfl rfl rfl⟩
  ·
   repeat refine c_seq ?_
   refine c_no (by exact congrArg Value.bool (decide_eq_false hc2)) ?_
   refine c_skip ?_
   repeat refine c_seq ?_
   refine c_region ?_
   refine l_op (o_val (r_mv) ?_)
   refine l_op (o_val (r_mv) ?_)
   refine l_op (o_val (r_ldAA (l := o) H (i := 3) rfl rfl rt36 (show (o).length = 32 from ho)) ?_)
   refine l_op (o_callR Try.func24 rfl rfl rfl (hasR_ret _ rb z (H.ownP (LL := [.blk rb ([.slice (hd z.a1) z.Ls.length z.c1, .slice (hd z.a2) z.Qs.length z.c2]) 46, .own z.a1 z.Ls.length z.c1 ((z.Ls).flatMap thgE) 93 34, .own z.a2 z.Qs.length z.c2 ((z.Qs).flatMap limE) 98 2, .blk b1 ((o).map V8) 36]) (L1 := [.blk rb ([.slice (hd z.a1) z.Ls.length z.c1, .slice (hd z.a2) z.Qs.length z.c2]) 46, .own z.a1 z.Ls.length z.c1 ((z.Ls).flatMap thgE) 93 34, .own z.a2 z.Qs.length z.c2 ((z.Qs).flatMap limE) 98 2]) (Lr := [.blk b1 ((o).map V8) 36]) (.refl _) rfl) (by first | assumption | omega) (by first | assumption | omega) s o (show (o).length = 32 from ho)) ?_)
   rintro _ w ⟨rfl, Hc⟩
   replace H := H.callP (L1 := [.blk rb ([.slice (hd z.a1) z.Ls.length z.c1, .slice (hd z.a2) z.Qs.length z.c2]) 46, .own z.a1 z.Ls.length z.c1 ((z.Ls).flatMap thgE) 93 34, .own z.a2 z.Qs.length z.c2 ((z.Qs).flatMap limE) 98 2]) (Lr := [.blk b1 ((o).map V8) 36]) (LL := [.blk rb ([.slice (hd z.a1) z.Ls.length z.c1, .slice (hd z.a2) z.Qs.length z.c2]) 46, .own z.a1 z.Ls.length z.c1 ((z.Ls).flatMap thgE) 93 34, .own z.a2 z.Qs.length z.c2 ((z.Qs).flatMap limE) 98 2, .blk b1 ((o).map V8) 36]) (.refl _) rfl Hc ((perm_front (j := 1) rfl).trans (.cons _ ((perm_front (j := 1) rfl).trans (.cons _ ((perm_front (j := 1) rfl).trans (.cons _ (.refl _)))))))
   clear Hc
   replace H : Hp _ w _ [_, _, _, _] := H
   first | refine l_end ?_ | refine l_nil ?_
   have hc30 := Bool.eq_false_or_eq_true ((look z.Ls (s, (⟨o, (show (o).length = 32 from ho)⟩ : Id32))).isSome)
   rcases hc30 with hc3 | hc3
   ·
    repeat refine c_seq ?_
    refine c_yes (by exact congrArg Value.bool hc3) ?_
    repeat refine c_seq ?_
    refine c_region ?_
    refine l_op (o_val (r_as) ?_)
    refine l_op (o_val (r_as) ?_)
    first | refine l_end ?_ | refine l_nil ?_
    refine c_ret ?_
    try dsimp only [Exit.then, Exit.inBlock]
    refine e_retN (vs := [.bool false, VI 0]) _ Try.results48 rfl (resT (v := .bool false) rfl (resT (v := VI 0) rfl (resZ))) ?_
    refine ⟨_, rfl, ?_⟩
    have hC : ¬ (¬ n < 0 ∧ (look z.Ls (s, (⟨o, ho⟩ : Id32))).isSome = false ∧ ¬ (mayQ s z.Qs < n ∨ mayQ s z.Qs - n < sumT s z.Ls)) := fun h => by rw [hc3] at h; cases h.2.1
    rw [decide_eq_false hC, if_neg hC, if_neg (by omega), if_pos hc3]
    exact ⟨rfl, rleft_of (H.sub (.cons_cons _ (.cons_cons _ (.cons_cons _ (List.nil_sublist _))))) rfl rfl rfl rfl⟩
   ·
    repeat refine c_seq ?_
    refine c_no (by exact congrArg Value.bool hc3) ?_
    refine c_skip ?_
    repeat refine c_seq ?_
    refine c_region ?_
    refine l_op (o_val (r_mv) ?_)
    refine l_op (o_val (r_mv) ?_)
    refine l_op (o_val (r_mv) ?_)
    refine l_op (o_callR Try.func70 rfl rfl rfl (mayR_ret _ rb z (H.ownP (LL := [.blk rb ([.slice (hd z.a1) z.Ls.length z.c1, .slice (hd z.a2) z.Qs.length z.c2]) 46, .own z.a1 z.Ls.length z.c1 ((z.Ls).flatMap thgE) 93 34, .own z.a2 z.Qs.length z.c2 ((z.Qs).flatMap limE) 98 2, .blk b1 ((o).map V8) 36]) (L1 := [.blk rb ([.slice (hd z.a1) z.Ls.length z.c1, .slice (hd z.a2) z.Qs.length z.c2]) 46, .own z.a1 z.Ls.length z.c1 ((z.Ls).flatMap thgE) 93 34, .own z.a2 z.Qs.length z.c2 ((z.Qs).flatMap limE) 98 2]) (Lr := [.blk b1 ((o).map V8) 36]) (.refl _) rfl) (by first | assumption | omega) (by first | assumption | omega) s) ?_)
    rintro _ w ⟨rfl, Hc⟩
    replace H := H.callP (L1 := [.blk rb ([.slice (hd z.a1) z.Ls.length z.c1, .slice (hd z.a2) z.Qs.length z.c2]) 46, .own z.a1 z.Ls.length z.c1 ((z.Ls).flatMap thgE) 93 34, .own z.a2 z.Qs.length z.c2 ((z.Qs).flatMap limE) 98 2]) (Lr := [.blk b1 ((o).map V8) 36]) (LL := [.blk rb ([.slice (hd z.a1) z.Ls.length z.c1, .slice (hd z.a2) z.Qs.length z.c2]) 46, .own z.a1 z.Ls.length z.c1 ((z.Ls).flatMap thgE) 93 34, .own z.a2 z.Qs.length z.c2 ((z.Qs).flatMap limE) 98 2, .blk b1 ((o).map V8) 36]) (.refl _) rfl Hc ((perm_front (j := 1) rfl).trans (.cons _ ((perm_front (j := 1) rfl).trans (.cons _ ((perm_front (j := 1) rfl).trans (.cons _ (.refl _)))))))
    clear Hc
    replace H : Hp _ w _ [_, _, _, _] := H
    refine l_op (o_val (r_bin (a := n) (b := mayQ s z.Qs) rfl rfl (fun _ => b_gtr)) ?_)
    refine l_op (o_val (r_mv) ?_)
    by_cases hc4 : mayQ s z.Qs < n
    ·
     refine l_no rfl rfl (by exact congrArg Value.bool (decide_eq_true hc4)) rfl ?_
     refine l_no rfl rfl (by exact congrArg Value.bool (decide_eq_true hc4)) rfl ?_
     refine l_no rfl rfl (by exact congrArg Value.bool (decide_eq_true hc4)) rfl ?_
     refine l_no rfl rfl (by exact congrArg Value.bool (decide_eq_true hc4)) rfl ?_
     refine l_no rfl rfl (by exact congrArg Value.bool (decide_eq_true hc4)) rfl ?_
     refine l_no rfl rfl (by exact congrArg Value.bool (decide_eq_true hc4)) rfl ?_
     refine l_no rfl rfl (by exact congrArg Value.bool (decide_eq_true hc4)) rfl ?_
     refine l_no rfl rfl (by exact congrArg Value.bool (decide_eq_true hc4)) rfl ?_
     refine l_no rfl rfl (by exact congrArg Value.bool (decide_eq_true hc4)) rfl ?_
     refine l_op (o_val (r_pick (b := true) (congrArg Value.bool (decide_eq_true hc4))) ?_)
     first | refine l_end ?_ | refine l_nil ?_
     repeat refine c_seq ?_
     refine c_yes rfl ?_
     repeat refine c_seq ?_
     refine c_region ?_
     refine l_op (o_val (r_as) ?_)
     refine l_op (o_val (r_as) ?_)
     first | refine l_end ?_ | refine l_nil ?_
     refine c_ret ?_
     try dsimp only [Exit.then, Exit.inBlock]
     refine e_retN (vs := [.bool false, VI 16]) _ Try.results48 rfl (resT (v := .bool false) rfl (resT (v := VI 16) rfl (resZ))) ?_
     refine ⟨_, rfl, ?_⟩
     have hC : ¬ (¬ n < 0 ∧ (look z.Ls (s, (⟨o, ho⟩ : Id32))).isSome = false ∧ ¬ (mayQ s z.Qs < n ∨ mayQ s z.Qs - n < sumT s z.Ls)) := fun h => by omega
     rw [decide_eq_false hC, if_neg hC, if_neg (by omega), if_neg (by rw [hc3]; decide), if_pos (by omega)]
     exact ⟨rfl, rleft_of (H.sub (.cons_cons _ (.cons_cons _ (.cons_cons _ (List.nil_sublist _))))) rfl rfl rfl rfl⟩
    ·
     refine l_yes rfl rfl (by exact congrArg Value.bool (decide_eq_false hc4)) (o_val (r_mv) ?_)
     refine l_yes rfl rfl (by exact congrArg Value.bool (decide_eq_false hc4)) (o_val (r_mv) ?_)
     refine l_yes rfl rfl (by exact congrArg Value.bool (decide_eq_false hc4)) (o_callR Try.func22 rfl rfl rfl (usedR_ret _ rb z (H.ownP (LL := [.blk rb ([.slice (hd z.a1) z.Ls.length z.c1, .slice (hd z.a2) z.Qs.length z.c2]) 46, .own z.a1 z.Ls.length z.c1 ((z.Ls).flatMap thgE) 93 34, .own z.a2 z.Qs.length z.c2 ((z.Qs).flatMap limE) 98 2, .blk b1 ((o).map V8) 36]) (L1 := [.blk rb ([.slice (hd z.a1) z.Ls.length z.c1, .slice (hd z.a2) z.Qs.length z.c2]) 46, .own z.a1 z.Ls.length z.c1 ((z.Ls).flatMap thgE) 93 34, .own z.a2 z.Qs.length z.c2 ((z.Qs).flatMap limE) 98 2]) (Lr := [.blk b1 ((o).map V8) 36]) (.refl _) rfl) (by first | assumption | omega) (by first | assumption | omega) hnn s hsm) ?_)
     rintro _ w ⟨rfl, Hc⟩
     replace H := H.callP (L1 := [.blk rb ([.slice (hd z.a1) z.Ls.length z.c1, .slice (hd z.a2) z.Qs.length z.c2]) 46, .own z.a1 z.Ls.length z.c1 ((z.Ls).flatMap thgE) 93 34, .own z.a2 z.Qs.length z.c2 ((z.Qs).flatMap limE) 98 2]) (Lr := [.blk b1 ((o).map V8) 36]) (LL := [.blk rb ([.slice (hd z.a1) z.Ls.length z.c1, .slice (hd z.a2) z.Qs.length z.c2]) 46, .own z.a1 z.Ls.length z.c1 ((z.Ls).flatMap thgE) 93 34, .own z.a2 z.Qs.length z.c2 ((z.Qs).flatMap limE) 98 2, .blk b1 ((o).map V8) 36]) (.refl _) rfl Hc ((perm_front (j := 1) rfl).trans (.cons _ ((perm_front (j := 1) rfl).trans (.cons _ ((perm_front (j := 1) rfl).trans (.cons _ (.refl _)))))))
     clear Hc
     replace H : Hp _ w _ [_, _, _, _] := H
     refine l_yes rfl rfl (by exact congrArg Value.bool (decide_eq_false hc4)) (o_val (r_mv) ?_)
     refine l_yes rfl rfl (by exact congrArg Value.bool (decide_eq_false hc4)) (o_val (r_mv) ?_)
     refine l_yes rfl rfl (by exact congrArg Value.bool (decide_eq_false hc4)) (o_callR Try.func70 rfl rfl rfl (mayR_ret _ rb z (H.ownP (LL := [.blk rb ([.slice (hd z.a1) z.Ls.length z.c1, .slice (hd z.a2) z.Qs.length z.c2]) 46, .own z.a1 z.Ls.length z.c1 ((z.Ls).flatMap thgE) 93 34, .own z.a2 z.Qs.length z.c2 ((z.Qs).flatMap limE) 98 2, .blk b1 ((o).map V8) 36]) (L1 := [.blk rb ([.slice (hd z.a1) z.Ls.length z.c1, .slice (hd z.a2) z.Qs.length z.c2]) 46, .own z.a1 z.Ls.length z.c1 ((z.Ls).flatMap thgE) 93 34, .own z.a2 z.Qs.length z.c2 ((z.Qs).flatMap limE) 98 2]) (Lr := [.blk b1 ((o).map V8) 36]) (.refl _) rfl) (by first | assumption | omega) (by first | assumption | omega) s) ?_)
     rintro _ w ⟨rfl, Hc⟩
     replace H := H.callP (L1 := [.blk rb ([.slice (hd z.a1) z.Ls.length z.c1, .slice (hd z.a2) z.Qs.length z.c2]) 46, .own z.a1 z.Ls.length z.c1 ((z.Ls).flatMap thgE) 93 34, .own z.a2 z.Qs.length z.c2 ((z.Qs).flatMap limE) 98 2]) (Lr := [.blk b1 ((o).map V8) 36]) (LL := [.blk rb ([.slice (hd z.a1) z.Ls.length z.c1, .slice (hd z.a2) z.Qs.length z.c2]) 46, .own z.a1 z.Ls.length z.c1 ((z.Ls).flatMap thgE) 93 34, .own z.a2 z.Qs.length z.c2 ((z.Qs).flatMap limE) 98 2, .blk b1 ((o).map V8) 36]) (.refl _) rfl Hc ((perm_front (j := 1) rfl).trans (.cons _ ((perm_front (j := 1) rfl).trans (.cons _ ((perm_front (j := 1) rfl).trans (.cons _ (.refl _)))))))
     clear Hc
     replace H : Hp _ w _ [_, _, _, _] := H
     refine l_yes rfl rfl (by exact congrArg Value.bool (decide_eq_false hc4)) (o_val (r_mv) ?_)
     refine l_yes rfl rfl (by exact congrArg Value.bool (decide_eq_false hc4)) (o_val (r_bin (a := mayQ s z.Qs) (b := n) rfl rfl (fun _ => b_sub (by omega) (by omega))) ?_)
     refine l_yes rfl rfl (by exact congrArg Value.bool (decide_eq_false hc4)) (o_val (r_bin (a := sumT s z.Ls) (b := (mayQ s z.Qs) - n) rfl rfl (fun _ => b_gtr)) ?_)
     refine l_op (o_val (r_pick (b := false) (congrArg Value.bool (decide_eq_false hc4))) ?_)
     first | refine l_end ?_ | refine l_nil ?_
     by_cases hc5 : (mayQ s z.Qs) - n < sumT s z.Ls
     ·
      repeat refine c_seq ?_
      refine c_yes (by exact congrArg Value.bool (decide_eq_true hc5)) ?_
      repeat refine c_seq ?_
      refine c_region ?_
      refine l_op (o_val (r_as) ?_)
      refine l_op (o_val (r_as) ?_)
      first | refine l_end ?_ | refine l_nil ?_
      refine c_ret ?_
      try dsimp only [Exit.then, Exit.inBlock]
      refine e_retN (vs := [.bool false, VI 16]) _ Try.results48 rfl (resT (v := .bool false) rfl (resT (v := VI 16) rfl (resZ))) ?_
      refine ⟨_, rfl, ?_⟩
      have hC : ¬ (¬ n < 0 ∧ (look z.Ls (s, (⟨o, ho⟩ : Id32))).isSome = false ∧ ¬ (mayQ s z.Qs < n ∨ mayQ s z.Qs - n < sumT s z.Ls)) := fun h => by omega
      rw [decide_eq_false hC, if_neg hC, if_neg (by omega), if_neg (by rw [hc3]; decide), if_pos (by omega)]
      exact ⟨rfl, rleft_of (H.sub (.cons_cons _ (.cons_cons _ (.cons_cons _ (List.nil_sublist _))))) rfl rfl rfl rfl⟩
     ·
      repeat refine c_seq ?_
      refine c_no (by exact congrArg Value.bool (decide_eq_false hc5)) ?_
      refine c_skip ?_
      repeat refine c_seq ?_
      refine wp_held (fun w => Hp w0 w (keys (rch rb z)) [.own z.a2 z.Qs.length z.c2 ((z.Qs).flatMap limE) 98 2, .blk b1 ((o).map V8) 36]) mixed ?_
      replace H := H.drew
      have HS := H.sub (.cons _ (.cons _ (.cons_cons _ (.cons_cons _ (List.nil_sublist _)))))
      refine t_take 0 rfl (by kernel_rfl) (by kernel_rfl) (by kernel_rfl) (fun _ _ _ h => h) (fun w HS => r_mv) HS ?_
      refine t_take 1 rfl (by kernel_rfl) (by kernel_rfl) (by kernel_rfl) (fun _ _ _ h => h) (fun w HS => r_mv) HS ?_
      refine t_take 2 rfl (by kernel_rfl) (by kernel_rfl) (by kernel_rfl) (fun _ _ _ h => h) (fun w HS => r_nilc rfl) HS ?_
      refine t_take 3 rfl (by kernel_rfl) (by kernel_rfl) (by kernel_rfl) (fun _ _ _ h => h) (fun w HS => r_fa rfl fo46_0) HS ?_
      refine t_take 5 rfl (by kernel_rfl) (by kernel_rfl) (by kernel_rfl) (fun _ _ _ h => h) (fun w HS => r_mv) HS ?_
      refine t_take 6 rfl (by kernel_rfl) (by kernel_rfl) (by kernel_rfl) (fun _ _ _ h => h) (fun w HS => r_ldAA (l := o) HS (i := 1) rfl rfl rt36 (show (o).length = 32 from ho)) HS ?_
      refine t_take 7 rfl (by kernel_rfl) (by kernel_rfl) (by kernel_rfl) (fun _ _ _ h => h) (fun w HS => r_mv) HS ?_
      refine t_take 8 rfl (by kernel_rfl) (by kernel_rfl) (by kernel_rfl) (fun _ _ _ h => h) (fun w HS => r_bldG (Z := ([.string ⟨(([] : List UInt8)).toArray⟩] : List Value) ++ ((List.replicate 32 (0 : UInt8)).map V8 ++ (([VI 0] : List Value)))) (E := ([.string ⟨(s).toArray⟩] : List Value) ++ ((o).map V8 ++ (([VI n] : List Value)))) (pv := [(0, .string ⟨(s).toArray⟩), (1, .agg ((o).map V8).toArray), (2, VI n)]) bd93 rfl rfl (.cons (A := ([] : List Value)) (B := ([.string ⟨(([] : List UInt8)).toArray⟩] : List Value)) (D := (List.replicate 32 (0 : UInt8)).map V8 ++ (([VI 0] : List Value))) (V := ([.string ⟨(s).toArray⟩] : List Value)) (a := 0) (b := 1) rfl (show Cut3 (([.string ⟨(([] : List UInt8)).toArray⟩] : List Value) ++ ((List.replicate 32 (0 : UInt8)).map V8 ++ (([VI 0] : List Value)))) (([] : List Value)) (([.string ⟨(([] : List UInt8)).toArray⟩] : List Value)) ((List.replicate 32 (0 : UInt8)).map V8 ++ (([VI 0] : List Value))) 0 1 from ⟨(show ([.string ⟨(([] : List UInt8)).toArray⟩] : List Value) ++ ((List.replicate 32 (0 : UInt8)).map V8 ++ (([VI 0] : List Value))) = ([] : List Value) ++ ((([.string ⟨(([] : List UInt8)).toArray⟩] : List Value)) ++ ((List.replicate 32 (0 : UInt8)).map V8 ++ (([VI 0] : List Value)))) from by simp only [List.cons_append, List.nil_append]), (by rfl), (by rfl)⟩) (by rfl) (by rfl) ((show ([.string ⟨(s).toArray⟩] : List Value) ++ ((List.replicate 32 (0 : UInt8)).map V8 ++ (([VI 0] : List Value))) = ([] : List Value) ++ ((([.string ⟨(s).toArray⟩] : List Value)) ++ ((List.replicate 32 (0 : UInt8)).map V8 ++ (([VI 0] : List Value)))) from by simp only [List.cons_append, List.nil_append]) ▸ .cons (A := ([.string ⟨(s).toArray⟩] : List Value)) (B := (List.replicate 32 (0 : UInt8)).map V8) (D := ([VI 0] : List Value)) (V := (o).map V8) (a := 1) (b := 32) rfl (show Cut3 (([.string ⟨(s).toArray⟩] : List Value) ++ ((List.replicate 32 (0 : UInt8)).map V8 ++ (([VI 0] : List Value)))) (([.string ⟨(s).toArray⟩] : List Value)) ((List.replicate 32 (0 : UInt8)).map V8) (([VI 0] : List Value)) 1 32 from ⟨(show ([.string ⟨(s).toArray⟩] : List Value) ++ ((List.replicate 32 (0 : UInt8)).map V8 ++ (([VI 0] : List Value))) = ([.string ⟨(s).toArray⟩] : List Value) ++ (((List.replicate 32 (0 : UInt8)).map V8) ++ (([VI 0] : List Value))) from by simp only [List.cons_append, List.nil_append]), (by rfl), (by simp only [List.length_map, (show (List.replicate 32 (0 : UInt8)).length = 32 from (List.length_replicate ..))])⟩) (by rfl) (by simp only [List.length_map, (show (o).length = 32 from ho)]) ((show ([.string ⟨(s).toArray⟩] : List Value) ++ ((o).map V8 ++ (([VI 0] : List Value))) = ([.string ⟨(s).toArray⟩] : List Value) ++ (((o).map V8) ++ (([VI 0] : List Value))) from by simp only [List.cons_append, List.nil_append]) ▸ .cons (A := ([.string ⟨(s).toArray⟩] : List Value) ++ ((o).map V8)) (B := ([VI 0] : List Value)) (D := ([] : List Value)) (V := ([VI n] : List Value)) (a := 33) (b := 1) rfl (show Cut3 (([.string ⟨(s).toArray⟩] : List Value) ++ ((o).map V8 ++ (([VI 0] : List Value)))) (([.string ⟨(s).toArray⟩] : List Value) ++ ((o).map V8)) (([VI 0] : List Value)) (([] : List Value)) 33 1 from ⟨(show ([.string ⟨(s).toArray⟩] : List Value) ++ ((o).map V8 ++ (([VI 0] : List Value))) = (([.string ⟨(s).toArray⟩] : List Value) ++ ((o).map V8)) ++ ((([VI 0] : List Value)) ++ (([] : List Value))) from by simp only [List.cons_append, List.nil_append]), (by simp only [List.length_append, List.length_map, List.length_cons, List.length_nil, (show (o).length = 32 from ho)]), (by rfl)⟩) (by rfl) (by rfl) ((show ([.string ⟨(s).toArray⟩] : List Value) ++ ((o).map V8 ++ (([VI n] : List Value))) = (([.string ⟨(s).toArray⟩] : List Value) ++ ((o).map V8)) ++ ((([VI n] : List Value)) ++ (([] : List Value))) from by simp only [List.cons_append, List.nil_append]) ▸ .nil _))))) HS ?_
      refine t_all [4, 9] (by kernel_rfl) (by simp) (all_cons (w_op 4 rfl ?_) (all_cons (w_op 9 rfl ?_) (all_nil)))
      ·
       refine (o_val (r_ld (v := .slice (hd z.a1) z.Ls.length z.c1) H (i := 0) rfl rfl ct43 rfl) ?_)
       refine ⟨H.sub (.cons _ (.cons _ (.cons_cons _ (.cons_cons _ (List.nil_sublist _))))), ?_⟩
       replace HS := H.sub (.cons _ (.cons _ (.cons_cons _ (.cons_cons _ (List.nil_sublist _)))))
       refine t_step 9 rfl (by kernel_rfl) (o_bslG1 (enc := thgE) (((s, (⟨o, (show (o).length = 32 from ho)⟩ : Id32)), n)) H sl43 zc93 (by rfl) (by decide) (by decide) rfl (thgE_len _) (fun b6 w H hb6 => ?_))
       replace H : Hp _ w _ ([_, _, _, _, .own (some b6) 1 1 (([((s, (⟨o, (show (o).length = 32 from ho)⟩ : Id32)), n)]).flatMap thgE) 93 34]) := H
       refine ⟨H.sub (.cons _ (.cons _ (.cons_cons _ (.cons_cons _ (List.nil_sublist _))))), ?_⟩
       replace HS := H.sub (.cons _ (.cons _ (.cons_cons _ (.cons_cons _ (List.nil_sublist _)))))
       refine t_step 10 rfl (by kernel_rfl) (o_appG (enc := thgE) (s := ⟨hd (some b6), 1, 1, [((s, (⟨o, (show (o).length = 32 from ho)⟩ : Id32)), n)]⟩) (l' := z.Ls ++ ([((s, (⟨o, (show (o).length = 32 from ho)⟩ : Id32)), n)])) (len' := z.Ls.length + 1) rfl rfl H (i := 1) rfl sl43 Try.underlying43 rfl rfl (H.glOwn (i := 4) rfl (by decide) (fun c _ => thgE_len c)) (by decide) (fun c _ => thgE_all c) (by omega) (by decide) (fun a7 c8 w H => ?_))
       replace H : Hp _ w _ ([_, .own a7 (z.Ls.length + 1) c8 ((z.Ls ++ ([((s, (⟨o, (show (o).length = 32 from ho)⟩ : Id32)), n)])).flatMap thgE) 93 34, _, _, _]) := H
       refine ⟨H.sub (.cons _ (.cons _ (.cons_cons _ (.cons_cons _ (List.nil_sublist _))))), ?_⟩
       replace HS := H.sub (.cons _ (.cons _ (.cons_cons _ (.cons_cons _ (List.nil_sublist _)))))
       refine t_take 11 rfl (by kernel_rfl) (by kernel_rfl) (by kernel_rfl) (fun _ _ _ h => h) (fun w HS => r_nilc rfl) HS ?_
       refine t_take 12 rfl (by kernel_rfl) (by kernel_rfl) (by kernel_rfl) (fun _ _ _ h => h) (fun w HS => r_fa rfl fo46_0) HS ?_
       refine t_step 13 rfl (by kernel_rfl) (o_st (v := .slice (hd a7) (z.Ls.length + 1) c8) H (i := 0) rfl rfl rfl cs43 rfl (by simp only [List.length_cons, List.length_nil]; omega) (fun w H => ?_))
       replace H : Hp _ w _ ([.blk rb ([.slice (hd a7) (z.Ls.length + 1) c8, .slice (hd z.a2) z.Qs.length z.c2]) 46, _, _, _, _]) := H
       refine ⟨H.sub (.cons _ (.cons _ (.cons_cons _ (.cons_cons _ (List.nil_sublist _))))), ?_⟩
       replace HS := H.sub (.cons _ (.cons _ (.cons_cons _ (.cons_cons _ (List.nil_sublist _)))))
       refine t_done (by kernel_rfl) ?_
       clear HS
       repeat refine c_seq ?_
       refine c_region ?_
       refine l_op (o_val (r_as) ?_)
       refine l_op (o_val (r_as) ?_)
       first | refine l_end ?_ | refine l_nil ?_
       refine c_ret ?_
       try dsimp only [Exit.then, Exit.inBlock]
       refine e_retN (vs := [.bool true, VI 0]) _ Try.results48 rfl (resT (v := .bool true) rfl (resT (v := VI 0) rfl (resZ))) ?_
       refine ⟨_, rfl, ?_⟩
       have hC : (¬ n < 0 ∧ (look z.Ls (s, (⟨o, ho⟩ : Id32))).isSome = false ∧ ¬ (mayQ s z.Qs < n ∨ mayQ s z.Qs - n < sumT s z.Ls)) := ⟨by omega, hc3, by omega⟩
       rw [decide_eq_true hC, if_pos hC, if_neg (by omega), if_neg (by rw [hC.2.1]; decide), if_neg (by omega)]
       exact ⟨rfl, rleft_of ((H.permL (.refl _)).sub (.cons_cons _ (.cons_cons _ (.cons_cons _ (List.nil_sublist _))))) (by rw [List.length_append]; rfl) rfl rfl rfl⟩
      ·
       refine (o_bslG1 (enc := thgE) (((s, (⟨o, (show (o).length = 32 from ho)⟩ : Id32)), n)) H sl43 zc93 (by rfl) (by decide) (by decide) rfl (thgE_len _) (fun b9 w H hb9 => ?_))
       replace H : Hp _ w _ ([_, _, _, _, .own (some b9) 1 1 (([((s, (⟨o, (show (o).length = 32 from ho)⟩ : Id32)), n)]).flatMap thgE) 93 34]) := H
       refine ⟨H.sub (.cons _ (.cons _ (.cons_cons _ (.cons_cons _ (List.nil_sublist _))))), ?_⟩
       replace HS := H.sub (.cons _ (.cons _ (.cons_cons _ (.cons_cons _ (List.nil_sublist _)))))
       refine t_step 4 rfl (by kernel_rfl) (o_val (r_ld (v := .slice (hd z.a1) z.Ls.length z.c1) H (i := 0) rfl rfl ct43 rfl) ?_)
       refine ⟨H.sub (.cons _ (.cons _ (.cons_cons _ (.cons_cons _ (List.nil_sublist _))))), ?_⟩
       replace HS := H.sub (.cons _ (.cons _ (.cons_cons _ (.cons_cons _ (List.nil_sublist _)))))
       refine t_step 10 rfl (by kernel_rfl) (o_appG (enc := thgE) (s := ⟨hd (some b9), 1, 1, [((s, (⟨o, (show (o).length = 32 from ho)⟩ : Id32)), n)]⟩) (l' := z.Ls ++ ([((s, (⟨o, (show (o).length = 32 from ho)⟩ : Id32)), n)])) (len' := z.Ls.length + 1) rfl rfl H (i := 1) rfl sl43 Try.underlying43 rfl rfl (H.glOwn (i := 4) rfl (by decide) (fun c _ => thgE_len c)) (by decide) (fun c _ => thgE_all c) (by omega) (by decide) (fun a10 c11 w H => ?_))
       replace H : Hp _ w _ ([_, .own a10 (z.Ls.length + 1) c11 ((z.Ls ++ ([((s, (⟨o, (show (o).length = 32 from ho)⟩ : Id32)), n)])).flatMap thgE) 93 34, _, _, _]) := H
       refine ⟨H.sub (.cons _ (.cons _ (.cons_cons _ (.cons_cons _ (List.nil_sublist _))))), ?_⟩
       replace HS := H.sub (.cons _ (.cons _ (.cons_cons _ (.cons_cons _ (List.nil_sublist _)))))
       refine t_take 11 rfl (by kernel_rfl) (by kernel_rfl) (by kernel_rfl) (fun _ _ _ h => h) (fun w HS => r_nilc rfl) HS ?_
       refine t_take 12 rfl (by kernel_rfl) (by kernel_rfl) (by kernel_rfl) (fun _ _ _ h => h) (fun w HS => r_fa rfl fo46_0) HS ?_
       refine t_step 13 rfl (by kernel_rfl) (o_st (v := .slice (hd a10) (z.Ls.length + 1) c11) H (i := 0) rfl rfl rfl cs43 rfl (by simp only [List.length_cons, List.length_nil]; omega) (fun w H => ?_))
       replace H : Hp _ w _ ([.blk rb ([.slice (hd a10) (z.Ls.length + 1) c11, .slice (hd z.a2) z.Qs.length z.c2]) 46, _, _, _, _]) := H
       refine ⟨H.sub (.cons _ (.cons _ (.cons_cons _ (.cons_cons _ (List.nil_sublist _))))), ?_⟩
       replace HS := H.sub (.cons _ (.cons _ (.cons_cons _ (.cons_cons _ (List.nil_sublist _)))))
       refine t_done (by kernel_rfl) ?_
       clear HS
       repeat refine c_seq ?_
       refine c_region ?_
       refine l_op (o_val (r_as) ?_)
       refine l_op (o_val (r_as) ?_)
       first | refine l_end ?_ | refine l_nil ?_
       refine c_ret ?_
       try dsimp only [Exit.then, Exit.inBlock]
       refine e_retN (vs := [.bool true, VI 0]) _ Try.results48 rfl (resT (v := .bool true) rfl (resT (v := VI 0) rfl (resZ))) ?_
       refine ⟨_, rfl, ?_⟩
       have hC : (¬ n < 0 ∧ (look z.Ls (s, (⟨o, ho⟩ : Id32))).isSome = false ∧ ¬ (mayQ s z.Qs < n ∨ mayQ s z.Qs - n < sumT s z.Ls)) := ⟨by omega, hc3, by omega⟩
       rw [decide_eq_true hC, if_pos hC, if_neg (by omega), if_neg (by rw [hC.2.1]; decide), if_neg (by omega)]
       exact ⟨rfl, rleft_of ((H.permL (.refl _)).sub (.cons_cons _ (.cons_cons _ (.cons_cons _ (List.nil_sublist _))))) (by rw [List.length_append]; rfl) rfl rfl rfl⟩
end Go.Proofs.Ytncmcgcilijfkaa
namespace Go.Proofs.Ytncmcgcilijfkaa
open Go Go.Shelf
def Try.sortS_ren : Go.Shelf.Ren := ⟨fun | 6 => 52 | 8 => 72 | 9 => 71 | 19 => 87 | 20 => 88 | 21 => 78 | 22 => 79 | 23 => 80 | 24 => 81 | 25 => 82 | 26 => 83 | 27 => 84 | 28 => 85 | 29 => 86 | 36 => 91 | 31 => 92 | 32 => 93 | 37 => 94 | 38 => 95 | 39 => 96 | 41 => 106 | n => n, fun | 27 => 49 | 29 => 9 | 3 => 3 | 32 => 116 | 26 => 49 | 0 => 0 | 44 => 129 | 46 => 131 | 4 => 4 | 36 => 121 | 35 => 120 | 41 => 126 | 5 => 5 | 9 => 9 | 53 => 134 | 57 => 138 | 63 => 147 | 64 => 148 | n => n, fun | n => n⟩
theorem Try.sortS : Go.Proofs.SlLaysM.n6 Try.prog Try.sortS_ren := {
  mixed := by kernel_rfl
  f6 := ⟨Try.f52.name, by decide, Try.func52.trans (congrArg some (by kernel_rfl))⟩
  f8 := Try.func72.trans (congrArg some (by kernel_rfl))
  f9 := ⟨Try.f71.name, by decide, Try.func71.trans (congrArg some (by kernel_rfl))⟩
  f19 := Try.func87.trans (congrArg some (by kernel_rfl))
  f20 := Try.func88.trans (congrArg some (by kernel_rfl))
  f21 := ⟨Try.f78.name, by decide, Try.func78.trans (congrArg some (by kernel_rfl))⟩
  f22 := ⟨Try.f79.name, by decide, Try.func79.trans (congrArg some (by kernel_rfl))⟩
  f23 := ⟨Try.f80.name, by decide, Try.func80.trans (congrArg some (by kernel_rfl))⟩
  f24 := ⟨Try.f81.name, by decide, Try.func81.trans (congrArg some (by kernel_rfl))⟩
  f25 := ⟨Try.f82.name, by decide, Try.func82.trans (congrArg some (by kernel_rfl))⟩
  f26 := ⟨Try.f83.name, by decide, Try.func83.trans (congrArg some (by kernel_rfl))⟩
  f27 := ⟨Try.f84.name, by decide, Try.func84.trans (congrArg some (by kernel_rfl))⟩
  f28 := ⟨Try.f85.name, by decide, Try.func85.trans (congrArg some (by kernel_rfl))⟩
  f29 := ⟨Try.f86.name, by decide, Try.func86.trans (congrArg some (by kernel_rfl))⟩
  f31 := Try.func92.trans (congrArg some (by kernel_rfl))
  f32 := Try.func93.trans (congrArg some (by kernel_rfl))
  f36 := ⟨Try.f91.name, by decide, Try.func91.trans (congrArg some (by kernel_rfl))⟩
  f37 := ⟨Try.f94.name, by decide, Try.func94.trans (congrArg some (by kernel_rfl))⟩
  f38 := ⟨Try.f95.name, by decide, Try.func95.trans (congrArg some (by kernel_rfl))⟩
  f39 := ⟨Try.f96.name, by decide, Try.func96.trans (congrArg some (by kernel_rfl))⟩
  f41 := ⟨Try.f106.name, by decide, Try.func106.trans (congrArg some (by kernel_rfl))⟩
  t0 := Try.underlying0
  a0 := Try.isAgg0
  z0 := Try.sizeOf0
  v0 := Try.zeroValue0
  t3 := Try.underlying3
  a3 := Try.isAgg3
  z3 := Try.sizeOf3
  v3 := Try.zeroValue3
  t4 := Try.underlying4
  a4 := Try.isAgg4
  z4 := Try.sizeOf4
  v4 := Try.zeroValue4
  t5 := Try.underlying5
  a5 := Try.isAgg5
  z5 := Try.sizeOf5
  v5 := Try.zeroValue5
  t9 := Try.underlying9
  a9 := Try.isAgg9
  z9 := Try.sizeOf9
  v9 := Try.zeroValue9
  t26 := Try.underlying49
  a26 := Try.isAgg49
  z26 := Try.sizeOf49
  v26 := Try.zeroValue49
  t27 := Try.underlying49
  a27 := Try.isAgg49
  z27 := Try.sizeOf49
  v27 := Try.zeroValue49
  t29 := Try.underlying9
  a29 := Try.isAgg9
  z29 := Try.sizeOf9
  v29 := Try.zeroValue9
  t32 := Try.underlying116
  a32 := Try.isAgg116
  z32 := Try.sizeOf116
  v32 := Try.zeroValue116
  t35 := Try.underlying120
  a35 := Try.isAgg120
  z35 := Try.sizeOf120
  v35 := Try.zeroValue120
  t36 := Try.underlying121
  a36 := Try.isAgg121
  z36 := Try.sizeOf121
  v36 := Try.zeroValue121
  t41 := Try.underlying126
  a41 := Try.isAgg126
  z41 := Try.sizeOf126
  v41 := Try.zeroValue126
  t44 := Try.underlying129
  a44 := Try.isAgg129
  z44 := Try.sizeOf129
  v44 := Try.zeroValue129
  t46 := Try.underlying131
  a46 := Try.isAgg131
  z46 := Try.sizeOf131
  v46 := Try.zeroValue131
  t53 := Try.underlying134
  a53 := Try.isAgg134
  z53 := Try.sizeOf134
  v53 := Try.zeroValue134
  t57 := Try.underlying138
  a57 := Try.isAgg138
  z57 := Try.sizeOf138
  v57 := Try.zeroValue138
  t63 := Try.underlying147
  a63 := Try.isAgg147
  z63 := Try.sizeOf147
  v63 := Try.zeroValue147
  t64 := Try.underlying148
  a64 := Try.isAgg148
  z64 := Try.sizeOf148
  v64 := Try.zeroValue148 }
end Go.Proofs.Ytncmcgcilijfkaa
namespace Go.Proofs.Ytncmcgcilijfkaa
open Go Go.Sort
set_option maxRecDepth 100000
theorem putCells_list {α : Type} [Inhabited α] (enc : α → Value) (d : List α) (xs rest : List Value) (h : d.length = xs.length) : putCells enc 0 d.toArray (xs ++ rest).toArray = (d.map enc ++ rest).toArray := by
  apply Array.ext_getElem?
  intro k
  simp only [putCells, Array.getElem?_mapIdx, List.getElem?_toArray, Nat.zero_add, Nat.sub_zero, Nat.zero_le, true_and, List.size_toArray]
  by_cases hk : k < d.length
  · rw [List.getElem?_append_left (by omega), List.getElem?_append_left (by simpa using hk), List.getElem?_eq_getElem (by omega), List.getElem?_map, List.getElem?_eq_getElem hk]
    simp [hk]
  · rw [List.getElem?_append_right (by omega), List.getElem?_append_right (by simpa using hk), List.length_map, h]
    have hk2 : ¬ k < xs.length := by omega
    cases rest[k - xs.length]? <;> simp [hk2]
theorem hp_putRow {α : Type} [Inhabited α] {enc : α → Value} {w0 w : World} {S : List Nat} {L : List Ch} {i b n c m : Nat} {xs : List Value} {d : List α} {T : TypeId} {os : Array Obj} (H : Hp w0 w S L) (hi : L[i]? = some (.own (some b) n c xs T 1)) (hd : d.length = xs.length) :
    Hp w0 (grow (putRow enc (Sort.ahead w m) b 0 d.toArray) os) S (L.set i (.own (some b) n c (d.map enc) T 1)) := by
  obtain ⟨q1, q2, q3, rest, hw, q5⟩ := H.has _ (List.mem_of_getElem? hi)
  have hlt : b < w.heap.size := (Array.getElem?_eq_some_iff.1 hw).1
  have hsz : (putRow enc (Sort.ahead w m) b 0 d.toArray).heap.size = w.heap.size := by rw [size_putRow]; rfl
  have hold : ∀ k, k < w.heap.size → (grow (putRow enc (Sort.ahead w m) b 0 d.toArray) os).heap[k]? = (w.heap.modify b (onCells (putCells enc 0 d.toArray)))[k]? := fun k hk => by
    show ((putRow enc (Sort.ahead w m) b 0 d.toArray).heap ++ os)[k]? = _
    rw [Array.getElem?_append_left (by rw [hsz]; exact hk)]; rfl
  refine H.turn hi (c' := .own (some b) n c (d.map enc) T 1) ⟨by rw [List.length_map, hd]; exact q1, q2, q3, rest, ?_, by rw [List.length_append, List.length_map, hd, ← List.length_append]; exact q5⟩ (fun b' hb' => .inl hb') rfl rfl rfl (by show w.heap.size ≤ ((putRow enc (Sort.ahead w m) b 0 d.toArray).heap ++ os).size; rw [Array.size_append, hsz]; omega) (fun b' hlt' hne => ?_)
  · rw [hold b hlt, Array.getElem?_modify, if_pos rfl, hw]
    simp only [Option.map_some, onCells, putCells_list enc d xs rest hd]
  · rw [hold b' hlt', Array.getElem?_modify, if_neg (fun e => hne (by rw [← e]; rfl))]
theorem holds_own {α : Type} [Inhabited α] {enc : α → Value} {w : World} {b n c : Nat} {l : List α} {T : TypeId} (h : (Ch.own (some b) n c (l.map enc) T 1).ok w) : Holds enc w b 0 l.toArray := by
  obtain ⟨q1, q2, q3, rest, hw, q5⟩ := h
  intro j hj
  have hj' : j < l.length := by simpa using hj
  refine ⟨?_, ?_⟩
  · simp only [World.cell?, hw, Nat.zero_add, List.getElem?_toArray]
    rw [List.getElem?_append_left (by simpa using hj'), List.getElem?_map, List.getElem?_eq_getElem hj']
    simp [hj']
  · simp [World.frozen?, hw]
instance : Inhabited (List UInt8) := ⟨[]⟩
/-- texts, sorted. -/
def sortedS (l : List (List UInt8)) : List (List UInt8) := l.mergeSort fun x y => decide (x ≤ y)
theorem flat_one {α : Type} (enc : α → Value) (l : List α) : l.flatMap (fun x => [enc x]) = l.map enc := by
  induction l with
  | nil => rfl
  | cons a l ih => rw [List.flatMap_cons, ih]; rfl
theorem sortS_ret {w0 w : World} {S : List Nat} {L : List Ch} {i n c : Nat} {a : Option Nat} {l : List (List UInt8)} (H : Hp w0 w S L) (hi : L[i]? = some (.own a n c (l.map encStr) 9 1)) (hn : l.length = n) (hb : n ≤ 1048576) :
    Ret Try.prog 52 [.slice (hd a) n c] w fun v w' => v = .tuple #[] ∧ Hp w0 w' S (L.set i (.own a n c ((sortedS l).map encStr) 9 1)) := by
  subst hn
  cases a with
  | none =>
    have hc : (Ch.own none l.length c (l.map encStr) 9 1).ok w := H.has _ (List.mem_of_getElem? hi)
    obtain ⟨h1, h2, h3⟩ := hc
    have hl : l = [] := by simpa using h3
    subst hl
    have h := AnyM.slices_Sort_string_none Try.sortS none c w
    refine Calls.mono h fun e w' ⟨he, hw'⟩ => ⟨_, he, rfl, ?_⟩
    have e1 : sortedS ([] : List (List UInt8)) = [] := by simp [sortedS]
    rw [hw', e1]
    have e2 : L.set i (.own none ([] : List (List UInt8)).length c (([] : List (List UInt8)).map encStr) 9 1) = L := by
      apply List.ext_getElem?
      intro j
      rw [List.getElem?_set]
      by_cases e : i = j
      · subst e
        have := (List.getElem?_eq_some_iff.1 hi).1
        rw [if_pos rfl, if_pos this, hi]
      · rw [if_neg e]
    rw [e2]; exact H
  | some b =>
    have hc := H.has _ (List.mem_of_getElem? hi)
    have hlt : b < w.heap.size := Ch.lt hc rfl
    have h := AnyM.slices_Sort_string Try.sortS b 0 c l w (holds_own hc) hlt (by omega)
    refine Calls.mono h fun e w' ⟨he, m, os, hw'⟩ => ⟨_, he, rfl, ?_⟩
    rw [hw']
    exact hp_putRow (m := m) (os := os) (d := sortedS l) H hi (by rw [sortedS, List.length_mergeSort, List.length_map])
end Go.Proofs.Ytncmcgcilijfkaa
namespace Go.Proofs.Ytncmcgcilijfkaa
open Go
set_option maxRecDepth 100000
theorem flatS (l : List (List UInt8)) : l.flatMap strE = l.map encStr := flat_one _ l
theorem sortG_ret {w0 w : World} {S : List Nat} {L : List Ch} {i n c : Nat} {a : Option Nat} {l : List (List UInt8)} (H : Hp w0 w S L) (hi : L[i]? = some (.own a n c (l.flatMap strE) 9 1)) (hn : l.length = n) (hb : n ≤ 1048576) :
    Ret Try.prog 52 [.slice (hd a) n c] w fun v w' => v = .tuple #[] ∧ Hp w0 w' S (L.set i (.own a n c ((sortedS l).flatMap strE) 9 1)) := by
  rw [flatS] at hi ⊢
  exact sortS_ret H hi hn hb
theorem withF_len (s : List UInt8) : ∀ l : List (List UInt8), (withF s l).length ≤ l.length + 1
  | [] => by simp [withF]
  | x :: l => by
    have := withF_len s l
    rw [withF]
    split
    · simp; omega
    · split <;> simp
theorem with_of {w0 w' : World} {a0 : Option Nat} {c0 : Nat} {s : List UInt8} {l X : List (List UInt8)} {a : Option Nat} {n c : Nat} {v : Value} (H : Hp w0 w' (keys [.own a0 l.length c0 (l.flatMap strE) 9 1]) [.own a n c (X.flatMap strE) 9 1]) (hn : n = (withF s l).length) (hX : X = withF s l) (hv : v = .slice (hd a) n c) :
    ∃ a' c', v = .slice (hd a') (withF s l).length c' ∧ Hp w0 w' (keys [.own a0 l.length c0 (l.flatMap strE) 9 1]) [.own a' (withF s l).length c' ((withF s l).flatMap strE) 9 1] := by
  subst hn hX hv
  exact ⟨a, c, rfl, H⟩
def tenL (L : List (MKey × Int)) : List (List UInt8) := L.foldl (fun acc p => withF p.1.1 acc) []
def tenQ (l : List (List UInt8)) (Q : List (List UInt8 × Int)) : List (List UInt8) := Q.foldl (fun acc q => if 0 < q.2 then withF q.1 acc else acc) l
theorem tenL_succ (L : List (MKey × Int)) (i : Nat) (e : MKey × Int) (h : L[i]? = some e) : tenL (L.take (i + 1)) = withF e.1.1 (tenL (L.take i)) := by
  rw [List.take_add_one, h, Option.toList, tenL, List.foldl_append]; rfl
theorem tenQ_succ (l : List (List UInt8)) (Q : List (List UInt8 × Int)) (i : Nat) (e : List UInt8 × Int) (h : Q[i]? = some e) : tenQ l (Q.take (i + 1)) = if 0 < e.2 then withF e.1 (tenQ l (Q.take i)) else tenQ l (Q.take i) := by
  rw [List.take_add_one, h, Option.toList, tenQ, List.foldl_append]; rfl
theorem tenL_len : ∀ (L : List (MKey × Int)), (tenL L).length ≤ L.length := fun L => by
  have : ∀ (L : List (MKey × Int)) (a : List (List UInt8)), (L.foldl (fun acc p => withF p.1.1 acc) a).length ≤ a.length + L.length := by
    intro L
    induction L with
    | nil => intro a; simp
    | cons p L ih =>
      intro a
      have h1 := ih (withF p.1.1 a)
      have h2 := withF_len p.1.1 a
      rw [List.foldl_cons, List.length_cons]; omega
  have h := this L []
  simpa [tenL] using h
theorem tenQ_len : ∀ (l : List (List UInt8)) (Q : List (List UInt8 × Int)), (tenQ l Q).length ≤ l.length + Q.length := by
  intro l Q
  induction Q generalizing l with
  | nil => simp [tenQ]
  | cons q Q ih =>
    have h1 := ih (if 0 < q.2 then withF q.1 l else l)
    have h2 := withF_len q.1 l
    have h3 : tenQ l (q :: Q) = tenQ (if 0 < q.2 then withF q.1 l else l) Q := rfl
    rw [h3, List.length_cons]
    have h4 : (if 0 < q.2 then withF q.1 l else l).length ≤ l.length + 1 := by split <;> omega
    omega
def tenB (A : List UInt8 → Option Acc) (k : List UInt8) : Bool := decide (0 < ((A k).getD acc0).things) || decide (0 < ((A k).getD acc0).quota)
theorem ten_snoc (A : List UInt8 → Option Acc) (vis : List (List UInt8)) (k : List UInt8) : (vis ++ [k]).filter (tenB A) = vis.filter (tenB A) ++ (if tenB A k then [k] else []) := by
  rw [List.filter_append]; congr 1; simp [List.filter_cons]
theorem nd_le {α : Type} [DecidableEq α] : ∀ {l m : List α}, l.Nodup → (∀ x ∈ l, x ∈ m) → l.length ≤ m.length
  | [], m, _, _ => Nat.zero_le _
  | a :: l, m, hn, hs => by
    rw [List.nodup_cons] at hn
    have h1 := nd_le (l := l) (m := m.erase a) hn.2 (fun x hx => (List.mem_erase_of_ne (fun e => hn.1 (by rw [← e]; exact hx))).2 (hs x (List.mem_cons_of_mem _ hx)))
    have h2 := List.length_erase_of_mem (hs a (List.mem_cons_self ..))
    have h3 := List.length_pos_of_mem (hs a (List.mem_cons_self ..))
    rw [List.length_cons]; omega
theorem vis_le {κ α : Type} [DecidableEq κ] {enc : α → Value} {M : List (κ × Value × Nat)} {F : κ → Option α} (hF : MIs enc M F) {vis : List κ} (hn : vis.Nodup) (hv : ∀ k ∈ vis, (F k).isSome = true) : vis.length ≤ M.length := by
  have := nd_le (m := M.map (·.1)) hn (fun x hx => by
    have h1 := hv x hx
    rw [← hF.isSome] at h1
    obtain ⟨v, h2⟩ := Option.isSome_iff_exists.1 h1
    obtain ⟨y, hy, e, _⟩ := mget_mem h2
    exact List.mem_map.2 ⟨y, hy, e⟩)
  rwa [List.length_map] at this
theorem vis_snoc {κ α : Type} [DecidableEq κ] {F : κ → Option α} {vis : List κ} {k : κ} {a : α} (hn : vis.Nodup) (hv : ∀ k ∈ vis, (F k).isSome = true) (hf : F k = some a) (hk : k ∉ vis) : (vis ++ [k]).Nodup ∧ ∀ j ∈ vis ++ [k], (F j).isSome = true := by
  refine ⟨?_, fun j hj => ?_⟩
  · rw [List.nodup_append]
    refine ⟨hn, by simp, fun x hx y hy e => ?_⟩
    rw [List.mem_singleton] at hy
    exact hk (by rw [← hy, ← e]; exact hx)
  · rcases List.mem_append.1 hj with h | h
    · exact hv j h
    · rw [List.mem_singleton.1 h, hf]; rfl
/-- whoever has something, or may: in order. -/
def TenP (A : List UInt8 → Option Acc) (R : List (List UInt8)) : Prop := ∃ vis : List (List UInt8), vis.Nodup ∧ (∀ k, (A k).isSome = true ↔ k ∈ vis) ∧ R = sortedS (vis.filter (tenB A))
theorem with_ret (w0 : World) (a : Option Nat) (c : Nat) (l : List (List UInt8)) (hO : Own w0 [.own a l.length c (l.flatMap strE) 9 1]) (hl : l.length ≤ 4194304) (s : List UInt8) :
    Ret Try.prog 53 [.slice (hd a) l.length c, .string ⟨(s).toArray⟩] w0 fun v w' => ∃ a' c', v = .slice (hd a') (withF s l).length c' ∧ Hp w0 w' (keys [.own a l.length c (l.flatMap strE) 9 1]) [.own a' (withF s l).length c' ((withF s l).flatMap strE) 9 1] := by
  refine ret_mk Try.func53 rfl Try.ntmps53 (by simp) ?_
  have H : Hp w0 w0 (keys [.own a l.length c (l.flatMap strE) 9 1]) [.own a l.length c ((l).flatMap strE) 9 1] := hO.start
  repeat refine c_seq ?_
  refine c_region ?_
  refine l_op (o_val (r_as) ?_)
  first | refine l_end ?_ | refine l_nil ?_
  repeat refine c_seq ?_
  refine c_region ?_
  refine l_op (o_val (r_as) ?_)
  first | refine l_end ?_ | refine l_nil ?_
  repeat refine c_seq ?_
  refine c_block ?_
  repeat refine c_seq ?_
  refine c_loop (fun (i : Nat) => [(0, .slice (hd a) l.length c), (1, .string ⟨(s).toArray⟩), (5, VI (i : Int))])
    (fun (i : Nat) w => (i ≤ l.length ∧ ∀ (j : Nat) (x : List UInt8), j < i → l[j]? = some x → Op.bytesLess x s = true) ∧ Hp w0 w (keys [.own a l.length c (l.flatMap strE) 9 1]) ([.own a l.length c ((l).flatMap strE) 9 1]))
    (fun (i : Nat) => l.length - i) 0 ⟨rfl, rfl, rfl, trivial⟩ ⟨⟨Nat.zero_le _, fun j x hj => absurd hj (by omega)⟩, H⟩ ?_
  clear H
  rintro i τ w ⟨⟨hi, hall⟩, H⟩
  repeat refine c_seq ?_
  refine c_region ?_
  refine l_op (o_val (r_mv) ?_)
  refine l_op (o_val (r_mv) ?_)
  refine l_op (o_val (r_lens el49 rfl) ?_)
  refine l_op (o_val (r_bin (a := (i : Int)) (b := (l.length : Int)) rfl rfl (fun _ => b_lss)) ?_)
  refine l_op (o_val (r_mv) ?_)
  by_cases hc1 : (i : Int) < (l.length : Int)
  ·
   refine l_yes rfl rfl (by exact congrArg Value.bool (decide_eq_true hc1)) (o_val (r_mv) ?_)
   refine l_yes rfl rfl (by exact congrArg Value.bool (decide_eq_true hc1)) (o_val (r_mv) ?_)
   have ah3 := H.ownAddr (i := 0) rfl (by omega)
   obtain ⟨ab2, ah3⟩ := ah3
   refine l_yes rfl rfl (by exact congrArg Value.bool (decide_eq_true hc1)) (o_val (r_isN i rfl rfl el49 ah3 (by omega) (by (try simp only [Sl.cut]); omega)) ?_)
   have he5 : ∃ c, (l)[i]? = some c := ⟨_, List.getElem?_eq_getElem (by have := ((H.glOwn (i := 0) rfl (by decide) (fun _ _ => rfl))).ln; (try dsimp only at this ⊢); omega)⟩
   obtain ⟨e4, he5⟩ := he5
   have hez6 := ((H.glOwn (i := 0) rfl (by decide) (fun _ _ => rfl))).sz e4 (List.mem_of_getElem? he5)
   refine l_yes rfl rfl (by exact congrArg Value.bool (decide_eq_true hc1)) (o_val (r_gc (v := .string ⟨(e4).toArray⟩) (s := (⟨hd a, l.length, c, l⟩ : Gl (List UInt8))) (j := i) (H.glOwn (i := 0) rfl (by decide) (fun _ _ => rfl)) ah3 rfl ct9 he5 rfl) ?_)
   refine l_yes rfl rfl (by exact congrArg Value.bool (decide_eq_true hc1)) (o_val (r_mv) ?_)
   refine l_yes rfl rfl (by exact congrArg Value.bool (decide_eq_true hc1)) (o_val (r_strlt (a := e4) (b := s) rfl rfl) ?_)
   refine l_op (o_val (r_pick (b := true) (congrArg Value.bool (decide_eq_true hc1))) ?_)
   first | refine l_end ?_ | refine l_nil ?_
   have hc70 := Bool.eq_false_or_eq_true (Op.bytesLess e4 s)
   rcases hc70 with hc7 | hc7
   ·
    repeat refine c_seq ?_
    refine c_yes (by exact congrArg Value.bool hc7) ?_
    refine c_skip ?_
    repeat refine c_seq ?_
    refine c_block ?_
    repeat refine c_seq ?_
    refine c_region ?_
    refine l_op (o_val (r_mv) ?_)
    refine l_op (o_val (r_bin (a := (i : Int)) (b := 1) rfl rfl (fun _ => b_add (by omega) (by omega))) ?_)
    refine l_op (o_val (r_as) ?_)
    first | refine l_end ?_ | refine l_nil ?_
    refine round_end (i + 1) ?_ ?_ ?_
    · exact ⟨rfl, rfl, show VI ((i : Int) + 1) = VI ((i + 1 : Nat) : Int) from congrArg VI (by omega), trivial⟩
    · refine ⟨?_, ?_⟩
      · try dsimp only
        exact ⟨by omega, fun j x hj hjx => by
          by_cases hji : j < i
          · exact hall j x hji hjx
          · have e : j = i := by omega
            rw [e, he5] at hjx
            cases hjx
            assumption⟩
      · exact H
    · show l.length - (i + 1 : Nat) < l.length - i; omega
   ·
    repeat refine c_seq ?_
    refine c_no (by exact congrArg Value.bool hc7) ?_
    refine c_exit ?_
    repeat refine c_seq ?_
    refine c_region ?_
    refine l_op (o_val (r_mv) ?_)
    refine l_op (o_val (r_mv) ?_)
    refine l_op (o_val (r_lens el49 rfl) ?_)
    refine l_op (o_val (r_bin (a := (i : Int)) (b := (l.length : Int)) rfl rfl (fun _ => b_lss)) ?_)
    refine l_op (o_val (r_mv) ?_)
    refine l_yes rfl rfl (by exact congrArg Value.bool (decide_eq_true hc1)) (o_val (r_mv) ?_)
    refine l_yes rfl rfl (by exact congrArg Value.bool (decide_eq_true hc1)) (o_val (r_mv) ?_)
    refine l_yes rfl rfl (by exact congrArg Value.bool (decide_eq_true hc1)) (o_val (r_isN i rfl rfl el49 ah3 (by omega) (by (try simp only [Sl.cut]); omega)) ?_)
    refine l_yes rfl rfl (by exact congrArg Value.bool (decide_eq_true hc1)) (o_val (r_gc (v := .string ⟨(e4).toArray⟩) (s := (⟨hd a, l.length, c, l⟩ : Gl (List UInt8))) (j := i) (H.glOwn (i := 0) rfl (by decide) (fun _ _ => rfl)) ah3 rfl ct9 he5 rfl) ?_)
    refine l_yes rfl rfl (by exact congrArg Value.bool (decide_eq_true hc1)) (o_val (r_mv) ?_)
    refine l_yes rfl rfl (by exact congrArg Value.bool (decide_eq_true hc1)) (o_val (r_streq (a := e4) (b := s) rfl rfl) ?_)
    refine l_op (o_val (r_pick (b := true) (congrArg Value.bool (decide_eq_true hc1))) ?_)
    first | refine l_end ?_ | refine l_nil ?_
    by_cases hc8 : e4 = s
    ·
     repeat refine c_seq ?_
     refine c_yes (by exact congrArg Value.bool (decide_eq_true hc8)) ?_
     repeat refine c_seq ?_
     refine c_region ?_
     refine l_op (o_val (r_mv) ?_)
     refine l_op (o_val (r_as) ?_)
     first | refine l_end ?_ | refine l_nil ?_
     refine c_ret ?_
     try dsimp only [Exit.then, Exit.inBlock]
     refine e_ret1 (v := .slice (hd a) l.length c) Try.results53 rfl ?_
     refine ⟨_, rfl, ?_⟩
     have e1 : e4 = s := of_decide_eq_true (decide_eq_true hc8)
     have e2 : withF s l = l := withF_there s l i hall (by rw [← e1]; exact he5) (less_self s)
     exact with_of (H.sub (.cons_cons _ (List.nil_sublist _))) (by rw [e2]) e2.symm rfl
    ·
     repeat refine c_seq ?_
     refine c_no (by exact congrArg Value.bool (decide_eq_false hc8)) ?_
     refine c_skip ?_
     repeat refine c_seq ?_
     refine wp_held (fun w => Hp w0 w (keys [.own a l.length c (l.flatMap strE) 9 1]) [.own a l.length c ((l).flatMap strE) 9 1]) mixed ?_
     replace H := H.drew
     have HS := H
     refine t_take 1 rfl (by kernel_rfl) (by kernel_rfl) (by kernel_rfl) (fun _ _ _ h => h) (fun w HS => r_mv) HS ?_
     refine t_take 2 rfl (by kernel_rfl) (by kernel_rfl) (by kernel_rfl) (fun _ _ _ h => h) (fun w HS => r_mv) HS ?_
     have hol9 := (HS.ownLen (i := 0) rfl).2.1
     refine t_take 3 rfl (by kernel_rfl) (by kernel_rfl) (by kernel_rfl) (fun _ _ _ h => h) (fun w HS => r_slG (s := ⟨hd a, l.length, c, l⟩) 0 i c (lv := none) (hv := some (VI (i : Int))) (mv := none) rfl el49 rfl rfl rfl (fun w => by exact sbh i (by omega) (by (try simp only []); omega) w)) HS ?_
     refine t_take 5 rfl (by kernel_rfl) (by kernel_rfl) (by kernel_rfl) (fun _ _ _ h => h) (fun w HS => r_mv) HS ?_
     refine t_take 8 rfl (by kernel_rfl) (by kernel_rfl) (by kernel_rfl) (fun _ _ _ h => h) (fun w HS => r_mv) HS ?_
     refine t_take 9 rfl (by kernel_rfl) (by kernel_rfl) (by kernel_rfl) (fun _ _ _ h => h) (fun w HS => r_mv) HS ?_
     refine t_take 10 rfl (by kernel_rfl) (by kernel_rfl) (by kernel_rfl) (fun _ _ _ h => h) (fun w HS => r_slG (s := ⟨hd a, l.length, c, l⟩) i l.length c (lv := some (VI (i : Int))) (hv := none) (mv := none) rfl el49 rfl rfl rfl (fun w => by exact sbl i (by omega) (by (try simp only []); omega) w)) HS ?_
     refine t_all [0, 6] (by kernel_rfl) (by simp) (all_cons (w_op 0 rfl ?_) (all_cons (w_op 6 rfl ?_) (all_nil)))
     ·
      refine (o_bslG0 (α := (List UInt8)) (enc := strE) H sl49 zc9 (by decide) (fun b10 w H hb10 => ?_))
      replace H : Hp _ w _ ([_, .own (some b10) 0 0 ((([] : List (List UInt8))).flatMap strE) 9 1]) := H
      refine ⟨H.sub (.cons_cons _ (List.nil_sublist _)), ?_⟩
      replace HS := H.sub (.cons_cons _ (List.nil_sublist _))
      refine t_all [4, 6] (by kernel_rfl) (by simp) (all_cons (w_op 4 rfl ?_) (all_cons (w_op 6 rfl ?_) (all_nil)))
      ·
       refine (o_appG (enc := strE) (s := (Gl.cut ⟨hd a, l.length, c, l⟩ 1 0 i c)) (l' := ((l).drop 0).take (i)) (len' := i) rfl (Nat.zero_add _) H (i := 1) rfl sl49 Try.underlying49 rfl rfl ((H.glOwn (i := 0) rfl (by decide) (fun _ _ => rfl)).cut (l := 0) (h := i) (m := c) (by omega) (by (try simp only []); omega) (by omega) (by (try simp only []); omega)) (by decide) (fun _ _ => rfl) (by omega) (by decide) (fun a11 c12 w H => ?_))
       replace H : Hp _ w _ ([_, .own a11 i c12 ((((l).drop 0).take (i)).flatMap strE) 9 1]) := H
       refine ⟨H.sub (.cons_cons _ (List.nil_sublist _)), ?_⟩
       replace HS := H.sub (.cons_cons _ (List.nil_sublist _))
       refine t_step 6 rfl (by kernel_rfl) (o_bslV ([.string ⟨(s).toArray⟩]) H sl49 zc9 rfl (by simp [Value.oneCell']) rfl (by decide) (fun b13 w H hb13 => ?_))
       replace H : Hp _ w _ ([_, _, .own (some b13) 1 1 (([s]).flatMap strE) 9 1]) := H
       refine ⟨H.sub (.cons_cons _ (List.nil_sublist _)), ?_⟩
       replace HS := H.sub (.cons_cons _ (List.nil_sublist _))
       refine t_step 7 rfl (by kernel_rfl) (o_appG (enc := strE) (s := ⟨hd (some b13), 1, 1, [s]⟩) (l' := ((l).drop 0).take (i) ++ ([s])) (len' := i + 1) rfl rfl H (i := 1) rfl sl49 Try.underlying49 rfl rfl (H.glOwn (i := 2) rfl (by decide) (fun _ _ => rfl)) (by decide) (fun _ _ => rfl) (by omega) (by decide) (fun a14 c15 w H => ?_))
       replace H : Hp _ w _ ([_, .own a14 (i + 1) c15 ((((l).drop 0).take (i) ++ ([s])).flatMap strE) 9 1, _]) := H
       refine ⟨H.sub (.cons_cons _ (List.nil_sublist _)), ?_⟩
       replace HS := H.sub (.cons_cons _ (List.nil_sublist _))
       refine t_step 11 rfl (by kernel_rfl) (o_appG (enc := strE) (s := (Gl.cut ⟨hd a, l.length, c, l⟩ 1 i l.length c)) (l' := ((l).drop 0).take (i) ++ ([s]) ++ (((l).drop i).take (l.length - i))) (len' := i + 1 + (l.length - i)) rfl rfl H (i := 1) rfl sl49 Try.underlying49 rfl rfl ((H.glOwn (i := 0) rfl (by decide) (fun _ _ => rfl)).cut (l := i) (h := l.length) (m := c) (by omega) (by (try simp only []); omega) (by omega) (by (try simp only []); omega)) (by decide) (fun _ _ => rfl) (by omega) (by decide) (fun a16 c17 w H => ?_))
       replace H : Hp _ w _ ([_, .own a16 (i + 1 + (l.length - i)) c17 ((((l).drop 0).take (i) ++ ([s]) ++ (((l).drop i).take (l.length - i))).flatMap strE) 9 1, _]) := H
       refine ⟨H.sub (.cons_cons _ (List.nil_sublist _)), ?_⟩
       replace HS := H.sub (.cons_cons _ (List.nil_sublist _))
       refine t_take 12 rfl (by kernel_rfl) (by kernel_rfl) (by kernel_rfl) (fun _ _ _ h => h) (fun w HS => r_as) HS ?_
       refine t_done (by kernel_rfl) ?_
       clear HS
       refine c_ret ?_
       try dsimp only [Exit.then, Exit.inBlock]
       refine e_ret1 (v := .slice (hd a16) (i + 1 + (l.length - i)) c17) Try.results53 rfl ?_
       refine ⟨_, rfl, ?_⟩
       have e2 := withF_at s l i hall (by omega) (fun x hx => by
           rw [he5] at hx
           cases hx
           exact ⟨hc7, of_decide_eq_false (decide_eq_false hc8)⟩)
       refine with_of (H.sub (.cons _ (.cons_cons _ (List.nil_sublist _)))) ?_ ?_ rfl
       · rw [e2]; simp only [List.length_append, List.length_take, List.length_drop, List.length_cons, List.length_nil]; omega
       · rw [e2]
         simp
         rw [List.take_of_length_le (by rw [List.length_drop]; omega)]
      ·
       refine (o_bslV ([.string ⟨(s).toArray⟩]) H sl49 zc9 rfl (by simp [Value.oneCell']) rfl (by decide) (fun b18 w H hb18 => ?_))
       replace H : Hp _ w _ ([_, _, .own (some b18) 1 1 (([s]).flatMap strE) 9 1]) := H
       refine ⟨H.sub (.cons_cons _ (List.nil_sublist _)), ?_⟩
       replace HS := H.sub (.cons_cons _ (List.nil_sublist _))
       refine t_step 4 rfl (by kernel_rfl) (o_appG (enc := strE) (s := (Gl.cut ⟨hd a, l.length, c, l⟩ 1 0 i c)) (l' := ((l).drop 0).take (i)) (len' := i) rfl (Nat.zero_add _) H (i := 1) rfl sl49 Try.underlying49 rfl rfl ((H.glOwn (i := 0) rfl (by decide) (fun _ _ => rfl)).cut (l := 0) (h := i) (m := c) (by omega) (by (try simp only []); omega) (by omega) (by (try simp only []); omega)) (by decide) (fun _ _ => rfl) (by omega) (by decide) (fun a19 c20 w H => ?_))
       replace H : Hp _ w _ ([_, .own a19 i c20 ((((l).drop 0).take (i)).flatMap strE) 9 1, _]) := H
       refine ⟨H.sub (.cons_cons _ (List.nil_sublist _)), ?_⟩
       replace HS := H.sub (.cons_cons _ (List.nil_sublist _))
       refine t_step 7 rfl (by kernel_rfl) (o_appG (enc := strE) (s := ⟨hd (some b18), 1, 1, [s]⟩) (l' := ((l).drop 0).take (i) ++ ([s])) (len' := i + 1) rfl rfl H (i := 1) rfl sl49 Try.underlying49 rfl rfl (H.glOwn (i := 2) rfl (by decide) (fun _ _ => rfl)) (by decide) (fun _ _ => rfl) (by omega) (by decide) (fun a21 c22 w H => ?_))
       replace H : Hp _ w _ ([_, .own a21 (i + 1) c22 ((((l).drop 0).take (i) ++ ([s])).flatMap strE) 9 1, _]) := H
       refine ⟨H.sub (.cons_cons _ (List.nil_sublist _)), ?_⟩
       replace HS := H.sub (.cons_cons _ (List.nil_sublist _))
       refine t_step 11 rfl (by kernel_rfl) (o_appG (enc := strE) (s := (Gl.cut ⟨hd a, l.length, c, l⟩ 1 i l.length c)) (l' := ((l).drop 0).take (i) ++ ([s]) ++ (((l).drop i).take (l.length - i))) (len' := i + 1 + (l.length - i)) rfl rfl H (i := 1) rfl sl49 Try.underlying49 rfl rfl ((H.glOwn (i := 0) rfl (by decide) (fun _ _ => rfl)).cut (l := i) (h := l.length) (m := c) (by omega) (by (try simp only []); omega) (by omega) (by (try simp only []); omega)) (by decide) (fun _ _ => rfl) (by omega) (by decide) (fun a23 c24 w H => ?_))
       replace H : Hp _ w _ ([_, .own a23 (i + 1 + (l.length - i)) c24 ((((l).drop 0).take (i) ++ ([s]) ++ (((l).drop i).take (l.length - i))).flatMap strE) 9 1, _]) := H
       refine ⟨H.sub (.cons_cons _ (List.nil_sublist _)), ?_⟩
       replace HS := H.sub (.cons_cons _ (List.nil_sublist _))
       refine t_take 12 rfl (by kernel_rfl) (by kernel_rfl) (by kernel_rfl) (fun _ _ _ h => h) (fun w HS => r_as) HS ?_
       refine t_done (by kernel_rfl) ?_
       clear HS
       refine c_ret ?_
       try dsimp only [Exit.then, Exit.inBlock]
       refine e_ret1 (v := .slice (hd a23) (i + 1 + (l.length - i)) c24) Try.results53 rfl ?_
       refine ⟨_, rfl, ?_⟩
       have e2 := withF_at s l i hall (by omega) (fun x hx => by
           rw [he5] at hx
           cases hx
           exact ⟨hc7, of_decide_eq_false (decide_eq_false hc8)⟩)
       refine with_of (H.sub (.cons _ (.cons_cons _ (List.nil_sublist _)))) ?_ ?_ rfl
       · rw [e2]; simp only [List.length_append, List.length_take, List.length_drop, List.length_cons, List.length_nil]; omega
       · rw [e2]
         simp
         rw [List.take_of_length_le (by rw [List.length_drop]; omega)]
     ·
      refine (o_bslV ([.string ⟨(s).toArray⟩]) H sl49 zc9 rfl (by simp [Value.oneCell']) rfl (by decide) (fun b25 w H hb25 => ?_))
      replace H : Hp _ w _ ([_, .own (some b25) 1 1 (([s]).flatMap strE) 9 1]) := H
      refine ⟨H.sub (.cons_cons _ (List.nil_sublist _)), ?_⟩
      replace HS := H.sub (.cons_cons _ (List.nil_sublist _))
      refine t_step 0 rfl (by kernel_rfl) (o_bslG0 (α := (List UInt8)) (enc := strE) H sl49 zc9 (by decide) (fun b26 w H hb26 => ?_))
      replace H : Hp _ w _ ([_, _, .own (some b26) 0 0 ((([] : List (List UInt8))).flatMap strE) 9 1]) := H
      refine ⟨H.sub (.cons_cons _ (List.nil_sublist _)), ?_⟩
      replace HS := H.sub (.cons_cons _ (List.nil_sublist _))
      refine t_step 4 rfl (by kernel_rfl) (o_appG (enc := strE) (s := (Gl.cut ⟨hd a, l.length, c, l⟩ 1 0 i c)) (l' := ((l).drop 0).take (i)) (len' := i) rfl (Nat.zero_add _) H (i := 2) rfl sl49 Try.underlying49 rfl rfl ((H.glOwn (i := 0) rfl (by decide) (fun _ _ => rfl)).cut (l := 0) (h := i) (m := c) (by omega) (by (try simp only []); omega) (by omega) (by (try simp only []); omega)) (by decide) (fun _ _ => rfl) (by omega) (by decide) (fun a27 c28 w H => ?_))
      replace H : Hp _ w _ ([_, _, .own a27 i c28 ((((l).drop 0).take (i)).flatMap strE) 9 1]) := H
      refine ⟨H.sub (.cons_cons _ (List.nil_sublist _)), ?_⟩
      replace HS := H.sub (.cons_cons _ (List.nil_sublist _))
      refine t_step 7 rfl (by kernel_rfl) (o_appG (enc := strE) (s := ⟨hd (some b25), 1, 1, [s]⟩) (l' := ((l).drop 0).take (i) ++ ([s])) (len' := i + 1) rfl rfl H (i := 2) rfl sl49 Try.underlying49 rfl rfl (H.glOwn (i := 1) rfl (by decide) (fun _ _ => rfl)) (by decide) (fun _ _ => rfl) (by omega) (by decide) (fun a29 c30 w H => ?_))
      replace H : Hp _ w _ ([_, _, .own a29 (i + 1) c30 ((((l).drop 0).take (i) ++ ([s])).flatMap strE) 9 1]) := H
      refine ⟨H.sub (.cons_cons _ (List.nil_sublist _)), ?_⟩
      replace HS := H.sub (.cons_cons _ (List.nil_sublist _))
      refine t_step 11 rfl (by kernel_rfl) (o_appG (enc := strE) (s := (Gl.cut ⟨hd a, l.length, c, l⟩ 1 i l.length c)) (l' := ((l).drop 0).take (i) ++ ([s]) ++ (((l).drop i).take (l.length - i))) (len' := i + 1 + (l.length - i)) rfl rfl H (i := 2) rfl sl49 Try.underlying49 rfl rfl ((H.glOwn (i := 0) rfl (by decide) (fun _ _ => rfl)).cut (l := i) (h := l.length) (m := c) (by omega) (by (try simp only []); omega) (by omega) (by (try simp only []); omega)) (by decide) (fun _ _ => rfl) (by omega) (by decide) (fun a31 c32 w H => ?_))
      replace H : Hp _ w _ ([_, _, .own a31 (i + 1 + (l.length - i)) c32 ((((l).drop 0).take (i) ++ ([s]) ++ (((l).drop i).take (l.length - i))).flatMap strE) 9 1]) := H
      refine ⟨H.sub (.cons_cons _ (List.nil_sublist _)), ?_⟩
      replace HS := H.sub (.cons_cons _ (List.nil_sublist _))
      refine t_take 12 rfl (by kernel_rfl) (by kernel_rfl) (by kernel_rfl) (fun _ _ _ h => h) (fun w HS => r_as) HS ?_
      refine t_done (by kernel_rfl) ?_
      clear HS
      refine c_ret ?_
      try dsimp only [Exit.then, Exit.inBlock]
      refine e_ret1 (v := .slice (hd a31) (i + 1 + (l.length - i)) c32) Try.results53 rfl ?_
      refine ⟨_, rfl, ?_⟩
      have e2 := withF_at s l i hall (by omega) (fun x hx => by
          rw [he5] at hx
          cases hx
          exact ⟨hc7, of_decide_eq_false (decide_eq_false hc8)⟩)
      refine with_of (H.sub (.cons _ (.cons _ (.cons_cons _ (List.nil_sublist _))))) ?_ ?_ rfl
      · rw [e2]; simp only [List.length_append, List.length_take, List.length_drop, List.length_cons, List.length_nil]; omega
      · rw [e2]
        simp
        rw [List.take_of_length_le (by rw [List.length_drop]; omega)]
  ·
   refine l_no rfl rfl (by exact congrArg Value.bool (decide_eq_false hc1)) rfl ?_
   refine l_no rfl rfl (by exact congrArg Value.bool (decide_eq_false hc1)) rfl ?_
   refine l_no rfl rfl (by exact congrArg Value.bool (decide_eq_false hc1)) rfl ?_
   refine l_no rfl rfl (by exact congrArg Value.bool (decide_eq_false hc1)) rfl ?_
   refine l_no rfl rfl (by exact congrArg Value.bool (decide_eq_false hc1)) rfl ?_
   refine l_no rfl rfl (by exact congrArg Value.bool (decide_eq_false hc1)) rfl ?_
   refine l_op (o_val (r_pick (b := false) (congrArg Value.bool (decide_eq_false hc1))) ?_)
   first | refine l_end ?_ | refine l_nil ?_
   repeat refine c_seq ?_
   refine c_no rfl ?_
   refine c_exit ?_
   repeat refine c_seq ?_
   refine c_region ?_
   refine l_op (o_val (r_mv) ?_)
   refine l_op (o_val (r_mv) ?_)
   refine l_op (o_val (r_lens el49 rfl) ?_)
   refine l_op (o_val (r_bin (a := (i : Int)) (b := (l.length : Int)) rfl rfl (fun _ => b_lss)) ?_)
   refine l_op (o_val (r_mv) ?_)
   refine l_no rfl rfl (by exact congrArg Value.bool (decide_eq_false hc1)) rfl ?_
   refine l_no rfl rfl (by exact congrArg Value.bool (decide_eq_false hc1)) rfl ?_
   refine l_no rfl rfl (by exact congrArg Value.bool (decide_eq_false hc1)) rfl ?_
   refine l_no rfl rfl (by exact congrArg Value.bool (decide_eq_false hc1)) rfl ?_
   refine l_no rfl rfl (by exact congrArg Value.bool (decide_eq_false hc1)) rfl ?_
   refine l_no rfl rfl (by exact congrArg Value.bool (decide_eq_false hc1)) rfl ?_
   refine l_op (o_val (r_pick (b := false) (congrArg Value.bool (decide_eq_false hc1))) ?_)
   first | refine l_end ?_ | refine l_nil ?_
   repeat refine c_seq ?_
   refine c_no rfl ?_
   refine c_skip ?_
   repeat refine c_seq ?_
   refine wp_held (fun w => Hp w0 w (keys [.own a l.length c (l.flatMap strE) 9 1]) [.own a l.length c ((l).flatMap strE) 9 1]) mixed ?_
   replace H := H.drew
   have HS := H
   refine t_take 1 rfl (by kernel_rfl) (by kernel_rfl) (by kernel_rfl) (fun _ _ _ h => h) (fun w HS => r_mv) HS ?_
   refine t_take 2 rfl (by kernel_rfl) (by kernel_rfl) (by kernel_rfl) (fun _ _ _ h => h) (fun w HS => r_mv) HS ?_
   have hol33 := (HS.ownLen (i := 0) rfl).2.1
   refine t_take 3 rfl (by kernel_rfl) (by kernel_rfl) (by kernel_rfl) (fun _ _ _ h => h) (fun w HS => r_slG (s := ⟨hd a, l.length, c, l⟩) 0 i c (lv := none) (hv := some (VI (i : Int))) (mv := none) rfl el49 rfl rfl rfl (fun w => by exact sbh i (by omega) (by (try simp only []); omega) w)) HS ?_
   refine t_take 5 rfl (by kernel_rfl) (by kernel_rfl) (by kernel_rfl) (fun _ _ _ h => h) (fun w HS => r_mv) HS ?_
   refine t_take 8 rfl (by kernel_rfl) (by kernel_rfl) (by kernel_rfl) (fun _ _ _ h => h) (fun w HS => r_mv) HS ?_
   refine t_take 9 rfl (by kernel_rfl) (by kernel_rfl) (by kernel_rfl) (fun _ _ _ h => h) (fun w HS => r_mv) HS ?_
   refine t_take 10 rfl (by kernel_rfl) (by kernel_rfl) (by kernel_rfl) (fun _ _ _ h => h) (fun w HS => r_slG (s := ⟨hd a, l.length, c, l⟩) i l.length c (lv := some (VI (i : Int))) (hv := none) (mv := none) rfl el49 rfl rfl rfl (fun w => by exact sbl i (by omega) (by (try simp only []); omega) w)) HS ?_
   refine t_all [0, 6] (by kernel_rfl) (by simp) (all_cons (w_op 0 rfl ?_) (all_cons (w_op 6 rfl ?_) (all_nil)))
   ·
    refine (o_bslG0 (α := (List UInt8)) (enc := strE) H sl49 zc9 (by decide) (fun b34 w H hb34 => ?_))
    replace H : Hp _ w _ ([_, .own (some b34) 0 0 ((([] : List (List UInt8))).flatMap strE) 9 1]) := H
    refine ⟨H.sub (.cons_cons _ (List.nil_sublist _)), ?_⟩
    replace HS := H.sub (.cons_cons _ (List.nil_sublist _))
    refine t_all [4, 6] (by kernel_rfl) (by simp) (all_cons (w_op 4 rfl ?_) (all_cons (w_op 6 rfl ?_) (all_nil)))
    ·
     refine (o_appG (enc := strE) (s := (Gl.cut ⟨hd a, l.length, c, l⟩ 1 0 i c)) (l' := ((l).drop 0).take (i)) (len' := i) rfl (Nat.zero_add _) H (i := 1) rfl sl49 Try.underlying49 rfl rfl ((H.glOwn (i := 0) rfl (by decide) (fun _ _ => rfl)).cut (l := 0) (h := i) (m := c) (by omega) (by (try simp only []); omega) (by omega) (by (try simp only []); omega)) (by decide) (fun _ _ => rfl) (by omega) (by decide) (fun a35 c36 w H => ?_))
     replace H : Hp _ w _ ([_, .own a35 i c36 ((((l).drop 0).take (i)).flatMap strE) 9 1]) := H
     refine ⟨H.sub (.cons_cons _ (List.nil_sublist _)), ?_⟩
     replace HS := H.sub (.cons_cons _ (List.nil_sublist _))
     refine t_step 6 rfl (by kernel_rfl) (o_bslV ([.string ⟨(s).toArray⟩]) H sl49 zc9 rfl (by simp [Value.oneCell']) rfl (by decide) (fun b37 w H hb37 => ?_))
     replace H : Hp _ w _ ([_, _, .own (some b37) 1 1 (([s]).flatMap strE) 9 1]) := H
     refine ⟨H.sub (.cons_cons _ (List.nil_sublist _)), ?_⟩
     replace HS := H.sub (.cons_cons _ (List.nil_sublist _))
     refine t_step 7 rfl (by kernel_rfl) (o_appG (enc := strE) (s := ⟨hd (some b37), 1, 1, [s]⟩) (l' := ((l).drop 0).take (i) ++ ([s])) (len' := i + 1) rfl rfl H (i := 1) rfl sl49 Try.underlying49 rfl rfl (H.glOwn (i := 2) rfl (by decide) (fun _ _ => rfl)) (by decide) (fun _ _ => rfl) (by omega) (by decide) (fun a38 c39 w H => ?_))
     replace H : Hp _ w _ ([_, .own a38 (i + 1) c39 ((((l).drop 0).take (i) ++ ([s])).flatMap strE) 9 1, _]) := H
     refine ⟨H.sub (.cons_cons _ (List.nil_sublist _)), ?_⟩
     replace HS := H.sub (.cons_cons _ (List.nil_sublist _))
     refine t_step 11 rfl (by kernel_rfl) (o_appG (enc := strE) (s := (Gl.cut ⟨hd a, l.length, c, l⟩ 1 i l.length c)) (l' := ((l).drop 0).take (i) ++ ([s]) ++ (((l).drop i).take (l.length - i))) (len' := i + 1 + (l.length - i)) rfl rfl H (i := 1) rfl sl49 Try.underlying49 rfl rfl ((H.glOwn (i := 0) rfl (by decide) (fun _ _ => rfl)).cut (l := i) (h := l.length) (m := c) (by omega) (by (try simp only []); omega) (by omega) (by (try simp only []); omega)) (by decide) (fun _ _ => rfl) (by omega) (by decide) (fun a40 c41 w H => ?_))
     replace H : Hp _ w _ ([_, .own a40 (i + 1 + (l.length - i)) c41 ((((l).drop 0).take (i) ++ ([s]) ++ (((l).drop i).take (l.length - i))).flatMap strE) 9 1, _]) := H
     refine ⟨H.sub (.cons_cons _ (List.nil_sublist _)), ?_⟩
     replace HS := H.sub (.cons_cons _ (List.nil_sublist _))
     refine t_take 12 rfl (by kernel_rfl) (by kernel_rfl) (by kernel_rfl) (fun _ _ _ h => h) (fun w HS => r_as) HS ?_
     refine t_done (by kernel_rfl) ?_
     clear HS
     refine c_ret ?_
     try dsimp only [Exit.then, Exit.inBlock]
     refine e_ret1 (v := .slice (hd a40) (i + 1 + (l.length - i)) c41) Try.results53 rfl ?_
     refine ⟨_, rfl, ?_⟩
     have e2 := withF_at s l i hall (by omega) (fun x hx => absurd (List.getElem?_eq_some_iff.1 hx).1 (by omega))
     refine with_of (H.sub (.cons _ (.cons_cons _ (List.nil_sublist _)))) ?_ ?_ rfl
     · rw [e2]; simp only [List.length_append, List.length_take, List.length_drop, List.length_cons, List.length_nil]; omega
     · rw [e2]
       simp
       rw [List.take_of_length_le (by rw [List.length_drop]; omega)]
    ·
     refine (o_bslV ([.string ⟨(s).toArray⟩]) H sl49 zc9 rfl (by simp [Value.oneCell']) rfl (by decide) (fun b42 w H hb42 => ?_))
     replace H : Hp _ w _ ([_, _, .own (some b42) 1 1 (([s]).flatMap strE) 9 1]) := H
     refine ⟨H.sub (.cons_cons _ (List.nil_sublist _)), ?_⟩
     replace HS := H.sub (.cons_cons _ (List.nil_sublist _))
     refine t_step 4 rfl (by kernel_rfl) (o_appG (enc := strE) (s := (Gl.cut ⟨hd a, l.length, c, l⟩ 1 0 i c)) (l' := ((l).drop 0).take (i)) (len' := i) rfl (Nat.zero_add _) H (i := 1) rfl sl49 Try.underlying49 rfl rfl ((H.glOwn (i := 0) rfl (by decide) (fun _ _ => rfl)).cut (l := 0) (h := i) (m := c) (by omega) (by (try simp only []); omega) (by omega) (by (try simp only []); omega)) (by decide) (fun _ _ => rfl) (by omega) (by decide) (fun a43 c44 w H => ?_))
     replace H : Hp _ w _ ([_, .own a43 i c44 ((((l).drop 0).take (i)).flatMap strE) 9 1, _]) := H
     refine ⟨H.sub (.cons_cons _ (List.nil_sublist _)), ?_⟩
     replace HS := H.sub (.cons_cons _ (List.nil_sublist _))
     refine t_step 7 rfl (by kernel_rfl) (o_appG (enc := strE) (s := ⟨hd (some b42), 1, 1, [s]⟩) (l' := ((l).drop 0).take (i) ++ ([s])) (len' := i + 1) rfl rfl H (i := 1) rfl sl49 Try.underlying49 rfl rfl (H.glOwn (i := 2) rfl (by decide) (fun _ _ => rfl)) (by decide) (fun _ _ => rfl) (by omega) (by decide) (fun a45 c46 w H => ?_))
     replace H : Hp _ w _ ([_, .own a45 (i + 1) c46 ((((l).drop 0).take (i) ++ ([s])).flatMap strE) 9 1, _]) := H
     refine ⟨H.sub (.cons_cons _ (List.nil_sublist _)), ?_⟩
     replace HS := H.sub (.cons_cons _ (List.nil_sublist _))
     refine t_step 11 rfl (by kernel_rfl) (o_appG (enc := strE) (s := (Gl.cut ⟨hd a, l.length, c, l⟩ 1 i l.length c)) (l' := ((l).drop 0).take (i) ++ ([s]) ++ (((l).drop i).take (l.length - i))) (len' := i + 1 + (l.length - i)) rfl rfl H (i := 1) rfl sl49 Try.underlying49 rfl rfl ((H.glOwn (i := 0) rfl (by decide) (fun _ _ => rfl)).cut (l := i) (h := l.length) (m := c) (by omega) (by (try simp only []); omega) (by omega) (by (try simp only []); omega)) (by decide) (fun _ _ => rfl) (by omega) (by decide) (fun a47 c48 w H => ?_))
     replace H : Hp _ w _ ([_, .own a47 (i + 1 + (l.length - i)) c48 ((((l).drop 0).take (i) ++ ([s]) ++ (((l).drop i).take (l.length - i))).flatMap strE) 9 1, _]) := H
     refine ⟨H.sub (.cons_cons _ (List.nil_sublist _)), ?_⟩
     replace HS := H.sub (.cons_cons _ (List.nil_sublist _))
     refine t_take 12 rfl (by kernel_rfl) (by kernel_rfl) (by kernel_rfl) (fun _ _ _ h => h) (fun w HS => r_as) HS ?_
     refine t_done (by kernel_rfl) ?_
     clear HS
     refine c_ret ?_
     try dsimp only [Exit.then, Exit.inBlock]
     refine e_ret1 (v := .slice (hd a47) (i + 1 + (l.length - i)) c48) Try.results53 rfl ?_
     refine ⟨_, rfl, ?_⟩
     have e2 := withF_at s l i hall (by omega) (fun x hx => absurd (List.getElem?_eq_some_iff.1 hx).1 (by omega))
     refine with_of (H.sub (.cons _ (.cons_cons _ (List.nil_sublist _)))) ?_ ?_ rfl
     · rw [e2]; simp only [List.length_append, List.length_take, List.length_drop, List.length_cons, List.length_nil]; omega
     · rw [e2]
       simp
       rw [List.take_of_length_le (by rw [List.length_drop]; omega)]
   ·
    refine (o_bslV ([.string ⟨(s).toArray⟩]) H sl49 zc9 rfl (by simp [Value.oneCell']) rfl (by decide) (fun b49 w H hb49 => ?_))
    replace H : Hp _ w _ ([_, .own (some b49) 1 1 (([s]).flatMap strE) 9 1]) := H
    refine ⟨H.sub (.cons_cons _ (List.nil_sublist _)), ?_⟩
    replace HS := H.sub (.cons_cons _ (List.nil_sublist _))
    refine t_step 0 rfl (by kernel_rfl) (o_bslG0 (α := (List UInt8)) (enc := strE) H sl49 zc9 (by decide) (fun b50 w H hb50 => ?_))
    replace H : Hp _ w _ ([_, _, .own (some b50) 0 0 ((([] : List (List UInt8))).flatMap strE) 9 1]) := H
    refine ⟨H.sub (.cons_cons _ (List.nil_sublist _)), ?_⟩
    replace HS := H.sub (.cons_cons _ (List.nil_sublist _))
    refine t_step 4 rfl (by kernel_rfl) (o_appG (enc := strE) (s := (Gl.cut ⟨hd a, l.length, c, l⟩ 1 0 i c)) (l' := ((l).drop 0).take (i)) (len' := i) rfl (Nat.zero_add _) H (i := 2) rfl sl49 Try.underlying49 rfl rfl ((H.glOwn (i := 0) rfl (by decide) (fun _ _ => rfl)).cut (l := 0) (h := i) (m := c) (by omega) (by (try simp only []); omega) (by omega) (by (try simp only []); omega)) (by decide) (fun _ _ => rfl) (by omega) (by decide) (fun a51 c52 w H => ?_))
    replace H : Hp _ w _ ([_, _, .own a51 i c52 ((((l).drop 0).take (i)).flatMap strE) 9 1]) := H
    refine ⟨H.sub (.cons_cons _ (List.nil_sublist _)), ?_⟩
    replace HS := H.sub (.cons_cons _ (List.nil_sublist _))
    refine t_step 7 rfl (by kernel_rfl) (o_appG (enc := strE) (s := ⟨hd (some b49), 1, 1, [s]⟩) (l' := ((l).drop 0).take (i) ++ ([s])) (len' := i + 1) rfl rfl H (i := 2) rfl sl49 Try.underlying49 rfl rfl (H.glOwn (i := 1) rfl (by decide) (fun _ _ => rfl)) (by decide) (fun _ _ => rfl) (by omega) (by decide) (fun a53 c54 w H => ?_))
    replace H : Hp _ w _ ([_, _, .own a53 (i + 1) c54 ((((l).drop 0).take (i) ++ ([s])).flatMap strE) 9 1]) := H
    refine ⟨H.sub (.cons_cons _ (List.nil_sublist _)), ?_⟩
    replace HS := H.sub (.cons_cons _ (List.nil_sublist _))
    refine t_step 11 rfl (by kernel_rfl) (o_appG (enc := strE) (s := (Gl.cut ⟨hd a, l.length, c, l⟩ 1 i l.length c)) (l' := ((l).drop 0).take (i) ++ ([s]) ++ (((l).drop i).take (l.length - i))) (len' := i + 1 + (l.length - i)) rfl rfl H (i := 2) rfl sl49 Try.underlying49 rfl rfl ((H.glOwn (i := 0) rfl (by decide) (fun _ _ => rfl)).cut (l := i) (h := l.length) (m := c) (by omega) (by (try simp only []); omega) (by omega) (by (try simp only []); omega)) (by decide) (fun _ _ => rfl) (by omega) (by decide) (fun a55 c56 w H => ?_))
    replace H : Hp _ w _ ([_, _, .own a55 (i + 1 + (l.length - i)) c56 ((((l).drop 0).take (i) ++ ([s]) ++ (((l).drop i).take (l.length - i))).flatMap strE) 9 1]) := H
    refine ⟨H.sub (.cons_cons _ (List.nil_sublist _)), ?_⟩
    replace HS := H.sub (.cons_cons _ (List.nil_sublist _))
    refine t_take 12 rfl (by kernel_rfl) (by kernel_rfl) (by kernel_rfl) (fun _ _ _ h => h) (fun w HS => r_as) HS ?_
    refine t_done (by kernel_rfl) ?_
    clear HS
    refine c_ret ?_
    try dsimp only [Exit.then, Exit.inBlock]
    refine e_ret1 (v := .slice (hd a55) (i + 1 + (l.length - i)) c56) Try.results53 rfl ?_
    refine ⟨_, rfl, ?_⟩
    have e2 := withF_at s l i hall (by omega) (fun x hx => absurd (List.getElem?_eq_some_iff.1 hx).1 (by omega))
    refine with_of (H.sub (.cons _ (.cons _ (.cons_cons _ (List.nil_sublist _))))) ?_ ?_ rfl
    · rw [e2]; simp only [List.length_append, List.length_take, List.length_drop, List.length_cons, List.length_nil]; omega
    · rw [e2]
      simp
      rw [List.take_of_length_le (by rw [List.length_drop]; omega)]
theorem tenR_ret (w0 : World) (rb : Nat) (z : RW) (hO : Own w0 (rch rb z)) (hl1 : z.Ls.length ≤ 1048576) (hl2 : z.Qs.length ≤ 1048576) :
    Ret Try.prog 26 [.pointer (some ⟨rb, 0, none⟩)] w0 fun v w' => ∃ a c, v = .slice (hd a) (tenQ (tenL z.Ls) z.Qs).length c ∧ Hp w0 w' (keys (rch rb z)) (rch rb z ++ [.own a (tenQ (tenL z.Ls) z.Qs).length c ((tenQ (tenL z.Ls) z.Qs).flatMap strE) 9 1]) := by
  refine ret_mk Try.func26 rfl Try.ntmps26 (by simp) ?_
  have H : Hp w0 w0 (keys (rch rb z)) [.blk rb ([.slice (hd z.a1) z.Ls.length z.c1, .slice (hd z.a2) z.Qs.length z.c2]) 46, .own z.a1 z.Ls.length z.c1 ((z.Ls).flatMap thgE) 93 34, .own z.a2 z.Qs.length z.c2 ((z.Qs).flatMap limE) 98 2] := hO.start
  repeat refine c_seq ?_
  refine c_region ?_
  refine l_op (o_val (r_as) ?_)
  first | refine l_end ?_ | refine l_nil ?_
  repeat refine c_seq ?_
  refine c_region ?_
  refine l_op (o_val (r_as) ?_)
  first | refine l_end ?_ | refine l_nil ?_
  repeat refine c_seq ?_
  refine c_region ?_
  refine l_op (o_val (r_as) ?_)
  first | refine l_end ?_ | refine l_nil ?_
  repeat refine c_seq ?_
  refine c_block ?_
  repeat refine c_seq ?_
  refine c_loop3 (fun (i : Nat) (a : Option Nat) (k : Nat) => [(0, .pointer (some ⟨rb, 0, none⟩)), (3, .slice (hd a) ((tenL (z.Ls.take i)).length) k), (4, VI (i : Int))])
    (fun (i : Nat) (a : Option Nat) (k : Nat) w => (i ≤ z.Ls.length) ∧ Hp w0 w (keys (rch rb z)) ([.blk rb ([.slice (hd z.a1) z.Ls.length z.c1, .slice (hd z.a2) z.Qs.length z.c2]) 46, .own z.a1 z.Ls.length z.c1 ((z.Ls).flatMap thgE) 93 34, .own z.a2 z.Qs.length z.c2 ((z.Qs).flatMap limE) 98 2, .own a ((tenL (z.Ls.take i)).length) k ((tenL (z.Ls.take i)).flatMap strE) 9 1]))
    (fun (i : Nat) (a : Option Nat) (k : Nat) => z.Ls.length - i) 0 none 0 ⟨rfl, rfl, rfl, trivial⟩ ⟨Nat.zero_le _, (H.nilEnd 9 1)⟩ ?_
  clear H
  rintro i a k τ w ⟨hi, H⟩
  have hl3 := tenL_len (z.Ls.take i)
  have hl4 : (z.Ls.take i).length ≤ z.Ls.length := by rw [List.length_take]; omega
  repeat refine c_seq ?_
  refine c_region ?_
  refine l_op (o_val (r_mv) ?_)
  refine l_op (o_val (r_mv) ?_)
  refine l_op (o_val (r_nilc rfl) ?_)
  refine l_op (o_val (r_fa rfl fo46_0) ?_)
  refine l_op (o_val (r_ld (v := .slice (hd z.a1) z.Ls.length z.c1) H (i := 0) rfl rfl ct43 rfl) ?_)
  refine l_op (o_val (r_lens el43 rfl) ?_)
  refine l_op (o_val (r_bin (a := (i : Int)) (b := (z.Ls.length : Int)) rfl rfl (fun _ => b_lss)) ?_)
  first | refine l_end ?_ | refine l_nil ?_
  by_cases hc1 : (i : Int) < (z.Ls.length : Int)
  ·
   repeat refine c_seq ?_
   refine c_yes (by exact congrArg Value.bool (decide_eq_true hc1)) ?_
   refine c_skip ?_
   repeat refine c_seq ?_
   refine c_block ?_
   repeat refine c_seq ?_
   refine c_region ?_
   refine l_op (o_val (r_mv) ?_)
   refine l_op (o_val (r_mv) ?_)
   refine l_op (o_val (r_nilc rfl) ?_)
   refine l_op (o_val (r_fa rfl fo46_0) ?_)
   refine l_op (o_val (r_ld (v := .slice (hd z.a1) z.Ls.length z.c1) H (i := 0) rfl rfl ct43 rfl) ?_)
   refine l_op (o_val (r_mv) ?_)
   have ah3 := H.ownAddr (i := 1) rfl (by omega)
   obtain ⟨ab2, ah3⟩ := ah3
   refine l_op (o_val (r_isN i rfl rfl el43 ah3 (by omega) (by (try simp only [Sl.cut]); omega)) ?_)
   refine l_op (o_val (r_fa rfl fo93_0) ?_)
   have he5 : ∃ c, (z.Ls)[i]? = some c := ⟨_, List.getElem?_eq_getElem (by have := ((H.glOwn (i := 1) rfl (by decide) (fun c _ => thgE_len c))).ln; (try dsimp only at this ⊢); omega)⟩
   obtain ⟨e4, he5⟩ := he5
   have hez6 := ((H.glOwn (i := 1) rfl (by decide) (fun c _ => thgE_len c))).sz e4 (List.mem_of_getElem? he5)
   refine l_op (o_val (r_g1 (v := .string ⟨(e4.1.1).toArray⟩) (s := (⟨hd z.a1, z.Ls.length, z.c1, z.Ls⟩ : Gl (MKey × Int))) (j := i) (H.glOwn (i := 1) rfl (by decide) (fun c _ => thgE_len c)) ah3 rfl ct9 he5 (by decide) (show Cut3 (thgE e4) (([] : List Value)) (([.string ⟨(e4.1.1).toArray⟩] : List Value)) ((e4.1.2.1).map V8 ++ (([VI e4.2] : List Value))) 0 1 from ⟨(show ([.string ⟨(e4.1.1).toArray⟩] : List Value) ++ ((e4.1.2.1).map V8 ++ (([VI e4.2] : List Value))) = ([] : List Value) ++ ((([.string ⟨(e4.1.1).toArray⟩] : List Value)) ++ ((e4.1.2.1).map V8 ++ (([VI e4.2] : List Value)))) from by simp only [List.cons_append, List.nil_append]), (by rfl), (by rfl)⟩)) ?_)
   refine l_op (o_callR Try.func53 rfl rfl rfl (with_ret _ a k (tenL (z.Ls.take i)) (H.ownP (LL := [.own a ((tenL (z.Ls.take i)).length) k ((tenL (z.Ls.take i)).flatMap strE) 9 1, .blk rb ([.slice (hd z.a1) z.Ls.length z.c1, .slice (hd z.a2) z.Qs.length z.c2]) 46, .own z.a1 z.Ls.length z.c1 ((z.Ls).flatMap thgE) 93 34, .own z.a2 z.Qs.length z.c2 ((z.Qs).flatMap limE) 98 2]) (L1 := [.own a ((tenL (z.Ls.take i)).length) k ((tenL (z.Ls.take i)).flatMap strE) 9 1]) (Lr := [.blk rb ([.slice (hd z.a1) z.Ls.length z.c1, .slice (hd z.a2) z.Qs.length z.c2]) 46, .own z.a1 z.Ls.length z.c1 ((z.Ls).flatMap thgE) 93 34, .own z.a2 z.Qs.length z.c2 ((z.Qs).flatMap limE) 98 2]) ((perm_front (j := 3) rfl).trans (.cons _ (.refl _))) rfl) (by omega) e4.1.1) ?_)
   rintro _ w ⟨a7, c8, rfl, Hc⟩
   replace H := H.callP (L1 := [.own a ((tenL (z.Ls.take i)).length) k ((tenL (z.Ls.take i)).flatMap strE) 9 1]) (Lr := [.blk rb ([.slice (hd z.a1) z.Ls.length z.c1, .slice (hd z.a2) z.Qs.length z.c2]) 46, .own z.a1 z.Ls.length z.c1 ((z.Ls).flatMap thgE) 93 34, .own z.a2 z.Qs.length z.c2 ((z.Qs).flatMap limE) 98 2]) (LL := [.own a ((tenL (z.Ls.take i)).length) k ((tenL (z.Ls.take i)).flatMap strE) 9 1, .blk rb ([.slice (hd z.a1) z.Ls.length z.c1, .slice (hd z.a2) z.Qs.length z.c2]) 46, .own z.a1 z.Ls.length z.c1 ((z.Ls).flatMap thgE) 93 34, .own z.a2 z.Qs.length z.c2 ((z.Qs).flatMap limE) 98 2]) ((perm_front (j := 3) rfl).trans (.cons _ (.refl _))) rfl Hc (.refl _)
   clear Hc
   replace H : Hp _ w _ ([_, _, _, .own a7 ((withF e4.1.1 (tenL (z.Ls.take i))).length) c8 ((withF e4.1.1 (tenL (z.Ls.take i))).flatMap strE) 9 1]) := H
   refine l_op (o_val (r_as) ?_)
   first | refine l_end ?_ | refine l_nil ?_
   repeat refine c_seq ?_
   refine c_region ?_
   refine l_op (o_val (r_mv) ?_)
   refine l_op (o_val (r_bin (a := (i : Int)) (b := 1) rfl rfl (fun _ => b_add (by omega) (by omega))) ?_)
   refine l_op (o_val (r_as) ?_)
   first | refine l_end ?_ | refine l_nil ?_
   rw [← tenL_succ z.Ls i e4 he5] at H
   refine round_end (i + 1, a7, c8) ?_ ?_ ?_
   · exact ⟨rfl, (show (.slice (hd a7) ((withF e4.1.1 (tenL (z.Ls.take i))).length) c8 : Value) = .slice (hd (a7 : Option Nat)) ((tenL (z.Ls.take (i + 1 : Nat))).length) (c8 : Nat) from (by rw [tenL_succ z.Ls i e4 he5])), show VI ((i : Int) + 1) = VI ((i + 1 : Nat) : Int) from congrArg VI (by omega), trivial⟩
   · refine ⟨?_, ?_⟩
     · try dsimp only
       exact by omega
     · exact H.sub (.cons_cons _ (.cons_cons _ (.cons_cons _ (.cons_cons _ (List.nil_sublist _)))))
   · show z.Ls.length - (i + 1 : Nat) < z.Ls.length - i; omega
  ·
   repeat refine c_seq ?_
   refine c_no (by exact congrArg Value.bool (decide_eq_false hc1)) ?_
   refine c_exit ?_
   have hi2 : i = z.Ls.length := by omega
   subst hi2
   rw [List.take_length] at H ⊢
   have hl5 := tenL_len z.Ls
   replace H : Hp _ w _ ([_, _, _, .own a ((tenL z.Ls).length) k ((tenL z.Ls).flatMap strE) 9 1]) := H
   repeat refine c_seq ?_
   refine c_region ?_
   refine l_op (o_val (r_as) ?_)
   first | refine l_end ?_ | refine l_nil ?_
   repeat refine c_seq ?_
   refine c_block ?_
   repeat refine c_seq ?_
   refine c_loop3 (fun (j : Nat) (a2 : Option Nat) (k2 : Nat) => [(0, .pointer (some ⟨rb, 0, none⟩)), (3, .slice (hd a2) ((tenQ (tenL z.Ls) (z.Qs.take j)).length) k2), (5, VI (j : Int))])
     (fun (j : Nat) (a2 : Option Nat) (k2 : Nat) w => (j ≤ z.Qs.length) ∧ Hp w0 w (keys (rch rb z)) ([.blk rb ([.slice (hd z.a1) z.Ls.length z.c1, .slice (hd z.a2) z.Qs.length z.c2]) 46, .own z.a1 z.Ls.length z.c1 ((z.Ls).flatMap thgE) 93 34, .own z.a2 z.Qs.length z.c2 ((z.Qs).flatMap limE) 98 2, .own a2 ((tenQ (tenL z.Ls) (z.Qs.take j)).length) k2 ((tenQ (tenL z.Ls) (z.Qs.take j)).flatMap strE) 9 1]))
     (fun (j : Nat) (a2 : Option Nat) (k2 : Nat) => z.Qs.length - j) 0 a k ⟨rfl, rfl, rfl, trivial⟩ ⟨Nat.zero_le _, H⟩ ?_
   clear H
   rintro j a2 k2 τ w ⟨hj, H⟩
   have hl6 := tenQ_len (tenL z.Ls) (z.Qs.take j)
   have hl7 : (z.Qs.take j).length ≤ z.Qs.length := by rw [List.length_take]; omega
   repeat refine c_seq ?_
   refine c_region ?_
   refine l_op (o_val (r_mv) ?_)
   refine l_op (o_val (r_mv) ?_)
   refine l_op (o_val (r_nilc rfl) ?_)
   refine l_op (o_val (r_fa rfl fo46_1) ?_)
   refine l_op (o_val (r_ld (v := .slice (hd z.a2) z.Qs.length z.c2) H (i := 0) rfl rfl ct44 rfl) ?_)
   refine l_op (o_val (r_lens el44 rfl) ?_)
   refine l_op (o_val (r_bin (a := (j : Int)) (b := (z.Qs.length : Int)) rfl rfl (fun _ => b_lss)) ?_)
   first | refine l_end ?_ | refine l_nil ?_
   by_cases hc9 : (j : Int) < (z.Qs.length : Int)
   ·
    repeat refine c_seq ?_
    refine c_yes (by exact congrArg Value.bool (decide_eq_true hc9)) ?_
    refine c_skip ?_
    repeat refine c_seq ?_
    refine c_block ?_
    repeat refine c_seq ?_
    refine c_region ?_
    refine l_op (o_val (r_mv) ?_)
    refine l_op (o_val (r_nilc rfl) ?_)
    refine l_op (o_val (r_fa rfl fo46_1) ?_)
    refine l_op (o_val (r_ld (v := .slice (hd z.a2) z.Qs.length z.c2) H (i := 0) rfl rfl ct44 rfl) ?_)
    refine l_op (o_val (r_mv) ?_)
    have ah11 := H.ownAddr (i := 2) rfl (by omega)
    obtain ⟨ab10, ah11⟩ := ah11
    refine l_op (o_val (r_isN j rfl rfl el44 ah11 (by omega) (by (try simp only [Sl.cut]); omega)) ?_)
    refine l_op (o_val (r_fa rfl fo98_1) ?_)
    have he13 : ∃ c, (z.Qs)[j]? = some c := ⟨_, List.getElem?_eq_getElem (by have := ((H.glOwn (i := 2) rfl (by decide) (fun c _ => limE_len c))).ln; (try dsimp only at this ⊢); omega)⟩
    obtain ⟨e12, he13⟩ := he13
    have hez14 := ((H.glOwn (i := 2) rfl (by decide) (fun c _ => limE_len c))).sz e12 (List.mem_of_getElem? he13)
    refine l_op (o_val (r_g1 (v := VI e12.2) (s := (⟨hd z.a2, z.Qs.length, z.c2, z.Qs⟩ : Gl (List UInt8 × Int))) (j := j) (H.glOwn (i := 2) rfl (by decide) (fun c _ => limE_len c)) ah11 rfl ct2 he13 (by decide) (show Cut3 (limE e12) (([.string ⟨(e12.1).toArray⟩] : List Value)) (([VI e12.2] : List Value)) (([] : List Value)) 1 1 from ⟨(show ([.string ⟨(e12.1).toArray⟩, VI e12.2] : List Value) = ([.string ⟨(e12.1).toArray⟩] : List Value) ++ ((([VI e12.2] : List Value)) ++ (([] : List Value))) from by simp only [List.cons_append, List.nil_append]), (by rfl), (by rfl)⟩)) ?_)
    refine l_op (o_val (r_bin (a := e12.2) (b := 0) rfl rfl (fun _ => b_gtr)) ?_)
    first | refine l_end ?_ | refine l_nil ?_
    by_cases hc15 : 0 < e12.2
    ·
     repeat refine c_seq ?_
     refine c_yes (by exact congrArg Value.bool (decide_eq_true hc15)) ?_
     repeat refine c_seq ?_
     refine c_region ?_
     refine l_op (o_val (r_mv) ?_)
     refine l_op (o_val (r_mv) ?_)
     refine l_op (o_val (r_nilc rfl) ?_)
     refine l_op (o_val (r_fa rfl fo46_1) ?_)
     refine l_op (o_val (r_ld (v := .slice (hd z.a2) z.Qs.length z.c2) H (i := 0) rfl rfl ct44 rfl) ?_)
     refine l_op (o_val (r_mv) ?_)
     refine l_op (o_val (r_isN j rfl rfl el44 ah11 (by omega) (by (try simp only [Sl.cut]); omega)) ?_)
     refine l_op (o_val (r_fa rfl fo98_0) ?_)
     refine l_op (o_val (r_g1 (v := .string ⟨(e12.1).toArray⟩) (s := (⟨hd z.a2, z.Qs.length, z.c2, z.Qs⟩ : Gl (List UInt8 × Int))) (j := j) (H.glOwn (i := 2) rfl (by decide) (fun c _ => limE_len c)) ah11 rfl ct9 he13 (by decide) (show Cut3 (limE e12) (([] : List Value)) (([.string ⟨(e12.1).toArray⟩] : List Value)) (([VI e12.2] : List Value)) 0 1 from ⟨(show ([.string ⟨(e12.1).toArray⟩, VI e12.2] : List Value) = ([] : List Value) ++ ((([.string ⟨(e12.1).toArray⟩] : List Value)) ++ (([VI e12.2] : List Value))) from by simp only [List.cons_append, List.nil_append]), (by rfl), (by rfl)⟩)) ?_)
     refine l_op (o_callR Try.func53 rfl rfl rfl (with_ret _ a2 k2 (tenQ (tenL z.Ls) (z.Qs.take j)) (H.ownP (LL := [.own a2 ((tenQ (tenL z.Ls) (z.Qs.take j)).length) k2 ((tenQ (tenL z.Ls) (z.Qs.take j)).flatMap strE) 9 1, .blk rb ([.slice (hd z.a1) z.Ls.length z.c1, .slice (hd z.a2) z.Qs.length z.c2]) 46, .own z.a1 z.Ls.length z.c1 ((z.Ls).flatMap thgE) 93 34, .own z.a2 z.Qs.length z.c2 ((z.Qs).flatMap limE) 98 2]) (L1 := [.own a2 ((tenQ (tenL z.Ls) (z.Qs.take j)).length) k2 ((tenQ (tenL z.Ls) (z.Qs.take j)).flatMap strE) 9 1]) (Lr := [.blk rb ([.slice (hd z.a1) z.Ls.length z.c1, .slice (hd z.a2) z.Qs.length z.c2]) 46, .own z.a1 z.Ls.length z.c1 ((z.Ls).flatMap thgE) 93 34, .own z.a2 z.Qs.length z.c2 ((z.Qs).flatMap limE) 98 2]) ((perm_front (j := 3) rfl).trans (.cons _ (.refl _))) rfl) (by omega) e12.1) ?_)
     rintro _ w ⟨a16, c17, rfl, Hc⟩
     replace H := H.callP (L1 := [.own a2 ((tenQ (tenL z.Ls) (z.Qs.take j)).length) k2 ((tenQ (tenL z.Ls) (z.Qs.take j)).flatMap strE) 9 1]) (Lr := [.blk rb ([.slice (hd z.a1) z.Ls.length z.c1, .slice (hd z.a2) z.Qs.length z.c2]) 46, .own z.a1 z.Ls.length z.c1 ((z.Ls).flatMap thgE) 93 34, .own z.a2 z.Qs.length z.c2 ((z.Qs).flatMap limE) 98 2]) (LL := [.own a2 ((tenQ (tenL z.Ls) (z.Qs.take j)).length) k2 ((tenQ (tenL z.Ls) (z.Qs.take j)).flatMap strE) 9 1, .blk rb ([.slice (hd z.a1) z.Ls.length z.c1, .slice (hd z.a2) z.Qs.length z.c2]) 46, .own z.a1 z.Ls.length z.c1 ((z.Ls).flatMap thgE) 93 34, .own z.a2 z.Qs.length z.c2 ((z.Qs).flatMap limE) 98 2]) ((perm_front (j := 3) rfl).trans (.cons _ (.refl _))) rfl Hc (.refl _)
     clear Hc
     replace H : Hp _ w _ ([_, _, _, .own a16 ((withF e12.1 (tenQ (tenL z.Ls) (z.Qs.take j))).length) c17 ((withF e12.1 (tenQ (tenL z.Ls) (z.Qs.take j))).flatMap strE) 9 1]) := H
     refine l_op (o_val (r_as) ?_)
     first | refine l_end ?_ | refine l_nil ?_
     repeat refine c_seq ?_
     refine c_region ?_
     refine l_op (o_val (r_mv) ?_)
     refine l_op (o_val (r_bin (a := (j : Int)) (b := 1) rfl rfl (fun _ => b_add (by omega) (by omega))) ?_)
     refine l_op (o_val (r_as) ?_)
     first | refine l_end ?_ | refine l_nil ?_
     have hts := tenQ_succ (tenL z.Ls) z.Qs j e12 he13
     rw [if_pos (of_decide_eq_true (decide_eq_true hc15))] at hts
     rw [← hts] at H
     refine round_end (j + 1, a16, c17) ?_ ?_ ?_
     · exact ⟨rfl, (show (.slice (hd a16) ((withF e12.1 (tenQ (tenL z.Ls) (z.Qs.take j))).length) c17 : Value) = .slice (hd (a16 : Option Nat)) ((tenQ (tenL z.Ls) (z.Qs.take (j + 1 : Nat))).length) (c17 : Nat) from (by rw [hts])), show VI ((j : Int) + 1) = VI ((j + 1 : Nat) : Int) from congrArg VI (by omega), trivial⟩
     · refine ⟨?_, ?_⟩
       · try dsimp only
         exact by omega
       · exact H.sub (.cons_cons _ (.cons_cons _ (.cons_cons _ (.cons_cons _ (List.nil_sublist _)))))
     · show z.Qs.length - (j + 1 : Nat) < z.Qs.length - j; omega
    ·
     repeat refine c_seq ?_
     refine c_no (by exact congrArg Value.bool (decide_eq_false hc15)) ?_
     refine c_skip ?_
     repeat refine c_seq ?_
     refine c_region ?_
     refine l_op (o_val (r_mv) ?_)
     refine l_op (o_val (r_bin (a := (j : Int)) (b := 1) rfl rfl (fun _ => b_add (by omega) (by omega))) ?_)
     refine l_op (o_val (r_as) ?_)
     first | refine l_end ?_ | refine l_nil ?_
     have hts := tenQ_succ (tenL z.Ls) z.Qs j e12 he13
     rw [if_neg (of_decide_eq_false (decide_eq_false hc15))] at hts
     rw [← hts] at H
     refine round_end (j + 1, a2, k2) ?_ ?_ ?_
     · exact ⟨rfl, (show (.slice (hd a2) ((tenQ (tenL z.Ls) (z.Qs.take j)).length) k2 : Value) = .slice (hd (a2 : Option Nat)) ((tenQ (tenL z.Ls) (z.Qs.take (j + 1 : Nat))).length) (k2 : Nat) from (by rw [hts])), show VI ((j : Int) + 1) = VI ((j + 1 : Nat) : Int) from congrArg VI (by omega), trivial⟩
     · refine ⟨?_, ?_⟩
       · try dsimp only
         exact by omega
       · exact H.sub (.cons_cons _ (.cons_cons _ (.cons_cons _ (.cons_cons _ (List.nil_sublist _)))))
     · show z.Qs.length - (j + 1 : Nat) < z.Qs.length - j; omega
   ·
    repeat refine c_seq ?_
    refine c_no (by exact congrArg Value.bool (decide_eq_false hc9)) ?_
    refine c_exit ?_
    repeat refine c_seq ?_
    refine c_region ?_
    refine l_op (o_val (r_mv) ?_)
    refine l_op (o_val (r_as) ?_)
    first | refine l_end ?_ | refine l_nil ?_
    refine c_ret ?_
    try dsimp only [Exit.then, Exit.inBlock]
    refine e_ret1 (v := .slice (hd a2) ((tenQ (tenL z.Ls) (z.Qs.take j)).length) k2) Try.results26 rfl ?_
    refine ⟨_, rfl, ?_⟩
    have hj2 : j = z.Qs.length := by omega
    subst hj2
    rw [List.take_length] at H
    rw [List.take_length]
    exact ⟨_, _, rfl, H.sub (.cons_cons _ (.cons_cons _ (.cons_cons _ (.cons_cons _ (List.nil_sublist _)))))⟩
theorem mhas_ret (w0 : World) (mb mb1 mb2 : Nat) (Mh : List ((List UInt8 × Id32) × Value × Nat)) (mc1 : Nat) (Ma : List (List UInt8 × Value × Nat)) (mc2 : Nat) (F : List UInt8 × Id32 → Option Int) (A : List UInt8 → Option Acc) (hm : MSt w0 mb mb1 mb2 Mh mc1 Ma mc2 F A) (s o : List UInt8) (ho : o.length = 32) :
    Ret Try.prog 23 [.pointer (some ⟨mb, 0, none⟩), .string ⟨(s).toArray⟩, .agg ((o).map V8).toArray] w0 fun v w' => v = .bool (F (s, ⟨o, ho⟩)).isSome ∧ Hp w0 w' [mb, mb1, mb2] [.blk mb [Value.map (some mb1), Value.map (some mb2)] 54, .obj mb1 (mobj kT Mh mc1), .obj mb2 (mobj kS Ma mc2)] := by
  refine ret_mk Try.func23 rfl Try.ntmps23 (by simp) ?_
  have H := hm.start
  repeat refine c_seq ?_
  refine c_region ?_
  refine l_op (o_box (v := .agg ((o).map V8).toArray) H rfl (fun b1 w H hb1 => ?_))
  replace H : Hp _ w _ ([.blk mb ([.map (some mb1), .map (some mb2)]) 54, .obj mb1 (mobj kT Mh mc1), .obj mb2 (mobj kS Ma mc2), .blk b1 ((o).map V8) 36]) := H
  refine l_op (o_val (r_as) ?_)
  first | refine l_end ?_ | refine l_nil ?_
  repeat refine c_seq ?_
  refine c_region ?_
  refine l_op (o_val (r_mv) ?_)
  refine l_op (o_callR Try.func47 rfl rfl rfl (mnone_at (F := F) (A := A) H (i := 0) (j := 1) (k := 2) rfl rfl rfl (by decide) (by decide) (by decide) hm.fh hm.fa hm.oh hm.oa) ?_)
  rintro _ w ⟨rfl, Hc⟩
  clear H
  have H := Hc; clear Hc
  replace H : Hp _ w _ [_, _, _, _] := H
  first | refine l_end ?_ | refine l_nil ?_
  repeat refine c_seq ?_
  refine c_no rfl ?_
  refine c_skip ?_
  repeat refine c_seq ?_
  refine c_still mixed (by kernel_rfl) ?_
  replace H := H.drew
  refine s_op (r_mv) ?_
  refine s_op (r_nilc rfl) ?_
  refine s_op (r_fa rfl fo54_0) ?_
  refine s_op (r_ld (v := .map (some mb1)) H (i := 0) rfl rfl ct51 rfl) ?_
  refine s_op (r_mv) ?_
  refine s_op (r_ldAA (l := o) H (i := 3) rfl rfl rt36 (show (o).length = 32 from ho)) ?_
  refine s_op (r_bldT (pv := [(0, .string ⟨(s).toArray⟩), (1, .agg ((o).map V8).toArray)]) (pre := [.string ⟨(s).toArray⟩]) (l := o) bd88 rfl rfl rfl rfl rfl rfl rfl (show (o).length = 32 from ho)) ?_
  refine s_op (r_lookT (k := (s, ⟨o, (show (o).length = 32 from ho)⟩)) 0 hm.fh H (i := 1) rfl Try.underlying51 keyT zv_int rfl rfl) ?_
  refine s_op (r_mv) ?_
  refine s_op (r_ext rfl rfl) ?_
  refine s_op (r_ext rfl rfl) ?_
  refine s_op (r_as) ?_
  refine s_op (r_as) ?_
  refine s_nil ?_
  repeat refine c_seq ?_
  refine c_region ?_
  refine l_op (o_val (r_mv) ?_)
  refine l_op (o_val (r_as) ?_)
  first | refine l_end ?_ | refine l_nil ?_
  refine c_ret ?_
  try dsimp only [Exit.then, Exit.inBlock]
  refine e_ret1 (v := .bool ((F (s, ⟨o, (show (o).length = 32 from ho)⟩)).isSome)) Try.results23 rfl ?_
  refine ⟨_, rfl, ?_⟩
  exact ⟨rfl, H.sub (.cons_cons _ (.cons_cons _ (.cons_cons _ (List.nil_sublist _))))⟩
theorem mten_ret (w0 : World) (mb mb1 mb2 : Nat) (Mh : List ((List UInt8 × Id32) × Value × Nat)) (mc1 : Nat) (Ma : List (List UInt8 × Value × Nat)) (mc2 : Nat) (F : List UInt8 × Id32 → Option Int) (A : List UInt8 → Option Acc) (hm : MSt w0 mb mb1 mb2 Mh mc1 Ma mc2 F A) (hMl : Ma.length ≤ 1048576) :
    Ret Try.prog 25 [.pointer (some ⟨mb, 0, none⟩)] w0 fun v w' => ∃ R a c, TenP A R ∧ v = .slice (hd a) R.length c ∧ Hp w0 w' [mb, mb1, mb2] ([.blk mb [Value.map (some mb1), Value.map (some mb2)] 54, .obj mb1 (mobj kT Mh mc1), .obj mb2 (mobj kS Ma mc2)] ++ [.own a R.length c (R.flatMap strE) 9 1]) := by
  refine ret_mk Try.func25 rfl Try.ntmps25 (by simp) ?_
  have H := hm.start
  repeat refine c_seq ?_
  refine c_region ?_
  refine l_op (o_val (r_as) ?_)
  first | refine l_end ?_ | refine l_nil ?_
  repeat refine c_seq ?_
  refine c_region ?_
  refine l_op (o_val (r_mv) ?_)
  refine l_op (o_callR Try.func47 rfl rfl rfl (mnone_at (F := F) (A := A) H (i := 0) (j := 1) (k := 2) rfl rfl rfl (by decide) (by decide) (by decide) hm.fh hm.fa hm.oh hm.oa) ?_)
  rintro _ w ⟨rfl, Hc⟩
  clear H
  have H := Hc; clear Hc
  replace H : Hp _ w _ ([.blk mb ([.map (some mb1), .map (some mb2)]) 54, .obj mb1 (mobj kT Mh mc1), .obj mb2 (mobj kS Ma mc2)]) := H
  first | refine l_end ?_ | refine l_nil ?_
  repeat refine c_seq ?_
  refine c_no rfl ?_
  refine c_skip ?_
  repeat refine c_seq ?_
  refine c_region ?_
  refine l_op (o_val (r_as) ?_)
  first | refine l_end ?_ | refine l_nil ?_
  repeat refine c_seq ?_
  refine c_region ?_
  refine l_op (o_val (r_mv) ?_)
  refine l_op (o_val (r_nilc rfl) ?_)
  refine l_op (o_val (r_fa rfl fo54_1) ?_)
  refine l_op (o_val (r_ld (v := .map (some mb2)) H (i := 0) rfl rfl ct52 rfl) ?_)
  refine l_op (o_range (kv := kS) H (i := 2) rfl Try.underlying52 rfl (fun b1 w H hb1 => ?_))
  replace H : Hp _ w _ ([_, _, _, .obj b1 (itO mb2 Ma mc2 ([]))]) := H
  first | refine l_end ?_ | refine l_nil ?_
  repeat refine c_seq ?_
  refine c_block ?_
  repeat refine c_seq ?_
  refine c_loop3 (fun (vis : List (List UInt8)) (a : Option Nat) (k : Nat) => [(3, .slice (hd a) ((vis.filter (tenB A)).length) k), (12, .pointer (some ⟨b1, 0, none⟩))])
    (fun (vis : List (List UInt8)) (a : Option Nat) (k : Nat) w => (vis.Nodup ∧ ∀ k ∈ vis, (A k).isSome = true) ∧ Hp w0 w [mb, mb1, mb2] ([.blk mb ([.map (some mb1), .map (some mb2)]) 54, .obj mb1 (mobj kT Mh mc1), .obj mb2 (mobj kS Ma mc2), .obj b1 (itO mb2 Ma mc2 vis), .own a ((vis.filter (tenB A)).length) k ((vis.filter (tenB A)).flatMap strE) 9 1]))
    (fun (vis : List (List UInt8)) (a : Option Nat) (k : Nat) => Ma.length - vis.length) ([]) none 0 ⟨rfl, rfl, trivial⟩ ⟨⟨List.nodup_nil, fun _ h => by cases h⟩, (H.nilEnd 9 1)⟩ ?_
  clear H
  rintro vis a k τ w ⟨⟨hvn, hv⟩, H⟩
  have hvl0 := vis_le hm.fa hvn hv
  have hfl := List.length_filter_le (tenB A) vis
  repeat refine c_seq ?_
  refine c_region ?_
  refine l_op (o_next (kv := kS) (enc := accE) H (i := 2) (j := 3) rfl rfl hm.oa hm.fa hv rfl (fun hall2 w H => ?_) (fun kk3 va4 hkf5 hkn6 w H => ?_))
  ·
   refine l_op (o_val (r_ext rfl rfl) ?_)
   first | refine l_end ?_ | refine l_nil ?_
   repeat refine c_seq ?_
   refine c_no rfl ?_
   refine c_exit ?_
   repeat refine c_seq ?_
   refine c_region ?_
   refine l_op (o_val (r_mv) ?_)
   refine l_op (o_callR Try.func52 rfl rfl rfl (sortG_ret H (i := 4) rfl rfl (by omega)) ?_)
   rintro _ w ⟨rfl, Hc⟩
   clear H
   have H := Hc; clear Hc
   replace H : Hp _ w _ ([_, _, _, _, .own a ((vis.filter (tenB A)).length) k ((sortedS (vis.filter (tenB A))).flatMap strE) 9 1]) := H
   first | refine l_end ?_ | refine l_nil ?_
   repeat refine c_seq ?_
   refine c_region ?_
   refine l_op (o_val (r_mv) ?_)
   refine l_op (o_val (r_as) ?_)
   first | refine l_end ?_ | refine l_nil ?_
   refine c_ret ?_
   try dsimp only [Exit.then, Exit.inBlock]
   refine e_ret1 (v := .slice (hd a) ((vis.filter (tenB A)).length) k) Try.results25 rfl ?_
   refine ⟨_, rfl, ?_⟩
   have hsl : (sortedS (vis.filter (tenB A))).length = (vis.filter (tenB A)).length := List.length_mergeSort _
   refine ⟨sortedS (vis.filter (tenB A)), a, k, ⟨vis, hvn, fun k => ⟨hall2 k, hv k⟩, rfl⟩, ?_, ?_⟩
   · rw [hsl]
   · rw [hsl]; exact H.sub (.cons_cons _ (.cons_cons _ (.cons_cons _ (.cons _ (.cons_cons _ (List.nil_sublist _))))))
  ·
   replace H : Hp _ w _ ([_, _, _, .obj b1 (itO mb2 Ma mc2 (vis ++ [kk3])), _]) := H
   refine l_op (o_val (r_ext rfl rfl) ?_)
   first | refine l_end ?_ | refine l_nil ?_
   repeat refine c_seq ?_
   refine c_yes rfl ?_
   refine c_skip ?_
   repeat refine c_seq ?_
   refine c_block ?_
   repeat refine c_seq ?_
   refine c_region ?_
   refine l_op (o_val (r_entry (kv := kS) (enc := accE) H (i := 2) (j := 3) rfl rfl hm.oa hm.fa hkf5 rfl) ?_)
   refine l_op (o_val (r_ext rfl rfl) ?_)
   refine l_op (o_val (r_ext rfl rfl) ?_)
   refine l_op (o_alloc H zc91 (fun b7 w H hb7 => ?_))
   replace H : Hp _ w _ ([_, _, _, _, _, .blk b7 ([VI 0, VI 0, VI 0]) 91]) := H
   refine l_op (o_val (r_as) ?_)
   refine l_op (o_stW (C' := [VI va4.quota, VI va4.used, VI va4.things]) H (i := 5) rfl rfl rfl cs91 (by simp [Value.oneCell']) (by rfl) (by rfl) (fun w H => ?_))
   replace H : Hp _ w _ ([_, _, _, _, _, .blk b7 ([VI va4.quota, VI va4.used, VI va4.things]) 91]) := H
   first | refine l_end ?_ | refine l_nil ?_
   repeat refine c_seq ?_
   refine c_region ?_
   refine l_op (o_val (r_fa rfl fo91_2) ?_)
   refine l_op (o_val (r_ld (v := VI va4.things) H (i := 5) rfl rfl ct3 rfl) ?_)
   refine l_op (o_val (r_bin (a := va4.things) (b := 0) rfl rfl (fun _ => b_gtr)) ?_)
   refine l_op (o_val (r_mv) ?_)
   by_cases hc8 : 0 < va4.things
   ·
    refine l_no rfl rfl (by exact congrArg Value.bool (decide_eq_true hc8)) rfl ?_
    refine l_no rfl rfl (by exact congrArg Value.bool (decide_eq_true hc8)) rfl ?_
    refine l_no rfl rfl (by exact congrArg Value.bool (decide_eq_true hc8)) rfl ?_
    refine l_op (o_val (r_pick (b := true) (congrArg Value.bool (decide_eq_true hc8))) ?_)
    first | refine l_end ?_ | refine l_nil ?_
    repeat refine c_seq ?_
    refine c_yes rfl ?_
    repeat refine c_seq ?_
    refine c_region ?_
    refine l_op (o_val (r_mv) ?_)
    refine l_op (o_val (r_mv) ?_)
    refine l_op (o_bslV ([.string ⟨(kk3).toArray⟩]) H sl49 zc9 rfl (by simp [Value.oneCell']) rfl (by decide) (fun b9 w H hb9 => ?_))
    replace H : Hp _ w _ ([_, _, _, _, _, _, .own (some b9) 1 1 (([kk3]).flatMap strE) 9 1]) := H
    refine l_op (o_appG (enc := strE) (s := ⟨hd (some b9), 1, 1, [kk3]⟩) (l' := vis.filter (tenB A) ++ ([kk3])) (len' := (vis.filter (tenB A)).length + 1) rfl rfl H (i := 4) rfl sl49 Try.underlying49 rfl rfl (H.glOwn (i := 6) rfl (by decide) (fun _ _ => rfl)) (by decide) (fun _ _ => rfl) (by omega) (by decide) (fun a10 c11 w H => ?_))
    replace H : Hp _ w _ ([_, _, _, _, .own a10 ((vis.filter (tenB A)).length + 1) c11 ((vis.filter (tenB A) ++ ([kk3])).flatMap strE) 9 1, _, _]) := H
    refine l_op (o_val (r_as) ?_)
    first | refine l_end ?_ | refine l_nil ?_
    have hge : (A kk3).getD acc0 = va4 := by rw [hkf5]; rfl
    have htb : tenB A kk3 = true := by
      rw [tenB, hge]
      simp [of_decide_eq_true (decide_eq_true hc8)]
    have hsn := ten_snoc A vis kk3
    rw [htb] at hsn
    have hvs := vis_snoc hvn hv hkf5 hkn6
    have hvl := vis_le hm.fa hvs.1 hvs.2
    rw [List.length_append, List.length_singleton] at hvl
    have hsn2 : (vis ++ [kk3]).filter (tenB A) = vis.filter (tenB A) ++ [kk3] := hsn
    have hsl : (vis.filter (tenB A)).length + 1 = ((vis ++ [kk3]).filter (tenB A)).length := by rw [hsn2, List.length_append]; rfl
    rw [← hsn2, hsl] at H
    refine round_end (vis ++ [kk3], a10, c11) ?_ ?_ ?_
    · exact ⟨(show (.slice (hd a10) ((vis.filter (tenB A)).length + 1) c11 : Value) = .slice (hd (a10 : Option Nat)) (((vis ++ [kk3] : List (List UInt8)).filter (tenB A)).length) (c11 : Nat) from (by rw [hsl])), rfl, trivial⟩
    · refine ⟨?_, ?_⟩
      · try dsimp only
        exact hvs
      · exact H.sub (.cons_cons _ (.cons_cons _ (.cons_cons _ (.cons_cons _ (.cons_cons _ (List.nil_sublist _))))))
    · show Ma.length - (vis ++ [kk3]).length < Ma.length - vis.length; rw [List.length_append, List.length_singleton]; omega
   ·
    refine l_yes rfl rfl (by exact congrArg Value.bool (decide_eq_false hc8)) (o_val (r_fa rfl fo91_0) ?_)
    refine l_yes rfl rfl (by exact congrArg Value.bool (decide_eq_false hc8)) (o_val (r_ld (v := VI va4.quota) H (i := 5) rfl rfl ct2 rfl) ?_)
    refine l_yes rfl rfl (by exact congrArg Value.bool (decide_eq_false hc8)) (o_val (r_bin (a := va4.quota) (b := 0) rfl rfl (fun _ => b_gtr)) ?_)
    refine l_op (o_val (r_pick (b := false) (congrArg Value.bool (decide_eq_false hc8))) ?_)
    first | refine l_end ?_ | refine l_nil ?_
    by_cases hc12 : 0 < va4.quota
    ·
     repeat refine c_seq ?_
     refine c_yes (by exact congrArg Value.bool (decide_eq_true hc12)) ?_
     repeat refine c_seq ?_
     refine c_region ?_
     refine l_op (o_val (r_mv) ?_)
     refine l_op (o_val (r_mv) ?_)
     refine l_op (o_bslV ([.string ⟨(kk3).toArray⟩]) H sl49 zc9 rfl (by simp [Value.oneCell']) rfl (by decide) (fun b13 w H hb13 => ?_))
     replace H : Hp _ w _ ([_, _, _, _, _, _, .own (some b13) 1 1 (([kk3]).flatMap strE) 9 1]) := H
     refine l_op (o_appG (enc := strE) (s := ⟨hd (some b13), 1, 1, [kk3]⟩) (l' := vis.filter (tenB A) ++ ([kk3])) (len' := (vis.filter (tenB A)).length + 1) rfl rfl H (i := 4) rfl sl49 Try.underlying49 rfl rfl (H.glOwn (i := 6) rfl (by decide) (fun _ _ => rfl)) (by decide) (fun _ _ => rfl) (by omega) (by decide) (fun a14 c15 w H => ?_))
     replace H : Hp _ w _ ([_, _, _, _, .own a14 ((vis.filter (tenB A)).length + 1) c15 ((vis.filter (tenB A) ++ ([kk3])).flatMap strE) 9 1, _, _]) := H
     refine l_op (o_val (r_as) ?_)
     first | refine l_end ?_ | refine l_nil ?_
     have hge : (A kk3).getD acc0 = va4 := by rw [hkf5]; rfl
     have htb : tenB A kk3 = true := by
       rw [tenB, hge]
       simp [of_decide_eq_false (decide_eq_false hc8), of_decide_eq_true (decide_eq_true hc12)]
     have hsn := ten_snoc A vis kk3
     rw [htb] at hsn
     have hvs := vis_snoc hvn hv hkf5 hkn6
     have hvl := vis_le hm.fa hvs.1 hvs.2
     rw [List.length_append, List.length_singleton] at hvl
     have hsn2 : (vis ++ [kk3]).filter (tenB A) = vis.filter (tenB A) ++ [kk3] := hsn
     have hsl : (vis.filter (tenB A)).length + 1 = ((vis ++ [kk3]).filter (tenB A)).length := by rw [hsn2, List.length_append]; rfl
     rw [← hsn2, hsl] at H
     refine round_end (vis ++ [kk3], a14, c15) ?_ ?_ ?_
     · exact ⟨(show (.slice (hd a14) ((vis.filter (tenB A)).length + 1) c15 : Value) = .slice (hd (a14 : Option Nat)) (((vis ++ [kk3] : List (List UInt8)).filter (tenB A)).length) (c15 : Nat) from (by rw [hsl])), rfl, trivial⟩
     · refine ⟨?_, ?_⟩
       · try dsimp only
         exact hvs
       · exact H.sub (.cons_cons _ (.cons_cons _ (.cons_cons _ (.cons_cons _ (.cons_cons _ (List.nil_sublist _))))))
     · show Ma.length - (vis ++ [kk3]).length < Ma.length - vis.length; rw [List.length_append, List.length_singleton]; omega
    ·
     repeat refine c_seq ?_
     refine c_no (by exact congrArg Value.bool (decide_eq_false hc12)) ?_
     refine c_skip ?_
     have hge : (A kk3).getD acc0 = va4 := by rw [hkf5]; rfl
     have htb : tenB A kk3 = false := by
       rw [tenB, hge]
       simp [of_decide_eq_false (decide_eq_false hc8), of_decide_eq_false (decide_eq_false hc12)]
     have hsn := ten_snoc A vis kk3
     rw [htb] at hsn
     have hvs := vis_snoc hvn hv hkf5 hkn6
     have hvl := vis_le hm.fa hvs.1 hvs.2
     rw [List.length_append, List.length_singleton] at hvl
     have hsn2 : (vis ++ [kk3]).filter (tenB A) = vis.filter (tenB A) := by rw [hsn]; simp
     rw [← hsn2] at H
     refine round_end (vis ++ [kk3], a, k) ?_ ?_ ?_
     · exact ⟨(show (.slice (hd a) ((vis.filter (tenB A)).length) k : Value) = .slice (hd (a : Option Nat)) (((vis ++ [kk3] : List (List UInt8)).filter (tenB A)).length) (k : Nat) from (by rw [hsn2])), rfl, trivial⟩
     · refine ⟨?_, ?_⟩
       · try dsimp only
         exact hvs
       · exact H.sub (.cons_cons _ (.cons_cons _ (.cons_cons _ (.cons_cons _ (.cons_cons _ (List.nil_sublist _))))))
     · show Ma.length - (vis ++ [kk3]).length < Ma.length - vis.length; rw [List.length_append, List.length_singleton]; omega
end Go.Proofs.Ytncmcgcilijfkaa
namespace Go.Proofs.Ytncmcgcilijfkaa
open Go
set_option maxRecDepth 100000
theorem less_iff : ∀ (a b : List UInt8), Op.bytesLess a b = true ↔ a < b
  | a, [] => by cases a <;> simp [Op.bytesLess]
  | [], b :: bs => by simp [Op.bytesLess]
  | a :: xs, b :: bs => by
    rw [Op.bytesLess, List.cons_lt_cons_iff, ← less_iff xs bs]
    simp
theorem less_trans : ∀ {a b c : List UInt8}, Op.bytesLess a b = true → Op.bytesLess b c = true → Op.bytesLess a c = true
  | a, [], c, h, _ => by cases a <;> cases h
  | a, b :: bs, [], _, h => by cases h
  | [], b :: bs, c :: cs, _, _ => rfl
  | a :: xs, b :: bs, c :: cs, h1, h2 => by
    simp only [Op.bytesLess, Bool.or_eq_true, decide_eq_true_eq, Bool.and_eq_true, beq_iff_eq] at h1 h2 ⊢
    rcases h1 with h1 | ⟨e1, h1⟩
    · rcases h2 with h2 | ⟨e2, h2⟩
      · exact .inl (UInt8.lt_trans h1 h2)
      · exact .inl (e2 ▸ h1)
    · rcases h2 with h2 | ⟨e2, h2⟩
      · exact .inl (e1 ▸ h2)
      · exact .inr ⟨e1.trans e2, less_trans h1 h2⟩
theorem less_tot : ∀ {a b : List UInt8}, Op.bytesLess a b = false → Op.bytesLess b a = false → a = b
  | [], [], _, _ => rfl
  | [], b :: bs, h, _ => by cases h
  | a :: xs, [], _, h => by cases h
  | a :: xs, b :: bs, h1, h2 => by
    simp only [Op.bytesLess, Bool.or_eq_false_iff, decide_eq_false_iff_not, Bool.and_eq_false_iff, beq_eq_false_iff_ne, ne_eq] at h1 h2
    have e : a = b := UInt8.le_antisymm (UInt8.not_lt.1 h2.1) (UInt8.not_lt.1 h1.1)
    subst e
    rw [less_tot (a := xs) (b := bs) (by rcases h1.2 with h | h; exact absurd rfl h; exact h) (by rcases h2.2 with h | h; exact absurd rfl h; exact h)]
theorem le_less (a b : List UInt8) : decide (a ≤ b) = !Op.bytesLess b a := by
  rw [Bool.eq_iff_iff, decide_eq_true_eq, Bool.not_eq_true', Bool.eq_false_iff, ne_eq, less_iff]
  rfl
/-- rising lists of the same texts are one. -/
def Rising (l : List (List UInt8)) : Prop := l.Pairwise fun x y => Op.bytesLess x y = true
theorem rising_eq : ∀ {l m : List (List UInt8)}, Rising l → Rising m → (∀ x, x ∈ l ↔ x ∈ m) → l = m
  | [], [], _, _, _ => rfl
  | [], y :: m, _, _, h => by cases (h y).2 (List.mem_cons_self ..)
  | x :: l, [], _, _, h => by cases (h x).1 (List.mem_cons_self ..)
  | x :: l, y :: m, h1, h2, h => by
    obtain ⟨a1, a2⟩ := List.pairwise_cons.1 h1
    obtain ⟨b1, b2⟩ := List.pairwise_cons.1 h2
    have no : ∀ {a b : List UInt8}, Op.bytesLess a b = true → Op.bytesLess b a = true → False := fun p q => by
      have := less_trans p q
      rw [less_self] at this; cases this
    have e : x = y := by
      rcases List.mem_cons.1 ((h x).1 (List.mem_cons_self ..)) with e | hx
      · exact e
      · rcases List.mem_cons.1 ((h y).2 (List.mem_cons_self ..)) with e | hy
        · exact e.symm
        · exact (no (a1 y hy) (b1 x hx)).elim
    subst e
    rw [rising_eq (l := l) (m := m) a2 b2 fun z => ⟨fun hz => by
      rcases List.mem_cons.1 ((h z).1 (List.mem_cons_of_mem _ hz)) with e | hm
      · have := a1 z hz
        rw [e, less_self] at this; cases this
      · exact hm, fun hz => by
      rcases List.mem_cons.1 ((h z).2 (List.mem_cons_of_mem _ hz)) with e | hm
      · have := b1 z hz
        rw [e, less_self] at this; cases this
      · exact hm⟩]
theorem with_mem (s x : List UInt8) : ∀ (l : List (List UInt8)), x ∈ withF s l ↔ x = s ∨ x ∈ l
  | [] => by simp [withF]
  | y :: l => by
    rw [withF]
    split
    · rw [List.mem_cons, with_mem s x l, List.mem_cons]
      constructor
      · rintro (h | h | h) <;> simp [h]
      · rintro (h | h | h) <;> simp [h]
    · split
      · rename_i h
        subst h
        simp
      · simp
theorem with_rising (s : List UInt8) : ∀ {l : List (List UInt8)}, Rising l → Rising (withF s l)
  | [], _ => by simp [withF, Rising]
  | y :: l, h => by
    obtain ⟨a1, a2⟩ := List.pairwise_cons.1 h
    rw [withF]
    split
    · rename_i hy
      refine List.pairwise_cons.2 ⟨fun z hz => ?_, with_rising s a2⟩
      rcases (with_mem s z l).1 hz with e | hz
      · rw [e]; exact hy
      · exact a1 z hz
    · split
      · exact h
      · rename_i h1 h2
        have hs : Op.bytesLess s y = true := by
          cases hb : Op.bytesLess s y with
          | true => rfl
          | false => exact absurd (less_tot (by simpa using h1) hb) h2
        refine List.pairwise_cons.2 ⟨fun z hz => ?_, h⟩
        rcases List.mem_cons.1 hz with e | hz
        · rw [e]; exact hs
        · exact less_trans hs (a1 z hz)
theorem sortedS_rising {l : List (List UInt8)} (hn : l.Nodup) : Rising (sortedS l) ∧ ∀ x, x ∈ sortedS l ↔ x ∈ l := by
  have hp := List.mergeSort_perm l (fun x y => decide (x ≤ y))
  have hs := List.pairwise_mergeSort (le := fun x y => decide (x ≤ y)) (fun a b c h1 h2 => by
    rw [le_less, Bool.not_eq_true'] at h1 h2 ⊢
    cases hb : Op.bytesLess c a with
    | false => rfl
    | true =>
      cases hx : Op.bytesLess a b with
      | true => rw [less_trans hb hx] at h2; cases h2
      | false => rw [less_tot hx h1] at hb; rw [hb] at h2; cases h2) (fun a b => by
    rw [le_less, le_less]
    cases h1 : Op.bytesLess b a with
    | false => rfl
    | true =>
      cases h2 : Op.bytesLess a b with
      | false => rfl
      | true => have := less_trans h1 h2; rw [less_self] at this; cases this) l
  refine ⟨?_, fun x => hp.mem_iff⟩
  have hn2 : (sortedS l).Nodup := hp.nodup_iff.2 hn
  have hs2 : (sortedS l).Pairwise fun x y => decide (x ≤ y) = true := hs
  refine (hs2.and hn2).imp fun {x y} ⟨h1, h2⟩ => ?_
  rw [le_less, Bool.not_eq_true'] at h1
  cases hb : Op.bytesLess x y with
  | true => rfl
  | false => exact absurd (less_tot hb h1) h2
theorem tenL_spec (L : List (MKey × Int)) : Rising (tenL L) ∧ ∀ x, x ∈ tenL L ↔ ∃ p ∈ L, p.1.1 = x := by
  have : ∀ (L : List (MKey × Int)) (a : List (List UInt8)), Rising a → Rising (L.foldl (fun acc p => withF p.1.1 acc) a) ∧ ∀ x, x ∈ L.foldl (fun acc p => withF p.1.1 acc) a ↔ (∃ p ∈ L, p.1.1 = x) ∨ x ∈ a := by
    intro L
    induction L with
    | nil => intro a h; exact ⟨h, fun x => by simp⟩
    | cons p L ih =>
      intro a h
      obtain ⟨h1, h2⟩ := ih (withF p.1.1 a) (with_rising _ h)
      refine ⟨h1, fun x => ?_⟩
      rw [List.foldl_cons, h2 x, with_mem]
      constructor
      · rintro (⟨q, hq, e⟩ | e | h)
        · exact .inl ⟨q, List.mem_cons_of_mem _ hq, e⟩
        · exact .inl ⟨p, List.mem_cons_self .., e.symm⟩
        · exact .inr h
      · rintro (⟨q, hq, e⟩ | h)
        · rcases List.mem_cons.1 hq with rfl | hq
          · exact .inr (.inl e.symm)
          · exact .inl ⟨q, hq, e⟩
        · exact .inr (.inr h)
  obtain ⟨h1, h2⟩ := this L [] .nil
  exact ⟨h1, fun x => by rw [tenL, h2 x]; simp⟩
theorem tenQ_spec (l : List (List UInt8)) (h : Rising l) (Q : List (List UInt8 × Int)) : Rising (tenQ l Q) ∧ ∀ x, x ∈ tenQ l Q ↔ (∃ q ∈ Q, q.1 = x ∧ 0 < q.2) ∨ x ∈ l := by
  induction Q generalizing l with
  | nil => exact ⟨h, fun x => by simp [tenQ]⟩
  | cons q Q ih =>
    have e0 : tenQ l (q :: Q) = tenQ (if 0 < q.2 then withF q.1 l else l) Q := rfl
    rw [e0]
    by_cases hq : 0 < q.2
    · rw [if_pos hq]
      obtain ⟨h1, h2⟩ := ih (withF q.1 l) (with_rising _ h)
      refine ⟨h1, fun x => ?_⟩
      rw [h2 x, with_mem]
      constructor
      · rintro (⟨r, hr, e⟩ | e | h)
        · exact .inl ⟨r, List.mem_cons_of_mem _ hr, e⟩
        · exact .inl ⟨q, List.mem_cons_self .., e.symm, hq⟩
        · exact .inr h
      · rintro (⟨r, hr, e⟩ | h)
        · rcases List.mem_cons.1 hr with rfl | hr
          · exact .inr (.inl e.1.symm)
          · exact .inl ⟨r, hr, e⟩
        · exact .inr (.inr h)
    · rw [if_neg hq]
      obtain ⟨h1, h2⟩ := ih l h
      refine ⟨h1, fun x => ?_⟩
      rw [h2 x]
      constructor
      · rintro (⟨r, hr, e⟩ | h)
        · exact .inl ⟨r, List.mem_cons_of_mem _ hr, e⟩
        · exact .inr h
      · rintro (⟨r, hr, e⟩ | h)
        · rcases List.mem_cons.1 hr with rfl | hr
          · exact absurd e.2 hq
          · exact .inl ⟨r, hr, e⟩
        · exact .inr h
structure MRel (X : MM) (Ls : List (MKey × Int)) (Qs : List (List UInt8 × Int)) : Prop where
  p : Ls.Perm X.G
  q : ∀ s, (X.acc s).quota = mayQ s Qs
  qn : (Qs.map (·.1)).Nodup
theorem MRel.mt : MRel MM.mt [] [] := ⟨.refl _, fun _ => rfl, by simp⟩
theorem look_perm {L G : List (MKey × Int)} (hp : L.Perm G) (hn : (G.map (·.1)).Nodup) (k : MKey) : look L k = look G k := by
  have mem : ∀ {L : List (MKey × Int)}, (L.map (·.1)).Nodup → ∀ {p : MKey × Int}, p ∈ L → look L p.1 = some p.2 := by
    intro L hn p hp
    induction L with
    | nil => cases hp
    | cons q L ih =>
      rw [List.map_cons, List.nodup_cons] at hn
      rw [look]
      rcases List.mem_cons.1 hp with rfl | hp
      · rw [if_pos rfl]
      · rw [if_neg (fun e => hn.1 (by rw [← e]; exact List.mem_map.2 ⟨p, hp, rfl⟩)), ih hn.2 hp]
  cases h : look G k with
  | none =>
    rw [look_none] at h ⊢
    exact fun p hp' => h p (hp.mem_iff.1 hp')
  | some v => exact mem ((hp.map _).nodup_iff.2 hn) (hp.mem_iff.2 (look_mem h))
theorem sum_perm {L G : List (MKey × Int)} (hp : L.Perm G) (s : List UInt8) : sumT s L = sumT s G := by
  induction hp with
  | nil => rfl
  | cons x _ ih => rw [sumT, sumT, ih]
  | swap x y l => simp only [sumT]; omega
  | trans _ _ ih1 ih2 => exact ih1.trans ih2
section
variable {X : MM} {Ls : List (MKey × Int)} {Qs : List (List UInt8 × Int)}
theorem MRel.look (h : MRel X Ls Qs) (hX : X.Inv) (k : MKey) : look Ls k = Proofs.Ytncmcgcilijfkaa.look X.G k := look_perm h.p hX.nd k
theorem MRel.nn (h : MRel X Ls Qs) (hX : X.Inv) : ∀ p ∈ Ls, 0 ≤ p.2 := fun p hp => hX.nn p (h.p.mem_iff.1 hp)
theorem MRel.sum (h : MRel X Ls Qs) (hX : X.Inv) (s : List UInt8) : sumT s Ls = (X.acc s).used := by rw [sum_perm h.p, hX.us]
theorem MRel.may (h : MRel X Ls Qs) (hX : X.Inv) (s : List UInt8) : 0 ≤ mayQ s Qs ∧ mayQ s Qs ≤ 9223372036854775807 := by rw [← h.q]; exact hX.q s
theorem drop_perm : ∀ {L : List (MKey × Int)} {k : MKey} {v : Int}, Proofs.Ytncmcgcilijfkaa.look L k = some v → L.Perm ((k, v) :: dropG k L)
  | p :: L, k, v, h => by
    rw [Proofs.Ytncmcgcilijfkaa.look] at h
    rw [dropG]
    by_cases e : k = p.1
    · rw [if_pos e] at h ⊢
      cases h
      rw [e]
    · rw [if_neg e] at h ⊢
      exact (List.Perm.cons p (drop_perm h)).trans (.swap ..)
theorem mayQ_set (s t : List UInt8) (n : Int) : ∀ (Q : List (List UInt8 × Int)), mayQ t (setQ s n Q) = if t = s then n else mayQ t Q
  | [] => by
    rw [setQ, mayQ, mayQ]
    by_cases e : s = t
    · rw [if_pos e, if_pos e.symm]
    · rw [if_neg e, if_neg (fun h => e h.symm)]; rfl
  | p :: Q => by
    rw [setQ]
    by_cases e : p.1 = s
    · rw [if_pos e, mayQ, mayQ]
      simp only [e]
      by_cases h : s = t
      · rw [if_pos h, if_pos h.symm]
      · rw [if_neg h, if_neg (fun h2 => h h2.symm), if_neg h]
    · rw [if_neg e, mayQ, mayQ, mayQ_set s t n Q]
      by_cases h : p.1 = t
      · rw [if_pos h, if_pos h, if_neg (fun h2 => e (h.trans h2))]
      · rw [if_neg h, if_neg h]
theorem setQ_keys (s : List UInt8) (n : Int) : ∀ (Q : List (List UInt8 × Int)) (x : List UInt8), x ∈ (setQ s n Q).map (·.1) ↔ x = s ∨ x ∈ Q.map (·.1)
  | [], x => by simp [setQ]
  | p :: Q, x => by
    rw [setQ]
    by_cases e : p.1 = s
    · rw [if_pos e]; simp [e]
    · rw [if_neg e, List.map_cons, List.mem_cons, setQ_keys s n Q x, List.map_cons, List.mem_cons]
      constructor
      · rintro (h | h | h) <;> simp [h]
      · rintro (h | h | h) <;> simp [h]
theorem setQ_nd (s : List UInt8) (n : Int) : ∀ {Q : List (List UInt8 × Int)}, (Q.map (·.1)).Nodup → ((setQ s n Q).map (·.1)).Nodup
  | [], _ => by simp [setQ]
  | p :: Q, h => by
    rw [List.map_cons, List.nodup_cons] at h
    rw [setQ]
    by_cases e : p.1 = s
    · rw [if_pos e, List.map_cons, List.nodup_cons]; exact h
    · rw [if_neg e, List.map_cons, List.nodup_cons]
      refine ⟨fun hm => ?_, setQ_nd s n h.2⟩
      rcases (setQ_keys s n Q p.1).1 hm with h1 | h1
      · exact e h1
      · exact h.1 h1
theorem setQ_len (s : List UInt8) (n : Int) : ∀ (Q : List (List UInt8 × Int)), (setQ s n Q).length ≤ Q.length + 1
  | [] => by simp [setQ]
  | p :: Q => by
    have := setQ_len s n Q
    rw [setQ]; split <;> simp <;> omega
theorem MRel.quota (h : MRel X Ls Qs) (s : List UInt8) (n : Int) : MRel (quotaX X s n) Ls (setQ s (if n < 0 then 0 else n) Qs) := by
  refine ⟨h.p, fun t => ?_, setQ_nd _ _ h.qn⟩
  rw [quotaX, acc_put, mayQ_set]
  by_cases e : t = s
  · rw [if_pos e, if_pos e]
  · rw [if_neg e, if_neg e]; exact h.q t
abbrev AddC (n : Int) (s : List UInt8) (k : Id32) (Ls : List (MKey × Int)) (Qs : List (List UInt8 × Int)) : Prop := ¬ n < 0 ∧ (Proofs.Ytncmcgcilijfkaa.look Ls (s, k)).isSome = false ∧ ¬ (mayQ s Qs < n ∨ mayQ s Qs - n < sumT s Ls)
theorem MRel.addC (h : MRel X Ls Qs) (hX : X.Inv) (s : List UInt8) (k : Id32) (n : Int) : AddC n s k Ls Qs ↔ addB X s k n = true := by
  have h1 := h.look hX (s, k)
  have h2 := h.sum hX s
  have h3 := h.q s
  have h4 := hX.u s
  simp only [AddC, addB, Bool.and_eq_true, decide_eq_true_eq, h1, h2, ← h3]
  rw [← Option.not_isSome, Bool.not_eq_true']
  constructor
  · rintro ⟨a, b, c⟩; exact ⟨a, b, by omega⟩
  · rintro ⟨a, b, c⟩; exact ⟨a, b, by omega⟩
theorem MRel.addD (h : MRel X Ls Qs) (hX : X.Inv) (s : List UInt8) (k : Id32) (n : Int) : decide (AddC n s k Ls Qs) = addB X s k n := by
  rw [Bool.eq_iff_iff, decide_eq_true_eq]; exact h.addC hX s k n
theorem MRel.addE (h : MRel X Ls Qs) (hX : X.Inv) (s : List UInt8) (k : Id32) (n : Int) : (if n < 0 then 1 else if (Proofs.Ytncmcgcilijfkaa.look Ls (s, k)).isSome then 0 else if mayQ s Qs < n ∨ mayQ s Qs - n < sumT s Ls then 16 else 0) = Proofs.Ytncmcgcilijfkaa.addE X s k n := by
  have h1 := h.look hX (s, k)
  have h2 := h.sum hX s
  have h3 := h.q s
  have h4 := hX.u s
  have h5 : (mayQ s Qs < n ∨ mayQ s Qs - n < sumT s Ls) ↔ (n < 0 ∧ mayQ s Qs - n < sumT s Ls) ∨ (X.acc s).quota - (X.acc s).used < n := by omega
  rw [Proofs.Ytncmcgcilijfkaa.addE, h1]
  by_cases hn : n < 0
  · rw [if_pos hn, if_pos hn]
  · rw [if_neg hn, if_neg hn]
    congr 1
    by_cases hf : (X.acc s).quota - (X.acc s).used < n
    · rw [if_pos hf, if_pos (h5.2 (.inr hf))]
    · rw [if_neg hf, if_neg (fun h => by rcases h5.1 h with h | h; exact hn h.1; exact hf h)]
theorem MRel.add (h : MRel X Ls Qs) (hX : X.Inv) (s : List UInt8) (k : Id32) (n : Int) : MRel (addX X s k n) (if AddC n s k Ls Qs then Ls ++ [((s, k), n)] else Ls) Qs := by
  by_cases hb : addB X s k n = true
  · rw [if_pos ((h.addC hX s k n).2 hb), addX_T hb]
    refine ⟨List.perm_append_comm.trans (List.Perm.cons _ h.p), fun t => ?_, h.qn⟩
    rw [acc_put]
    by_cases e : t = s
    · rw [if_pos e, e]; exact h.q s
    · rw [if_neg e]; exact h.q t
  · rw [if_neg (fun hc => hb ((h.addC hX s k n).1 hc)), addX_F (by simpa using hb)]
    exact h
theorem MRel.drop (h : MRel X Ls Qs) (hX : X.Inv) (s : List UInt8) (k : Id32) : MRel (dropX X s k) (if (Proofs.Ytncmcgcilijfkaa.look Ls (s, k)).isSome then dropG (s, k) Ls else Ls) Qs := by
  have h1 := h.look hX (s, k)
  cases hb : (Proofs.Ytncmcgcilijfkaa.look X.G (s, k)).isSome with
  | false =>
    rw [h1, hb, if_neg (by decide), dropX_F hb]; exact h
  | true =>
    rw [h1, hb, if_pos rfl, dropX_T hb]
    obtain ⟨v, hv⟩ := Option.isSome_iff_exists.1 hb
    refine ⟨?_, fun t => ?_, h.qn⟩
    · have p1 := drop_perm (h1.trans hv)
      have p2 := drop_perm hv
      exact (List.perm_cons _).1 ((p1.symm.trans h.p).trans p2)
    · rw [acc_put]
      by_cases e : t = s
      · rw [if_pos e, e]; exact h.q s
      · rw [if_neg e]; exact h.q t
theorem mayQ_pos (s : List UInt8) : ∀ {Q : List (List UInt8 × Int)}, (Q.map (·.1)).Nodup → ((∃ q ∈ Q, q.1 = s ∧ 0 < q.2) ↔ 0 < mayQ s Q)
  | [], _ => by simp [mayQ]
  | p :: Q, h => by
    rw [List.map_cons, List.nodup_cons] at h
    rw [mayQ]
    by_cases e : p.1 = s
    · rw [if_pos e]
      constructor
      · rintro ⟨q, hq, h1, h2⟩
        rcases List.mem_cons.1 hq with rfl | hq
        · exact h2
        · exact absurd (List.mem_map.2 ⟨q, hq, h1.trans e.symm⟩) h.1
      · intro hp; exact ⟨p, List.mem_cons_self .., e, hp⟩
    · rw [if_neg e, ← mayQ_pos s h.2]
      constructor
      · rintro ⟨q, hq, h1, h2⟩
        rcases List.mem_cons.1 hq with rfl | hq
        · exact absurd h1 e
        · exact ⟨q, hq, h1, h2⟩
      · rintro ⟨q, hq, h1⟩; exact ⟨q, List.mem_cons_of_mem _ hq, h1⟩
theorem cnt_pos (s : List UInt8) : ∀ (G : List (MKey × Int)), 0 < cntT s G ↔ ∃ p ∈ G, p.1.1 = s
  | [] => by simp [cntT]
  | p :: G => by
    have h0 := (cnt_bd s G).1
    rw [cntT]
    by_cases e : p.1.1 = s
    · rw [if_pos e]
      exact ⟨fun _ => ⟨p, List.mem_cons_self .., e⟩, fun _ => by omega⟩
    · rw [if_neg e, Int.zero_add, cnt_pos s G]
      constructor
      · rintro ⟨q, hq, h⟩; exact ⟨q, List.mem_cons_of_mem _ hq, h⟩
      · rintro ⟨q, hq, h⟩
        rcases List.mem_cons.1 hq with rfl | hq
        · exact absurd h e
        · exact ⟨q, hq, h⟩
theorem MRel.ten (h : MRel X Ls Qs) (hX : X.Inv) {R : List (List UInt8)} (hR : TenP X.A R) : R = tenQ (tenL Ls) Qs := by
  obtain ⟨vis, hn, hv, rfl⟩ := hR
  obtain ⟨a1, a2⟩ := sortedS_rising (hn.filter (tenB X.A))
  obtain ⟨b1, b2⟩ := tenL_spec Ls
  obtain ⟨c1, c2⟩ := tenQ_spec (tenL Ls) b1 Qs
  refine rising_eq a1 c1 fun x => ?_
  rw [a2 x, c2 x, b2 x, mayQ_pos x h.qn, List.mem_filter, ← hv x, ← h.q x]
  have ht := hX.th x
  have hc := cnt_pos x X.G
  have hp : (∃ p ∈ Ls, p.1.1 = x) ↔ ∃ p ∈ X.G, p.1.1 = x := ⟨fun ⟨p, hp, e⟩ => ⟨p, h.p.mem_iff.1 hp, e⟩, fun ⟨p, hp, e⟩ => ⟨p, h.p.mem_iff.2 hp, e⟩⟩
  rw [hp, ← hc, ← ht]
  simp only [tenB, Bool.or_eq_true, decide_eq_true_eq]
  constructor
  · rintro ⟨_, h1 | h1⟩
    · exact .inr h1
    · exact .inl h1
  · intro h1
    refine ⟨?_, ?_⟩
    · cases hA : X.A x with
      | some a => rfl
      | none =>
        have : X.acc x = acc0 := by rw [MM.acc, hA]; rfl
        rw [this] at h1
        rcases h1 with h1 | h1 <;> cases h1
    · rcases h1 with h1 | h1
      · exact .inr h1
      · exact .inl h1
end
theorem ma_len {z z' : MW} (hz : z.ok) (hz' : z'.ok) (s : List UInt8) (h : ∀ k, (z'.X.A k).isSome = true → k = s ∨ (z.X.A k).isSome = true) : z'.Ma.length ≤ z.Ma.length + 1 := by
  have := nd_le (l := z'.Ma.map (·.1)) (m := s :: z.Ma.map (·.1)) hz'.oa.keys (fun k hk => by
    have h1 : (mget z'.Ma k).isSome = true := by
      obtain ⟨x, hx, e⟩ := List.mem_map.1 hk
      have := (mget_of hz'.oa.keys hx).1
      rw [e] at this
      rw [this]; rfl
    rw [hz'.fa.isSome] at h1
    rcases h k h1 with e | h2
    · rw [e]; exact List.mem_cons_self ..
    · rw [← hz.fa.isSome] at h2
      obtain ⟨v, hv⟩ := Option.isSome_iff_exists.1 h2
      obtain ⟨y, hy, e, _⟩ := mget_mem hv
      exact List.mem_cons_of_mem _ (List.mem_map.2 ⟨y, hy, e⟩))
  rw [List.length_map, List.length_cons, List.length_map] at this
  exact this
theorem fput_keys (A : List UInt8 → Option Acc) (s : List UInt8) (a : Acc) (k : List UInt8) (h : (fput A s a k).isSome = true) : k = s ∨ (A k).isSome = true := by
  rw [fput] at h
  by_cases e : k = s
  · exact .inl e
  · rw [if_neg e] at h; exact .inr h
theorem quotaX_keys (X : MM) (s : List UInt8) (n : Int) (k : List UInt8) (h : ((quotaX X s n).A k).isSome = true) : k = s ∨ (X.A k).isSome = true := fput_keys _ _ _ k h
theorem addX_keys (X : MM) (s : List UInt8) (o : Id32) (n : Int) (k : List UInt8) (h : ((addX X s o n).A k).isSome = true) : k = s ∨ (X.A k).isSome = true := by
  rw [addX] at h
  split at h
  · exact fput_keys _ _ _ k h
  · exact .inr h
theorem dropX_keys (X : MM) (s : List UInt8) (o : Id32) (k : List UInt8) (h : ((dropX X s o).A k).isSome = true) : k = s ∨ (X.A k).isSome = true := by
  rw [dropX] at h
  split at h
  · exact fput_keys _ _ _ k h
  · exact .inr h
def dch (mb mb1 mb2 rb : Nat) (z : MW) (y : RW) : List Ch := [.blk mb [Value.map (some mb1), Value.map (some mb2)] 54, .obj mb1 (mobj kT z.Mh z.c1), .obj mb2 (mobj kS z.Ma z.c2)] ++ rch rb y
/-- the texts handed back, written over one after the other. -/
theorem over_get (R : List (List UInt8)) (k : Nat) (e : List UInt8) (h : (List.replicate k [63] ++ R.drop k)[k]? = some e) : R[k]? = some e := by
  rw [List.getElem?_append_right (by simp), List.length_replicate, Nat.sub_self, List.getElem?_drop, Nat.add_zero] at h
  exact h
theorem over_set (R : List (List UInt8)) (k : Nat) (hk : k < R.length) : (List.replicate k [63] ++ R.drop k).set k [63] = List.replicate (k + 1) [63] ++ R.drop (k + 1) := by
  rw [List.set_append_right _ _ (by simp), List.length_replicate, Nat.sub_self, List.drop_eq_getElem_cons hk, List.set_cons_zero, List.replicate_succ', List.append_assoc]
  rfl
end Go.Proofs.Ytncmcgcilijfkaa
