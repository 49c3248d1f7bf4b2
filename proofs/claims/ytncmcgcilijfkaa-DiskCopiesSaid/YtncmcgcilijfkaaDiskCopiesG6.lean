/- Lemmas for the statement DiskCopies, part 6: rules of operations, walks through functions, plain laws. -/
import Derived.Test.YtncmcgcilijfkaaDiskCopiesG5
namespace Go.Proofs.Ytncmcgcilijfkaa
open Go
set_option maxRecDepth 100000
set_option maxHeartbeats 4000000 in
theorem diskCopies_ret (w0 : World) (ga gb : Gl OpD) (hga : ga.ok opDE 5 w0) (hopa : ∀ c ∈ ga.l, c.ok w0) (hgb : gb.ok opDE 5 w0) (hopb : ∀ c ∈ gb.l, c.ok w0) :
    Ret Try.prog 11 [ga.v, gb.v] w0 fun v w' => v = .bool true ∧ Hp w0 w' [] [] := by
  refine ret_mk Try.func11 rfl Try.ntmps11 (by simp) ?_
  have H := Hp.refl w0 []
  have hgl := hga.ln
  have hge := hga.le
  have hgx := hga.mx
  have hgl2 := hgb.ln
  have hge2 := hgb.le
  have hgx2 := hgb.mx
  have hmL : maxLen = 9223372036854775807 := rfl
  repeat refine c_seq ?_
  refine c_region ?_
  refine l_op (o_val (r_as) ?_)
  first | refine l_end ?_ | refine l_nil ?_
  repeat refine c_seq ?_
  refine c_region ?_
  refine l_op (o_callR Try.func27 rfl rfl rfl (begun5_ret _) ?_)
  rintro _ w ⟨rfl, Hc⟩
  replace H : Hp _ w _ ([]) := H.call Hc
  clear Hc
  refine l_op (o_val (r_not rfl) ?_)
  first | refine l_end ?_ | refine l_nil ?_
  repeat refine c_seq ?_
  refine c_no rfl ?_
  refine c_skip ?_
  repeat refine c_seq ?_
  refine c_region ?_
  refine l_op (o_val (r_mv) ?_)
  refine l_op (o_val (r_lens el65 rfl) ?_)
  refine l_op (o_val (r_bin (a := (ga.len : Int)) (b := 40) rfl rfl (fun _ => b_gtr)) ?_)
  refine l_op (o_val (r_mv) ?_)
  by_cases hc1 : 40 < (ga.len : Int)
  ·
   refine l_no rfl rfl (by exact congrArg Value.bool (decide_eq_true hc1)) rfl ?_
   refine l_no rfl rfl (by exact congrArg Value.bool (decide_eq_true hc1)) rfl ?_
   refine l_no rfl rfl (by exact congrArg Value.bool (decide_eq_true hc1)) rfl ?_
   refine l_op (o_val (r_pick (b := true) (congrArg Value.bool (decide_eq_true hc1))) ?_)
   first | refine l_end ?_ | refine l_nil ?_
   repeat refine c_seq ?_
   refine c_yes rfl ?_
   repeat refine c_seq ?_
   refine c_region ?_
   refine l_op (o_val (r_as) ?_)
   first | refine l_end ?_ | refine l_nil ?_
   refine c_ret ?_
   try dsimp only [Exit.then, Exit.inBlock]
   refine e_ret1 (v := .bool true) Try.results11 rfl ?_
   refine ⟨_, rfl, ?_⟩
   exact ⟨rfl, H.sub (List.nil_sublist _)⟩
  ·
   refine l_yes rfl rfl (by exact congrArg Value.bool (decide_eq_false hc1)) (o_val (r_mv) ?_)
   refine l_yes rfl rfl (by exact congrArg Value.bool (decide_eq_false hc1)) (o_val (r_lens el65 rfl) ?_)
   refine l_yes rfl rfl (by exact congrArg Value.bool (decide_eq_false hc1)) (o_val (r_bin (a := (gb.len : Int)) (b := 40) rfl rfl (fun _ => b_gtr)) ?_)
   refine l_op (o_val (r_pick (b := false) (congrArg Value.bool (decide_eq_false hc1))) ?_)
   first | refine l_end ?_ | refine l_nil ?_
   by_cases hc2 : 40 < (gb.len : Int)
   ·
    repeat refine c_seq ?_
    refine c_yes (by exact congrArg Value.bool (decide_eq_true hc2)) ?_
    repeat refine c_seq ?_
    refine c_region ?_
    refine l_op (o_val (r_as) ?_)
    first | refine l_end ?_ | refine l_nil ?_
    refine c_ret ?_
    try dsimp only [Exit.then, Exit.inBlock]
    refine e_ret1 (v := .bool true) Try.results11 rfl ?_
    refine ⟨_, rfl, ?_⟩
    exact ⟨rfl, H.sub (List.nil_sublist _)⟩
   ·
    repeat refine c_seq ?_
    refine c_no (by exact congrArg Value.bool (decide_eq_false hc2)) ?_
    refine c_skip ?_
    repeat refine c_seq ?_
    refine c_region ?_
    refine l_op (o_callR Try.func28 rfl rfl rfl (dnewI_ret _ 32 (by omega)) ?_)
    rintro _ w ⟨db3, z4, rfl, hza5, hzo6, hzt7, Hc⟩
    replace H : Hp _ w _ (Ch.blk db3 ([.slice (hd (some z4.a1)) z4.ls.length z4.c1, .map (some z4.mb), .bool z4.off, VI z4.armed, VI z4.part, VI z4.way, .slice (hd z4.fa) z4.fl.length z4.fc, VI z4.writes, VI z4.lives]) 86 :: Ch.own (some z4.a1) z4.ls.length z4.c1 ((z4.ls).flatMap slE) 57 1 :: Ch.obj z4.mb (mobj kI z4.M z4.mc) :: Ch.own z4.fa z4.fl.length z4.fc ((z4.fl).map V8) 5 1 :: z4.T) := H.call Hc
    clear Hc
    refine l_op (o_callR Try.func38 rfl rfl rfl (rnewI_ret _ 32 (by omega)) ?_)
    rintro _ w ⟨rb8, y9, rfl, hyd10, hyo11, Hc⟩
    replace H : Hp _ w _ (Ch.blk rb8 ([.slice (hd y9.a1) y9.D.last.length y9.c1, .slice (hd y9.a2) y9.D.last.length y9.c2, .bool y9.D.off, VI y9.D.armed, VI y9.D.part, VI y9.D.way, .string ⟨(y9.cm).toArray⟩, VI y9.D.writes, VI y9.D.lives]) 106 :: Ch.own y9.a1 y9.D.last.length y9.c1 ((y9.D.last).flatMap strD) 9 1 :: Ch.own y9.a2 y9.D.last.length y9.c2 ((rwf y9.D 0).flatMap strD) 9 1 :: Ch.blk db3 ([.slice (hd (some z4.a1)) z4.ls.length z4.c1, .map (some z4.mb), .bool z4.off, VI z4.armed, VI z4.part, VI z4.way, .slice (hd z4.fa) z4.fl.length z4.fc, VI z4.writes, VI z4.lives]) 86 :: Ch.own (some z4.a1) z4.ls.length z4.c1 ((z4.ls).flatMap slE) 57 1 :: Ch.obj z4.mb (mobj kI z4.M z4.mc) :: Ch.own z4.fa z4.fl.length z4.fc ((z4.fl).map V8) 5 1 :: z4.T) := H.callFront Hc
    clear Hc
    refine l_op (o_val (r_as) ?_)
    refine l_op (o_val (r_as) ?_)
    first | refine l_end ?_ | refine l_nil ?_
    have hw0 := dNew_writes hza5
    have hv0 : z4.lives = 0 := congrArg DD.lives hza5
    have hr0 : y9.D = z4.abs := by rw [hyd10, hza5]
    repeat refine c_seq ?_
    refine c_region ?_
    refine l_op (o_val (r_as) ?_)
    first | refine l_end ?_ | refine l_nil ?_
    repeat refine c_seq ?_
    refine c_block ?_
    repeat refine c_seq ?_
    refine c_loop (fun (i : Nat) => [(0, ga.v), (1, gb.v), (5, .pointer (some ⟨db3, 0, none⟩)), (6, .pointer (some ⟨rb8, 0, none⟩)), (7, VI (i : Int))])
      (fun (i : Nat) w => (i ≤ ga.len + gb.len ∧ (∀ (j : Nat) (x : OpD), j < i → ga.l[j]? = some x → x.b.len ≤ 600) ∧ (∀ (j : Nat) (x : OpD), j + ga.len < i → gb.l[j]? = some x → x.b.len ≤ 600)) ∧ Hp w0 w [] (Ch.blk rb8 ([.slice (hd y9.a1) y9.D.last.length y9.c1, .slice (hd y9.a2) y9.D.last.length y9.c2, .bool y9.D.off, VI y9.D.armed, VI y9.D.part, VI y9.D.way, .string ⟨(y9.cm).toArray⟩, VI y9.D.writes, VI y9.D.lives]) 106 :: Ch.own y9.a1 y9.D.last.length y9.c1 ((y9.D.last).flatMap strD) 9 1 :: Ch.own y9.a2 y9.D.last.length y9.c2 ((rwf y9.D 0).flatMap strD) 9 1 :: Ch.blk db3 ([.slice (hd (some z4.a1)) z4.ls.length z4.c1, .map (some z4.mb), .bool z4.off, VI z4.armed, VI z4.part, VI z4.way, .slice (hd z4.fa) z4.fl.length z4.fc, VI z4.writes, VI z4.lives]) 86 :: Ch.own (some z4.a1) z4.ls.length z4.c1 ((z4.ls).flatMap slE) 57 1 :: Ch.obj z4.mb (mobj kI z4.M z4.mc) :: Ch.own z4.fa z4.fl.length z4.fc ((z4.fl).map V8) 5 1 :: z4.T))
      (fun (i : Nat) => ga.len + gb.len - i) 0 ⟨rfl, rfl, rfl, rfl, rfl, trivial⟩ ⟨⟨Nat.zero_le _, fun j x hj => absurd hj (by omega), fun j x hj => absurd hj (by omega)⟩, H⟩ ?_
    clear H
    rintro i τ w ⟨⟨hi, h1, h2⟩, H⟩
    repeat refine c_seq ?_
    refine c_region ?_
    refine l_op (o_val (r_mv) ?_)
    refine l_op (o_val (r_mv) ?_)
    refine l_op (o_val (r_lens el65 rfl) ?_)
    refine l_op (o_val (r_mv) ?_)
    refine l_op (o_val (r_lens el65 rfl) ?_)
    refine l_op (o_val (r_bin (a := (ga.len : Int)) (b := (gb.len : Int)) rfl rfl (fun _ => b_add (by omega) (by omega))) ?_)
    refine l_op (o_val (r_bin (a := (i : Int)) (b := (ga.len : Int) + (gb.len : Int)) rfl rfl (fun _ => b_lss)) ?_)
    first | refine l_end ?_ | refine l_nil ?_
    by_cases hc12 : (i : Int) < (ga.len : Int) + (gb.len : Int)
    ·
     repeat refine c_seq ?_
     refine c_yes (by exact congrArg Value.bool (decide_eq_true hc12)) ?_
     refine c_skip ?_
     repeat refine c_seq ?_
     refine c_block ?_
     repeat refine c_seq ?_
     refine c_region ?_
     refine l_op (o_val (r_bldG (Z := ([VI 0, VI 0, VI 0, .slice none 0 0, .slice none 0 0] : List Value)) (E := ([VI 0, VI 0, VI 0, .slice none 0 0, .slice none 0 0] : List Value)) (pv := []) bd70 rfl rfl (.nil _)) ?_)
     refine l_op (o_alloc H zc70 (fun b13 w H hb13 => ?_))
     replace H := H.rot
     replace H : Hp _ w _ (Ch.blk b13 (([VI 0, VI 0, VI 0, .slice none 0 0, .slice none 0 0] : List Value)) 70 :: Ch.blk rb8 ([.slice (hd y9.a1) y9.D.last.length y9.c1, .slice (hd y9.a2) y9.D.last.length y9.c2, .bool y9.D.off, VI y9.D.armed, VI y9.D.part, VI y9.D.way, .string ⟨(y9.cm).toArray⟩, VI y9.D.writes, VI y9.D.lives]) 106 :: Ch.own y9.a1 y9.D.last.length y9.c1 ((y9.D.last).flatMap strD) 9 1 :: Ch.own y9.a2 y9.D.last.length y9.c2 ((rwf y9.D 0).flatMap strD) 9 1 :: Ch.blk db3 ([.slice (hd (some z4.a1)) z4.ls.length z4.c1, .map (some z4.mb), .bool z4.off, VI z4.armed, VI z4.part, VI z4.way, .slice (hd z4.fa) z4.fl.length z4.fc, VI z4.writes, VI z4.lives]) 86 :: Ch.own (some z4.a1) z4.ls.length z4.c1 ((z4.ls).flatMap slE) 57 1 :: Ch.obj z4.mb (mobj kI z4.M z4.mc) :: Ch.own z4.fa z4.fl.length z4.fc ((z4.fl).map V8) 5 1 :: z4.T) := H
     refine l_op (o_stW (C' := ([VI 0, VI 0, VI 0, .slice none 0 0, .slice none 0 0] : List Value)) H (i := 0) rfl rfl rfl cs70 (by simp [Value.oneCell']) (by rfl) (by rfl) (fun w H => ?_))
     replace H : Hp _ w _ (Ch.blk b13 (([VI 0, VI 0, VI 0, .slice none 0 0, .slice none 0 0] : List Value)) 70 :: Ch.blk rb8 ([.slice (hd y9.a1) y9.D.last.length y9.c1, .slice (hd y9.a2) y9.D.last.length y9.c2, .bool y9.D.off, VI y9.D.armed, VI y9.D.part, VI y9.D.way, .string ⟨(y9.cm).toArray⟩, VI y9.D.writes, VI y9.D.lives]) 106 :: Ch.own y9.a1 y9.D.last.length y9.c1 ((y9.D.last).flatMap strD) 9 1 :: Ch.own y9.a2 y9.D.last.length y9.c2 ((rwf y9.D 0).flatMap strD) 9 1 :: Ch.blk db3 ([.slice (hd (some z4.a1)) z4.ls.length z4.c1, .map (some z4.mb), .bool z4.off, VI z4.armed, VI z4.part, VI z4.way, .slice (hd z4.fa) z4.fl.length z4.fc, VI z4.writes, VI z4.lives]) 86 :: Ch.own (some z4.a1) z4.ls.length z4.c1 ((z4.ls).flatMap slE) 57 1 :: Ch.obj z4.mb (mobj kI z4.M z4.mc) :: Ch.own z4.fa z4.fl.length z4.fc ((z4.fl).map V8) 5 1 :: z4.T) := H
     first | refine l_end ?_ | refine l_nil ?_
     repeat refine c_seq ?_
     refine c_region ?_
     refine l_op (o_val (r_mv) ?_)
     refine l_op (o_val (r_mv) ?_)
     refine l_op (o_val (r_lens el65 rfl) ?_)
     refine l_op (o_val (r_bin (a := (i : Int)) (b := (ga.len : Int)) rfl rfl (fun _ => b_lss)) ?_)
     first | refine l_end ?_ | refine l_nil ?_
     by_cases hc14 : (i : Int) < (ga.len : Int)
     ·
      repeat refine c_seq ?_
      refine c_yes (by exact congrArg Value.bool (decide_eq_true hc14)) ?_
      repeat refine c_seq ?_
      refine c_region ?_
      refine l_op (o_val (r_mv) ?_)
      refine l_op (o_val (r_mv) ?_)
      have ah17 := ((hga.up H)).addr (by decide) (by first | omega | (dsimp only; omega))
      obtain ⟨ab15, ao16, ah17⟩ := ah17
      refine l_op (o_val (r_isN i rfl rfl el65 ah17 (by omega) (by (try simp only [Sl.cut]); omega)) ?_)
      have he19 : ∃ c, ga.l[i]? = some c := ⟨_, List.getElem?_eq_getElem (by have := ((hga.up H)).ln; (try dsimp only at this ⊢); omega)⟩
      obtain ⟨e18, he19⟩ := he19
      have hez20 := ((hga.up H)).sz e18 (List.mem_of_getElem? he19)
      have hop_e18 := hopa _ (List.mem_of_getElem? he19)
      have hobn_e18 := hop_e18.2.2.2.1.ln
      have hobe_e18 := hop_e18.2.2.2.1.le
      have hobx_e18 := hop_e18.2.2.2.1.mx
      have hokn_e18 := hop_e18.2.2.2.2.ln
      have hopi_e18 := hop_e18.2.1
      refine l_op (o_val (r_ldRow (s := ga) (k := i) (hga.up H) ah17 rfl rt70 (by decide) he19) ?_)
      refine l_op (o_stW (C' := ([VI e18.kind, VI e18.i, VI e18.part, e18.b.v, e18.ks.v] : List Value)) H (i := 0) rfl rfl rfl cs70 (by simp [Value.oneCell', Sl.v, Gl.v]) (by rfl) (by rfl) (fun w H => ?_))
      replace H : Hp _ w _ (Ch.blk b13 (([VI e18.kind, VI e18.i, VI e18.part, e18.b.v, e18.ks.v] : List Value)) 70 :: Ch.blk rb8 ([.slice (hd y9.a1) y9.D.last.length y9.c1, .slice (hd y9.a2) y9.D.last.length y9.c2, .bool y9.D.off, VI y9.D.armed, VI y9.D.part, VI y9.D.way, .string ⟨(y9.cm).toArray⟩, VI y9.D.writes, VI y9.D.lives]) 106 :: Ch.own y9.a1 y9.D.last.length y9.c1 ((y9.D.last).flatMap strD) 9 1 :: Ch.own y9.a2 y9.D.last.length y9.c2 ((rwf y9.D 0).flatMap strD) 9 1 :: Ch.blk db3 ([.slice (hd (some z4.a1)) z4.ls.length z4.c1, .map (some z4.mb), .bool z4.off, VI z4.armed, VI z4.part, VI z4.way, .slice (hd z4.fa) z4.fl.length z4.fc, VI z4.writes, VI z4.lives]) 86 :: Ch.own (some z4.a1) z4.ls.length z4.c1 ((z4.ls).flatMap slE) 57 1 :: Ch.obj z4.mb (mobj kI z4.M z4.mc) :: Ch.own z4.fa z4.fl.length z4.fc ((z4.fl).map V8) 5 1 :: z4.T) := H
      first | refine l_end ?_ | refine l_nil ?_
      repeat refine c_seq ?_
      refine c_region ?_
      refine l_op (o_val (r_fa rfl fo70_3) ?_)
      refine l_op (o_val (r_l1 (v := e18.b.v) H (i := 0) rfl rfl ct57 (show Cut3 (([VI e18.kind, VI e18.i, VI e18.part, e18.b.v, e18.ks.v] : List Value)) (([VI e18.kind, VI e18.i, VI e18.part] : List Value)) (([e18.b.v] : List Value)) (([e18.ks.v] : List Value)) 3 1 from ⟨(show ([VI e18.kind, VI e18.i, VI e18.part, e18.b.v, e18.ks.v] : List Value) = ([VI e18.kind, VI e18.i, VI e18.part] : List Value) ++ ((([e18.b.v] : List Value)) ++ (([e18.ks.v] : List Value))) from by simp only [List.cons_append, List.nil_append]), (by rfl), (by rfl)⟩)) ?_)
      refine l_op (o_val (r_lens el57 rfl) ?_)
      refine l_op (o_val (r_bin (a := (e18.b.len : Int)) (b := 600) rfl rfl (fun _ => b_gtr)) ?_)
      refine l_op (o_val (r_mv) ?_)
      by_cases hc21 : 600 < (e18.b.len : Int)
      ·
       refine l_no rfl rfl (by exact congrArg Value.bool (decide_eq_true hc21)) rfl ?_
       refine l_no rfl rfl (by exact congrArg Value.bool (decide_eq_true hc21)) rfl ?_
       refine l_no rfl rfl (by exact congrArg Value.bool (decide_eq_true hc21)) rfl ?_
       refine l_no rfl rfl (by exact congrArg Value.bool (decide_eq_true hc21)) rfl ?_
       refine l_op (o_val (r_pick (b := true) (congrArg Value.bool (decide_eq_true hc21))) ?_)
       first | refine l_end ?_ | refine l_nil ?_
       repeat refine c_seq ?_
       refine c_yes rfl ?_
       repeat refine c_seq ?_
       refine c_region ?_
       refine l_op (o_val (r_as) ?_)
       first | refine l_end ?_ | refine l_nil ?_
       refine c_ret ?_
       try dsimp only [Exit.then, Exit.inBlock]
       refine e_ret1 (v := .bool true) Try.results11 rfl ?_
       refine ⟨_, rfl, ?_⟩
       exact ⟨rfl, H.sub (List.nil_sublist _)⟩
      ·
       refine l_yes rfl rfl (by exact congrArg Value.bool (decide_eq_false hc21)) (o_val (r_fa rfl fo70_4) ?_)
       refine l_yes rfl rfl (by exact congrArg Value.bool (decide_eq_false hc21)) (o_val (r_l1 (v := e18.ks.v) H (i := 0) rfl rfl ct68 (show Cut3 (([VI e18.kind, VI e18.i, VI e18.part, e18.b.v, e18.ks.v] : List Value)) (([VI e18.kind, VI e18.i, VI e18.part, e18.b.v] : List Value)) (([e18.ks.v] : List Value)) (([] : List Value)) 4 1 from ⟨(show ([VI e18.kind, VI e18.i, VI e18.part, e18.b.v, e18.ks.v] : List Value) = ([VI e18.kind, VI e18.i, VI e18.part, e18.b.v] : List Value) ++ ((([e18.ks.v] : List Value)) ++ (([] : List Value))) from by simp only [List.cons_append, List.nil_append]), (by rfl), (by rfl)⟩)) ?_)
       refine l_yes rfl rfl (by exact congrArg Value.bool (decide_eq_false hc21)) (o_val (r_lens el68 rfl) ?_)
       refine l_yes rfl rfl (by exact congrArg Value.bool (decide_eq_false hc21)) (o_val (r_bin (a := (e18.ks.len : Int)) (b := 100) rfl rfl (fun _ => b_gtr)) ?_)
       refine l_op (o_val (r_pick (b := false) (congrArg Value.bool (decide_eq_false hc21))) ?_)
       first | refine l_end ?_ | refine l_nil ?_
       by_cases hc22 : 100 < (e18.ks.len : Int)
       ·
        repeat refine c_seq ?_
        refine c_yes (by exact congrArg Value.bool (decide_eq_true hc22)) ?_
        repeat refine c_seq ?_
        refine c_region ?_
        refine l_op (o_val (r_as) ?_)
        first | refine l_end ?_ | refine l_nil ?_
        refine c_ret ?_
        try dsimp only [Exit.then, Exit.inBlock]
        refine e_ret1 (v := .bool true) Try.results11 rfl ?_
        refine ⟨_, rfl, ?_⟩
        exact ⟨rfl, H.sub (List.nil_sublist _)⟩
       ·
        repeat refine c_seq ?_
        refine c_no (by exact congrArg Value.bool (decide_eq_false hc22)) ?_
        refine c_skip ?_
        repeat refine c_seq ?_
        refine c_region ?_
        refine l_op (o_val (r_mv) ?_)
        refine l_op (o_val (r_bin (a := (i : Int)) (b := 1) rfl rfl (fun _ => b_add (by omega) (by omega))) ?_)
        refine l_op (o_val (r_as) ?_)
        first | refine l_end ?_ | refine l_nil ?_
        refine round_end (i + 1) ?_ ?_ ?_
        · exact ⟨rfl, rfl, rfl, rfl, show VI ((i : Int) + 1) = VI ((i + 1 : Nat) : Int) from congrArg VI (by omega), trivial⟩
        · refine ⟨?_, ?_⟩
          · try dsimp only
            exact ⟨by omega, fun j x hj hx => by
              by_cases hji : j < i
              · exact h1 j x hji hx
              · have e : j = i := by omega
                rw [e, he19] at hx
                cases hx
                omega, fun j x hj hx => h2 j x (by omega) hx⟩
          · exact H.sub (.cons _ (.cons_cons _ (.cons_cons _ (.cons_cons _ (.cons_cons _ (.cons_cons _ (.cons_cons _ (.cons_cons _ (List.Sublist.refl _)))))))))
        · show ga.len + gb.len - (i + 1 : Nat) < ga.len + gb.len - i; omega
     ·
      repeat refine c_seq ?_
      refine c_no (by exact congrArg Value.bool (decide_eq_false hc14)) ?_
      repeat refine c_seq ?_
      refine c_region ?_
      refine l_op (o_val (r_mv) ?_)
      refine l_op (o_val (r_mv) ?_)
      refine l_op (o_val (r_mv) ?_)
      refine l_op (o_val (r_lens el65 rfl) ?_)
      refine l_op (o_val (r_bin (a := (i : Int)) (b := (ga.len : Int)) rfl rfl (fun _ => b_sub (by omega) (by omega))) ?_)
      have ah25 := ((hgb.up H)).addr (by decide) (by first | omega | (dsimp only; omega))
      obtain ⟨ab23, ao24, ah25⟩ := ah25
      refine l_op (o_val (r_isN (((i : Int) - (ga.len : Int)).toNat) rfl rfl el65 ah25 (by omega) (by (try simp only [Sl.cut]); omega)) ?_)
      have he27 : ∃ c, gb.l[((i : Int) - (ga.len : Int)).toNat]? = some c := ⟨_, List.getElem?_eq_getElem (by have := ((hgb.up H)).ln; (try dsimp only at this ⊢); omega)⟩
      obtain ⟨e26, he27⟩ := he27
      have hez28 := ((hgb.up H)).sz e26 (List.mem_of_getElem? he27)
      have hop_e26 := hopb _ (List.mem_of_getElem? he27)
      have hobn_e26 := hop_e26.2.2.2.1.ln
      have hobe_e26 := hop_e26.2.2.2.1.le
      have hobx_e26 := hop_e26.2.2.2.1.mx
      have hokn_e26 := hop_e26.2.2.2.2.ln
      have hopi_e26 := hop_e26.2.1
      refine l_op (o_val (r_ldRow (s := gb) (k := ((i : Int) - (ga.len : Int)).toNat) (hgb.up H) ah25 rfl rt70 (by decide) he27) ?_)
      refine l_op (o_stW (C' := ([VI e26.kind, VI e26.i, VI e26.part, e26.b.v, e26.ks.v] : List Value)) H (i := 0) rfl rfl rfl cs70 (by simp [Value.oneCell', Sl.v, Gl.v]) (by rfl) (by rfl) (fun w H => ?_))
      replace H : Hp _ w _ (Ch.blk b13 (([VI e26.kind, VI e26.i, VI e26.part, e26.b.v, e26.ks.v] : List Value)) 70 :: Ch.blk rb8 ([.slice (hd y9.a1) y9.D.last.length y9.c1, .slice (hd y9.a2) y9.D.last.length y9.c2, .bool y9.D.off, VI y9.D.armed, VI y9.D.part, VI y9.D.way, .string ⟨(y9.cm).toArray⟩, VI y9.D.writes, VI y9.D.lives]) 106 :: Ch.own y9.a1 y9.D.last.length y9.c1 ((y9.D.last).flatMap strD) 9 1 :: Ch.own y9.a2 y9.D.last.length y9.c2 ((rwf y9.D 0).flatMap strD) 9 1 :: Ch.blk db3 ([.slice (hd (some z4.a1)) z4.ls.length z4.c1, .map (some z4.mb), .bool z4.off, VI z4.armed, VI z4.part, VI z4.way, .slice (hd z4.fa) z4.fl.length z4.fc, VI z4.writes, VI z4.lives]) 86 :: Ch.own (some z4.a1) z4.ls.length z4.c1 ((z4.ls).flatMap slE) 57 1 :: Ch.obj z4.mb (mobj kI z4.M z4.mc) :: Ch.own z4.fa z4.fl.length z4.fc ((z4.fl).map V8) 5 1 :: z4.T) := H
      first | refine l_end ?_ | refine l_nil ?_
      repeat refine c_seq ?_
      refine c_region ?_
      refine l_op (o_val (r_fa rfl fo70_3) ?_)
      refine l_op (o_val (r_l1 (v := e26.b.v) H (i := 0) rfl rfl ct57 (show Cut3 (([VI e26.kind, VI e26.i, VI e26.part, e26.b.v, e26.ks.v] : List Value)) (([VI e26.kind, VI e26.i, VI e26.part] : List Value)) (([e26.b.v] : List Value)) (([e26.ks.v] : List Value)) 3 1 from ⟨(show ([VI e26.kind, VI e26.i, VI e26.part, e26.b.v, e26.ks.v] : List Value) = ([VI e26.kind, VI e26.i, VI e26.part] : List Value) ++ ((([e26.b.v] : List Value)) ++ (([e26.ks.v] : List Value))) from by simp only [List.cons_append, List.nil_append]), (by rfl), (by rfl)⟩)) ?_)
      refine l_op (o_val (r_lens el57 rfl) ?_)
      refine l_op (o_val (r_bin (a := (e26.b.len : Int)) (b := 600) rfl rfl (fun _ => b_gtr)) ?_)
      refine l_op (o_val (r_mv) ?_)
      by_cases hc29 : 600 < (e26.b.len : Int)
      ·
       refine l_no rfl rfl (by exact congrArg Value.bool (decide_eq_true hc29)) rfl ?_
       refine l_no rfl rfl (by exact congrArg Value.bool (decide_eq_true hc29)) rfl ?_
       refine l_no rfl rfl (by exact congrArg Value.bool (decide_eq_true hc29)) rfl ?_
       refine l_no rfl rfl (by exact congrArg Value.bool (decide_eq_true hc29)) rfl ?_
       refine l_op (o_val (r_pick (b := true) (congrArg Value.bool (decide_eq_true hc29))) ?_)
       first | refine l_end ?_ | refine l_nil ?_
       repeat refine c_seq ?_
       refine c_yes rfl ?_
       repeat refine c_seq ?_
       refine c_region ?_
       refine l_op (o_val (r_as) ?_)
       first | refine l_end ?_ | refine l_nil ?_
       refine c_ret ?_
       try dsimp only [Exit.then, Exit.inBlock]
       refine e_ret1 (v := .bool true) Try.results11 rfl ?_
       refine ⟨_, rfl, ?_⟩
       exact ⟨rfl, H.sub (List.nil_sublist _)⟩
      ·
       refine l_yes rfl rfl (by exact congrArg Value.bool (decide_eq_false hc29)) (o_val (r_fa rfl fo70_4) ?_)
       refine l_yes rfl rfl (by exact congrArg Value.bool (decide_eq_false hc29)) (o_val (r_l1 (v := e26.ks.v) H (i := 0) rfl rfl ct68 (show Cut3 (([VI e26.kind, VI e26.i, VI e26.part, e26.b.v, e26.ks.v] : List Value)) (([VI e26.kind, VI e26.i, VI e26.part, e26.b.v] : List Value)) (([e26.ks.v] : List Value)) (([] : List Value)) 4 1 from ⟨(show ([VI e26.kind, VI e26.i, VI e26.part, e26.b.v, e26.ks.v] : List Value) = ([VI e26.kind, VI e26.i, VI e26.part, e26.b.v] : List Value) ++ ((([e26.ks.v] : List Value)) ++ (([] : List Value))) from by simp only [List.cons_append, List.nil_append]), (by rfl), (by rfl)⟩)) ?_)
       refine l_yes rfl rfl (by exact congrArg Value.bool (decide_eq_false hc29)) (o_val (r_lens el68 rfl) ?_)
       refine l_yes rfl rfl (by exact congrArg Value.bool (decide_eq_false hc29)) (o_val (r_bin (a := (e26.ks.len : Int)) (b := 100) rfl rfl (fun _ => b_gtr)) ?_)
       refine l_op (o_val (r_pick (b := false) (congrArg Value.bool (decide_eq_false hc29))) ?_)
       first | refine l_end ?_ | refine l_nil ?_
       by_cases hc30 : 100 < (e26.ks.len : Int)
       ·
        repeat refine c_seq ?_
        refine c_yes (by exact congrArg Value.bool (decide_eq_true hc30)) ?_
        repeat refine c_seq ?_
        refine c_region ?_
        refine l_op (o_val (r_as) ?_)
        first | refine l_end ?_ | refine l_nil ?_
        refine c_ret ?_
        try dsimp only [Exit.then, Exit.inBlock]
        refine e_ret1 (v := .bool true) Try.results11 rfl ?_
        refine ⟨_, rfl, ?_⟩
        exact ⟨rfl, H.sub (List.nil_sublist _)⟩
       ·
        repeat refine c_seq ?_
        refine c_no (by exact congrArg Value.bool (decide_eq_false hc30)) ?_
        refine c_skip ?_
        repeat refine c_seq ?_
        refine c_region ?_
        refine l_op (o_val (r_mv) ?_)
        refine l_op (o_val (r_bin (a := (i : Int)) (b := 1) rfl rfl (fun _ => b_add (by omega) (by omega))) ?_)
        refine l_op (o_val (r_as) ?_)
        first | refine l_end ?_ | refine l_nil ?_
        refine round_end (i + 1) ?_ ?_ ?_
        · exact ⟨rfl, rfl, rfl, rfl, show VI ((i : Int) + 1) = VI ((i + 1 : Nat) : Int) from congrArg VI (by omega), trivial⟩
        · refine ⟨?_, ?_⟩
          · try dsimp only
            exact ⟨by omega, fun j x hj hx => h1 j x (by have := (List.getElem?_eq_some_iff.1 hx).1; omega) hx, fun j x hj hx => by
              by_cases hji : j + ga.len < i
              · exact h2 j x hji hx
              · have e : j = ((i : Int) - (ga.len : Int)).toNat := by omega
                rw [e, he27] at hx
                cases hx
                omega⟩
          · exact H.sub (.cons _ (.cons_cons _ (.cons_cons _ (.cons_cons _ (.cons_cons _ (.cons_cons _ (.cons_cons _ (.cons_cons _ (List.Sublist.refl _)))))))))
        · show ga.len + gb.len - (i + 1 : Nat) < ga.len + gb.len - i; omega
    ·
     repeat refine c_seq ?_
     refine c_no (by exact congrArg Value.bool (decide_eq_false hc12)) ?_
     refine c_exit ?_
     have hA : ∀ (j : Nat) (x : OpD), j < ga.len → ga.l[j]? = some x → x.b.len ≤ 600 := fun j x hj hx => h1 j x (by omega) hx
     have hB : ∀ (j : Nat) (x : OpD), j < gb.len → gb.l[j]? = some x → x.b.len ≤ 600 := fun j x hj hx => h2 j x (by omega) hx
     repeat refine c_seq ?_
     refine c_region ?_
     refine l_op (o_val (r_as) ?_)
     first | refine l_end ?_ | refine l_nil ?_
     repeat refine c_seq ?_
     refine c_block ?_
     repeat refine c_seq ?_
     refine c_loop3 (fun (i2 : Nat) (z : DW) (y : RDW) => [(0, ga.v), (1, gb.v), (5, .pointer (some ⟨db3, 0, none⟩)), (6, .pointer (some ⟨rb8, 0, none⟩)), (9, VI (i2 : Int))])
       (fun (i2 : Nat) (z : DW) (y : RDW) w => (i2 ≤ ga.len ∧ z.ok ∧ y.ok ∧ y.D = z.abs ∧ (0 ≤ z.writes ∧ z.writes ≤ i2) ∧ (0 ≤ z.lives ∧ z.lives ≤ i2)) ∧ Hp w0 w [] (Ch.blk rb8 ([.slice (hd y.a1) y.D.last.length y.c1, .slice (hd y.a2) y.D.last.length y.c2, .bool y.D.off, VI y.D.armed, VI y.D.part, VI y.D.way, .string ⟨(y.cm).toArray⟩, VI y.D.writes, VI y.D.lives]) 106 :: Ch.own y.a1 y.D.last.length y.c1 ((y.D.last).flatMap strD) 9 1 :: Ch.own y.a2 y.D.last.length y.c2 ((rwf y.D 0).flatMap strD) 9 1 :: Ch.blk db3 ([.slice (hd (some z.a1)) z.ls.length z.c1, .map (some z.mb), .bool z.off, VI z.armed, VI z.part, VI z.way, .slice (hd z.fa) z.fl.length z.fc, VI z.writes, VI z.lives]) 86 :: Ch.own (some z.a1) z.ls.length z.c1 ((z.ls).flatMap slE) 57 1 :: Ch.obj z.mb (mobj kI z.M z.mc) :: Ch.own z.fa z.fl.length z.fc ((z.fl).map V8) 5 1 :: z.T))
       (fun (i2 : Nat) (z : DW) (y : RDW) => ga.len - i2) 0 z4 y9 ⟨rfl, rfl, rfl, rfl, rfl, trivial⟩ ⟨⟨Nat.zero_le _, hzo6, hyo11, hr0, by omega, by omega⟩, (H.sub (.cons_cons _ (.cons_cons _ (.cons_cons _ (.cons_cons _ (.cons_cons _ (.cons_cons _ (.cons_cons _ (List.Sublist.refl _)))))))))⟩ ?_
     clear H
     rintro i2 z y τ w ⟨⟨hi2, hz, hy, hr, hb1, hb2⟩, H⟩
     repeat refine c_seq ?_
     refine c_region ?_
     refine l_op (o_val (r_mv) ?_)
     refine l_op (o_val (r_mv) ?_)
     refine l_op (o_val (r_lens el65 rfl) ?_)
     refine l_op (o_val (r_bin (a := (i2 : Int)) (b := (ga.len : Int)) rfl rfl (fun _ => b_lss)) ?_)
     first | refine l_end ?_ | refine l_nil ?_
     by_cases hc31 : (i2 : Int) < (ga.len : Int)
     ·
      repeat refine c_seq ?_
      refine c_yes (by exact congrArg Value.bool (decide_eq_true hc31)) ?_
      refine c_skip ?_
      repeat refine c_seq ?_
      refine c_block ?_
      repeat refine c_seq ?_
      refine c_region ?_
      refine l_op (o_val (r_mv) ?_)
      refine l_op (o_val (r_mv) ?_)
      refine l_op (o_val (r_mv) ?_)
      refine l_op (o_val (r_mv) ?_)
      have ah34 := ((hga.up H)).addr (by decide) (by first | omega | (dsimp only; omega))
      obtain ⟨ab32, ao33, ah34⟩ := ah34
      refine l_op (o_val (r_isN i2 rfl rfl el65 ah34 (by omega) (by (try simp only [Sl.cut]); omega)) ?_)
      have he36 : ∃ c, ga.l[i2]? = some c := ⟨_, List.getElem?_eq_getElem (by have := ((hga.up H)).ln; (try dsimp only at this ⊢); omega)⟩
      obtain ⟨e35, he36⟩ := he36
      have hez37 := ((hga.up H)).sz e35 (List.mem_of_getElem? he36)
      have hop_e35 := hopa _ (List.mem_of_getElem? he36)
      have hobn_e35 := hop_e35.2.2.2.1.ln
      have hobe_e35 := hop_e35.2.2.2.1.le
      have hobx_e35 := hop_e35.2.2.2.1.mx
      have hokn_e35 := hop_e35.2.2.2.2.ln
      have hopi_e35 := hop_e35.2.1
      have hob_e35 : e35.b.len ≤ 600 := hA i2 e35 (by omega) he36
      refine l_op (o_val (r_ldRow (s := ga) (k := i2) (hga.up H) ah34 rfl rt70 (by decide) he36) ?_)
      refine l_op (o_callR Try.func39 rfl rfl rfl (do5_ret _ db3 rb8 z y (H.ownT (L := [.blk rb8 ([.slice (hd y.a1) y.D.last.length y.c1, .slice (hd y.a2) y.D.last.length y.c2, .bool y.D.off, VI y.D.armed, VI y.D.part, VI y.D.way, .string ⟨(y.cm).toArray⟩, VI y.D.writes, VI y.D.lives]) 106, .own y.a1 y.D.last.length y.c1 ((y.D.last).flatMap strD) 9 1, .own y.a2 y.D.last.length y.c2 ((rwf y.D 0).flatMap strD) 9 1, .blk db3 ([.slice (hd (some z.a1)) z.ls.length z.c1, .map (some z.mb), .bool z.off, VI z.armed, VI z.part, VI z.way, .slice (hd z.fa) z.fl.length z.fc, VI z.writes, VI z.lives]) 86, .own (some z.a1) z.ls.length z.c1 ((z.ls).flatMap slE) 57 1, .obj z.mb (mobj kI z.M z.mc), .own z.fa z.fl.length z.fc ((z.fl).map V8) 5 1]) (L1 := [.blk db3 ([.slice (hd (some z.a1)) z.ls.length z.c1, .map (some z.mb), .bool z.off, VI z.armed, VI z.part, VI z.way, .slice (hd z.fa) z.fl.length z.fc, VI z.writes, VI z.lives]) 86, .own (some z.a1) z.ls.length z.c1 ((z.ls).flatMap slE) 57 1, .obj z.mb (mobj kI z.M z.mc), .own z.fa z.fl.length z.fc ((z.fl).map V8) 5 1, .blk rb8 ([.slice (hd y.a1) y.D.last.length y.c1, .slice (hd y.a2) y.D.last.length y.c2, .bool y.D.off, VI y.D.armed, VI y.D.part, VI y.D.way, .string ⟨(y.cm).toArray⟩, VI y.D.writes, VI y.D.lives]) 106, .own y.a1 y.D.last.length y.c1 ((y.D.last).flatMap strD) 9 1, .own y.a2 y.D.last.length y.c2 ((rwf y.D 0).flatMap strD) 9 1]) (Lr := ([] : List Ch)) (T := z.T) ((perm_front (j := 3) rfl).trans (.cons _ ((perm_front (j := 3) rfl).trans (.cons _ ((perm_front (j := 3) rfl).trans (.cons _ ((perm_front (j := 3) rfl).trans (.cons _ (.refl _)))))))))) hz hy hr e35 (hop_e35.up H) (hop_e35.2.2.2.1.apartK (H.newK (L := [.blk rb8 ([.slice (hd y.a1) y.D.last.length y.c1, .slice (hd y.a2) y.D.last.length y.c2, .bool y.D.off, VI y.D.armed, VI y.D.part, VI y.D.way, .string ⟨(y.cm).toArray⟩, VI y.D.writes, VI y.D.lives]) 106, .own y.a1 y.D.last.length y.c1 ((y.D.last).flatMap strD) 9 1, .own y.a2 y.D.last.length y.c2 ((rwf y.D 0).flatMap strD) 9 1, .blk db3 ([.slice (hd (some z.a1)) z.ls.length z.c1, .map (some z.mb), .bool z.off, VI z.armed, VI z.part, VI z.way, .slice (hd z.fa) z.fl.length z.fc, VI z.writes, VI z.lives]) 86, .own (some z.a1) z.ls.length z.c1 ((z.ls).flatMap slE) 57 1, .obj z.mb (mobj kI z.M z.mc), .own z.fa z.fl.length z.fc ((z.fl).map V8) 5 1]) (L1 := [.blk db3 ([.slice (hd (some z.a1)) z.ls.length z.c1, .map (some z.mb), .bool z.off, VI z.armed, VI z.part, VI z.way, .slice (hd z.fa) z.fl.length z.fc, VI z.writes, VI z.lives]) 86, .own (some z.a1) z.ls.length z.c1 ((z.ls).flatMap slE) 57 1, .obj z.mb (mobj kI z.M z.mc), .own z.fa z.fl.length z.fc ((z.fl).map V8) 5 1, .blk rb8 ([.slice (hd y.a1) y.D.last.length y.c1, .slice (hd y.a2) y.D.last.length y.c2, .bool y.D.off, VI y.D.armed, VI y.D.part, VI y.D.way, .string ⟨(y.cm).toArray⟩, VI y.D.writes, VI y.D.lives]) 106, .own y.a1 y.D.last.length y.c1 ((y.D.last).flatMap strD) 9 1, .own y.a2 y.D.last.length y.c2 ((rwf y.D 0).flatMap strD) 9 1]) (Lr := ([] : List Ch)) (T := z.T) ((perm_front (j := 3) rfl).trans (.cons _ ((perm_front (j := 3) rfl).trans (.cons _ ((perm_front (j := 3) rfl).trans (.cons _ ((perm_front (j := 3) rfl).trans (.cons _ (.refl _))))))))))) (hop_e35.2.2.2.2.apartK (by decide) (H.newK (L := [.blk rb8 ([.slice (hd y.a1) y.D.last.length y.c1, .slice (hd y.a2) y.D.last.length y.c2, .bool y.D.off, VI y.D.armed, VI y.D.part, VI y.D.way, .string ⟨(y.cm).toArray⟩, VI y.D.writes, VI y.D.lives]) 106, .own y.a1 y.D.last.length y.c1 ((y.D.last).flatMap strD) 9 1, .own y.a2 y.D.last.length y.c2 ((rwf y.D 0).flatMap strD) 9 1, .blk db3 ([.slice (hd (some z.a1)) z.ls.length z.c1, .map (some z.mb), .bool z.off, VI z.armed, VI z.part, VI z.way, .slice (hd z.fa) z.fl.length z.fc, VI z.writes, VI z.lives]) 86, .own (some z.a1) z.ls.length z.c1 ((z.ls).flatMap slE) 57 1, .obj z.mb (mobj kI z.M z.mc), .own z.fa z.fl.length z.fc ((z.fl).map V8) 5 1]) (L1 := [.blk db3 ([.slice (hd (some z.a1)) z.ls.length z.c1, .map (some z.mb), .bool z.off, VI z.armed, VI z.part, VI z.way, .slice (hd z.fa) z.fl.length z.fc, VI z.writes, VI z.lives]) 86, .own (some z.a1) z.ls.length z.c1 ((z.ls).flatMap slE) 57 1, .obj z.mb (mobj kI z.M z.mc), .own z.fa z.fl.length z.fc ((z.fl).map V8) 5 1, .blk rb8 ([.slice (hd y.a1) y.D.last.length y.c1, .slice (hd y.a2) y.D.last.length y.c2, .bool y.D.off, VI y.D.armed, VI y.D.part, VI y.D.way, .string ⟨(y.cm).toArray⟩, VI y.D.writes, VI y.D.lives]) 106, .own y.a1 y.D.last.length y.c1 ((y.D.last).flatMap strD) 9 1, .own y.a2 y.D.last.length y.c2 ((rwf y.D 0).flatMap strD) 9 1]) (Lr := ([] : List Ch)) (T := z.T) ((perm_front (j := 3) rfl).trans (.cons _ ((perm_front (j := 3) rfl).trans (.cons _ ((perm_front (j := 3) rfl).trans (.cons _ ((perm_front (j := 3) rfl).trans (.cons _ (.refl _))))))))))) (by omega) ⟨by omega, by omega⟩ ⟨by omega, by omega⟩) ?_)
      rintro _ w ⟨rfl, z38, y39, hzo40, hyo41, hrl42, hww43, hll44, hzt45, Hc⟩
      replace H := H.callT (L1' := [.blk db3 ([.slice (hd (some z38.a1)) z38.ls.length z38.c1, .map (some z38.mb), .bool z38.off, VI z38.armed, VI z38.part, VI z38.way, .slice (hd z38.fa) z38.fl.length z38.fc, VI z38.writes, VI z38.lives]) 86, .own (some z38.a1) z38.ls.length z38.c1 ((z38.ls).flatMap slE) 57 1, .obj z38.mb (mobj kI z38.M z38.mc), .own z38.fa z38.fl.length z38.fc ((z38.fl).map V8) 5 1, .blk rb8 ([.slice (hd y39.a1) y39.D.last.length y39.c1, .slice (hd y39.a2) y39.D.last.length y39.c2, .bool y39.D.off, VI y39.D.armed, VI y39.D.part, VI y39.D.way, .string ⟨(y39.cm).toArray⟩, VI y39.D.writes, VI y39.D.lives]) 106, .own y39.a1 y39.D.last.length y39.c1 ((y39.D.last).flatMap strD) 9 1, .own y39.a2 y39.D.last.length y39.c2 ((rwf y39.D 0).flatMap strD) 9 1]) (T' := z38.T) (L := [.blk rb8 ([.slice (hd y.a1) y.D.last.length y.c1, .slice (hd y.a2) y.D.last.length y.c2, .bool y.D.off, VI y.D.armed, VI y.D.part, VI y.D.way, .string ⟨(y.cm).toArray⟩, VI y.D.writes, VI y.D.lives]) 106, .own y.a1 y.D.last.length y.c1 ((y.D.last).flatMap strD) 9 1, .own y.a2 y.D.last.length y.c2 ((rwf y.D 0).flatMap strD) 9 1, .blk db3 ([.slice (hd (some z.a1)) z.ls.length z.c1, .map (some z.mb), .bool z.off, VI z.armed, VI z.part, VI z.way, .slice (hd z.fa) z.fl.length z.fc, VI z.writes, VI z.lives]) 86, .own (some z.a1) z.ls.length z.c1 ((z.ls).flatMap slE) 57 1, .obj z.mb (mobj kI z.M z.mc), .own z.fa z.fl.length z.fc ((z.fl).map V8) 5 1]) (L1 := [.blk db3 ([.slice (hd (some z.a1)) z.ls.length z.c1, .map (some z.mb), .bool z.off, VI z.armed, VI z.part, VI z.way, .slice (hd z.fa) z.fl.length z.fc, VI z.writes, VI z.lives]) 86, .own (some z.a1) z.ls.length z.c1 ((z.ls).flatMap slE) 57 1, .obj z.mb (mobj kI z.M z.mc), .own z.fa z.fl.length z.fc ((z.fl).map V8) 5 1, .blk rb8 ([.slice (hd y.a1) y.D.last.length y.c1, .slice (hd y.a2) y.D.last.length y.c2, .bool y.D.off, VI y.D.armed, VI y.D.part, VI y.D.way, .string ⟨(y.cm).toArray⟩, VI y.D.writes, VI y.D.lives]) 106, .own y.a1 y.D.last.length y.c1 ((y.D.last).flatMap strD) 9 1, .own y.a2 y.D.last.length y.c2 ((rwf y.D 0).flatMap strD) 9 1]) (Lr := ([] : List Ch)) (T := z.T) ((perm_front (j := 3) rfl).trans (.cons _ ((perm_front (j := 3) rfl).trans (.cons _ ((perm_front (j := 3) rfl).trans (.cons _ ((perm_front (j := 3) rfl).trans (.cons _ (.refl _))))))))) Hc ((perm_front (j := 4) rfl).trans (.cons _ ((perm_front (j := 4) rfl).trans (.cons _ ((perm_front (j := 4) rfl).trans (.cons _ (.refl _)))))))
      clear Hc
      replace H : Hp _ w _ (Ch.blk rb8 ([.slice (hd y39.a1) y39.D.last.length y39.c1, .slice (hd y39.a2) y39.D.last.length y39.c2, .bool y39.D.off, VI y39.D.armed, VI y39.D.part, VI y39.D.way, .string ⟨(y39.cm).toArray⟩, VI y39.D.writes, VI y39.D.lives]) 106 :: Ch.own y39.a1 y39.D.last.length y39.c1 ((y39.D.last).flatMap strD) 9 1 :: Ch.own y39.a2 y39.D.last.length y39.c2 ((rwf y39.D 0).flatMap strD) 9 1 :: Ch.blk db3 ([.slice (hd (some z38.a1)) z38.ls.length z38.c1, .map (some z38.mb), .bool z38.off, VI z38.armed, VI z38.part, VI z38.way, .slice (hd z38.fa) z38.fl.length z38.fc, VI z38.writes, VI z38.lives]) 86 :: Ch.own (some z38.a1) z38.ls.length z38.c1 ((z38.ls).flatMap slE) 57 1 :: Ch.obj z38.mb (mobj kI z38.M z38.mc) :: Ch.own z38.fa z38.fl.length z38.fc ((z38.fl).map V8) 5 1 :: z38.T) := H
      first | refine l_end ?_ | refine l_nil ?_
      repeat refine c_seq ?_
      refine c_region ?_
      refine l_op (o_val (r_mv) ?_)
      refine l_op (o_val (r_bin (a := (i2 : Int)) (b := 1) rfl rfl (fun _ => b_add (by omega) (by omega))) ?_)
      refine l_op (o_val (r_as) ?_)
      first | refine l_end ?_ | refine l_nil ?_
      refine round_end (i2 + 1, z38, y39) ?_ ?_ ?_
      · exact ⟨rfl, rfl, rfl, rfl, show VI ((i2 : Int) + 1) = VI ((i2 + 1 : Nat) : Int) from congrArg VI (by omega), trivial⟩
      · refine ⟨?_, ?_⟩
        · try dsimp only
          exact ⟨by omega, hzo40, hyo41, hrl42, by omega, by omega⟩
        · exact H.sub (.cons_cons _ (.cons_cons _ (.cons_cons _ (.cons_cons _ (.cons_cons _ (.cons_cons _ (.cons_cons _ (List.Sublist.refl _))))))))
      · show ga.len - (i2 + 1 : Nat) < ga.len - i2; omega
     ·
      repeat refine c_seq ?_
      refine c_no (by exact congrArg Value.bool (decide_eq_false hc31)) ?_
      refine c_exit ?_
      repeat refine c_seq ?_
      refine c_region ?_
      refine l_op (o_val (r_mv) ?_)
      refine l_op (o_callR Try.func44 rfl rfl rfl (dcopy_ret _ db3 z (H.ownT (L := [.blk rb8 ([.slice (hd y.a1) y.D.last.length y.c1, .slice (hd y.a2) y.D.last.length y.c2, .bool y.D.off, VI y.D.armed, VI y.D.part, VI y.D.way, .string ⟨(y.cm).toArray⟩, VI y.D.writes, VI y.D.lives]) 106, .own y.a1 y.D.last.length y.c1 ((y.D.last).flatMap strD) 9 1, .own y.a2 y.D.last.length y.c2 ((rwf y.D 0).flatMap strD) 9 1, .blk db3 ([.slice (hd (some z.a1)) z.ls.length z.c1, .map (some z.mb), .bool z.off, VI z.armed, VI z.part, VI z.way, .slice (hd z.fa) z.fl.length z.fc, VI z.writes, VI z.lives]) 86, .own (some z.a1) z.ls.length z.c1 ((z.ls).flatMap slE) 57 1, .obj z.mb (mobj kI z.M z.mc), .own z.fa z.fl.length z.fc ((z.fl).map V8) 5 1]) (L1 := [.blk db3 ([.slice (hd (some z.a1)) z.ls.length z.c1, .map (some z.mb), .bool z.off, VI z.armed, VI z.part, VI z.way, .slice (hd z.fa) z.fl.length z.fc, VI z.writes, VI z.lives]) 86, .own (some z.a1) z.ls.length z.c1 ((z.ls).flatMap slE) 57 1, .obj z.mb (mobj kI z.M z.mc), .own z.fa z.fl.length z.fc ((z.fl).map V8) 5 1]) (Lr := ([.blk rb8 ([.slice (hd y.a1) y.D.last.length y.c1, .slice (hd y.a2) y.D.last.length y.c2, .bool y.D.off, VI y.D.armed, VI y.D.part, VI y.D.way, .string ⟨(y.cm).toArray⟩, VI y.D.writes, VI y.D.lives]) 106, .own y.a1 y.D.last.length y.c1 ((y.D.last).flatMap strD) 9 1, .own y.a2 y.D.last.length y.c2 ((rwf y.D 0).flatMap strD) 9 1] : List Ch)) (T := z.T) ((perm_front (j := 3) rfl).trans (.cons _ ((perm_front (j := 3) rfl).trans (.cons _ ((perm_front (j := 3) rfl).trans (.cons _ ((perm_front (j := 3) rfl).trans (.cons _ (.refl _)))))))))) hz) ?_)
      rintro _ w ⟨cb46, z47, rfl, hca48, hco49, hcT50, Hc⟩
      replace H := H.callT (L1' := [.blk cb46 ([.slice (hd (some z47.a1)) z47.ls.length z47.c1, .map (some z47.mb), .bool z47.off, VI z47.armed, VI z47.part, VI z47.way, .slice (hd z47.fa) z47.fl.length z47.fc, VI z47.writes, VI z47.lives]) 86, .own (some z47.a1) z47.ls.length z47.c1 ((z47.ls).flatMap slE) 57 1, .obj z47.mb (mobj kI z47.M z47.mc), .own z47.fa z47.fl.length z47.fc ((z47.fl).map V8) 5 1, .blk db3 ([.slice (hd (some z.a1)) z.ls.length z.c1, .map (some z.mb), .bool z.off, VI z.armed, VI z.part, VI z.way, .slice (hd z.fa) z.fl.length z.fc, VI z.writes, VI z.lives]) 86, .own (some z.a1) z.ls.length z.c1 ((z.ls).flatMap slE) 57 1, .obj z.mb (mobj kI z.M z.mc), .own z.fa z.fl.length z.fc ((z.fl).map V8) 5 1]) (T' := z.T) (L := [.blk rb8 ([.slice (hd y.a1) y.D.last.length y.c1, .slice (hd y.a2) y.D.last.length y.c2, .bool y.D.off, VI y.D.armed, VI y.D.part, VI y.D.way, .string ⟨(y.cm).toArray⟩, VI y.D.writes, VI y.D.lives]) 106, .own y.a1 y.D.last.length y.c1 ((y.D.last).flatMap strD) 9 1, .own y.a2 y.D.last.length y.c2 ((rwf y.D 0).flatMap strD) 9 1, .blk db3 ([.slice (hd (some z.a1)) z.ls.length z.c1, .map (some z.mb), .bool z.off, VI z.armed, VI z.part, VI z.way, .slice (hd z.fa) z.fl.length z.fc, VI z.writes, VI z.lives]) 86, .own (some z.a1) z.ls.length z.c1 ((z.ls).flatMap slE) 57 1, .obj z.mb (mobj kI z.M z.mc), .own z.fa z.fl.length z.fc ((z.fl).map V8) 5 1]) (L1 := [.blk db3 ([.slice (hd (some z.a1)) z.ls.length z.c1, .map (some z.mb), .bool z.off, VI z.armed, VI z.part, VI z.way, .slice (hd z.fa) z.fl.length z.fc, VI z.writes, VI z.lives]) 86, .own (some z.a1) z.ls.length z.c1 ((z.ls).flatMap slE) 57 1, .obj z.mb (mobj kI z.M z.mc), .own z.fa z.fl.length z.fc ((z.fl).map V8) 5 1]) (Lr := ([.blk rb8 ([.slice (hd y.a1) y.D.last.length y.c1, .slice (hd y.a2) y.D.last.length y.c2, .bool y.D.off, VI y.D.armed, VI y.D.part, VI y.D.way, .string ⟨(y.cm).toArray⟩, VI y.D.writes, VI y.D.lives]) 106, .own y.a1 y.D.last.length y.c1 ((y.D.last).flatMap strD) 9 1, .own y.a2 y.D.last.length y.c2 ((rwf y.D 0).flatMap strD) 9 1] : List Ch)) (T := z.T) ((perm_front (j := 3) rfl).trans (.cons _ ((perm_front (j := 3) rfl).trans (.cons _ ((perm_front (j := 3) rfl).trans (.cons _ ((perm_front (j := 3) rfl).trans (.cons _ (.refl _))))))))) Hc ((perm_front (j := 3) rfl).trans (.cons _ ((perm_front (j := 3) rfl).trans (.cons _ ((perm_front (j := 3) rfl).trans (.cons _ ((perm_front (j := 3) rfl).trans (.cons _ (.refl _)))))))))
      clear Hc
      replace H : Hp _ w _ (Ch.blk cb46 ([.slice (hd (some z47.a1)) z47.ls.length z47.c1, .map (some z47.mb), .bool z47.off, VI z47.armed, VI z47.part, VI z47.way, .slice (hd z47.fa) z47.fl.length z47.fc, VI z47.writes, VI z47.lives]) 86 :: Ch.own (some z47.a1) z47.ls.length z47.c1 ((z47.ls).flatMap slE) 57 1 :: Ch.obj z47.mb (mobj kI z47.M z47.mc) :: Ch.own z47.fa z47.fl.length z47.fc ((z47.fl).map V8) 5 1 :: Ch.blk rb8 ([.slice (hd y.a1) y.D.last.length y.c1, .slice (hd y.a2) y.D.last.length y.c2, .bool y.D.off, VI y.D.armed, VI y.D.part, VI y.D.way, .string ⟨(y.cm).toArray⟩, VI y.D.writes, VI y.D.lives]) 106 :: Ch.own y.a1 y.D.last.length y.c1 ((y.D.last).flatMap strD) 9 1 :: Ch.own y.a2 y.D.last.length y.c2 ((rwf y.D 0).flatMap strD) 9 1 :: Ch.blk db3 ([.slice (hd (some z.a1)) z.ls.length z.c1, .map (some z.mb), .bool z.off, VI z.armed, VI z.part, VI z.way, .slice (hd z.fa) z.fl.length z.fc, VI z.writes, VI z.lives]) 86 :: Ch.own (some z.a1) z.ls.length z.c1 ((z.ls).flatMap slE) 57 1 :: Ch.obj z.mb (mobj kI z.M z.mc) :: Ch.own z.fa z.fl.length z.fc ((z.fl).map V8) 5 1 :: z.T) := H
      refine l_op (o_val (r_mv) ?_)
      refine l_op (o_callR Try.func45 rfl rfl rfl (rcopy_ret _ rb8 y (H.ownU (L := [.blk cb46 ([.slice (hd (some z47.a1)) z47.ls.length z47.c1, .map (some z47.mb), .bool z47.off, VI z47.armed, VI z47.part, VI z47.way, .slice (hd z47.fa) z47.fl.length z47.fc, VI z47.writes, VI z47.lives]) 86, .own (some z47.a1) z47.ls.length z47.c1 ((z47.ls).flatMap slE) 57 1, .obj z47.mb (mobj kI z47.M z47.mc), .own z47.fa z47.fl.length z47.fc ((z47.fl).map V8) 5 1, .blk rb8 ([.slice (hd y.a1) y.D.last.length y.c1, .slice (hd y.a2) y.D.last.length y.c2, .bool y.D.off, VI y.D.armed, VI y.D.part, VI y.D.way, .string ⟨(y.cm).toArray⟩, VI y.D.writes, VI y.D.lives]) 106, .own y.a1 y.D.last.length y.c1 ((y.D.last).flatMap strD) 9 1, .own y.a2 y.D.last.length y.c2 ((rwf y.D 0).flatMap strD) 9 1, .blk db3 ([.slice (hd (some z.a1)) z.ls.length z.c1, .map (some z.mb), .bool z.off, VI z.armed, VI z.part, VI z.way, .slice (hd z.fa) z.fl.length z.fc, VI z.writes, VI z.lives]) 86, .own (some z.a1) z.ls.length z.c1 ((z.ls).flatMap slE) 57 1, .obj z.mb (mobj kI z.M z.mc), .own z.fa z.fl.length z.fc ((z.fl).map V8) 5 1]) (L1 := [.blk rb8 ([.slice (hd y.a1) y.D.last.length y.c1, .slice (hd y.a2) y.D.last.length y.c2, .bool y.D.off, VI y.D.armed, VI y.D.part, VI y.D.way, .string ⟨(y.cm).toArray⟩, VI y.D.writes, VI y.D.lives]) 106, .own y.a1 y.D.last.length y.c1 ((y.D.last).flatMap strD) 9 1, .own y.a2 y.D.last.length y.c2 ((rwf y.D 0).flatMap strD) 9 1]) (Lr := ([.blk cb46 ([.slice (hd (some z47.a1)) z47.ls.length z47.c1, .map (some z47.mb), .bool z47.off, VI z47.armed, VI z47.part, VI z47.way, .slice (hd z47.fa) z47.fl.length z47.fc, VI z47.writes, VI z47.lives]) 86, .own (some z47.a1) z47.ls.length z47.c1 ((z47.ls).flatMap slE) 57 1, .obj z47.mb (mobj kI z47.M z47.mc), .own z47.fa z47.fl.length z47.fc ((z47.fl).map V8) 5 1, .blk db3 ([.slice (hd (some z.a1)) z.ls.length z.c1, .map (some z.mb), .bool z.off, VI z.armed, VI z.part, VI z.way, .slice (hd z.fa) z.fl.length z.fc, VI z.writes, VI z.lives]) 86, .own (some z.a1) z.ls.length z.c1 ((z.ls).flatMap slE) 57 1, .obj z.mb (mobj kI z.M z.mc), .own z.fa z.fl.length z.fc ((z.fl).map V8) 5 1] : List Ch)) (T := z.T) ((perm_front (j := 4) rfl).trans (.cons _ ((perm_front (j := 4) rfl).trans (.cons _ ((perm_front (j := 4) rfl).trans (.cons _ (.refl _)))))))) hy) ?_)
      rintro _ w ⟨sb51, y52, rfl, hca53, hco54, Hc⟩
      replace H := H.callU (L1' := [.blk rb8 ([.slice (hd y.a1) y.D.last.length y.c1, .slice (hd y.a2) y.D.last.length y.c2, .bool y.D.off, VI y.D.armed, VI y.D.part, VI y.D.way, .string ⟨(y.cm).toArray⟩, VI y.D.writes, VI y.D.lives]) 106, .own y.a1 y.D.last.length y.c1 ((y.D.last).flatMap strD) 9 1, .own y.a2 y.D.last.length y.c2 ((rwf y.D 0).flatMap strD) 9 1, .blk sb51 ([.slice (hd y52.a1) y52.D.last.length y52.c1, .slice (hd y52.a2) y52.D.last.length y52.c2, .bool y52.D.off, VI y52.D.armed, VI y52.D.part, VI y52.D.way, .string ⟨(y52.cm).toArray⟩, VI y52.D.writes, VI y52.D.lives]) 106, .own y52.a1 y52.D.last.length y52.c1 ((y52.D.last).flatMap strD) 9 1, .own y52.a2 y52.D.last.length y52.c2 ((rwf y52.D 0).flatMap strD) 9 1]) (L := [.blk cb46 ([.slice (hd (some z47.a1)) z47.ls.length z47.c1, .map (some z47.mb), .bool z47.off, VI z47.armed, VI z47.part, VI z47.way, .slice (hd z47.fa) z47.fl.length z47.fc, VI z47.writes, VI z47.lives]) 86, .own (some z47.a1) z47.ls.length z47.c1 ((z47.ls).flatMap slE) 57 1, .obj z47.mb (mobj kI z47.M z47.mc), .own z47.fa z47.fl.length z47.fc ((z47.fl).map V8) 5 1, .blk rb8 ([.slice (hd y.a1) y.D.last.length y.c1, .slice (hd y.a2) y.D.last.length y.c2, .bool y.D.off, VI y.D.armed, VI y.D.part, VI y.D.way, .string ⟨(y.cm).toArray⟩, VI y.D.writes, VI y.D.lives]) 106, .own y.a1 y.D.last.length y.c1 ((y.D.last).flatMap strD) 9 1, .own y.a2 y.D.last.length y.c2 ((rwf y.D 0).flatMap strD) 9 1, .blk db3 ([.slice (hd (some z.a1)) z.ls.length z.c1, .map (some z.mb), .bool z.off, VI z.armed, VI z.part, VI z.way, .slice (hd z.fa) z.fl.length z.fc, VI z.writes, VI z.lives]) 86, .own (some z.a1) z.ls.length z.c1 ((z.ls).flatMap slE) 57 1, .obj z.mb (mobj kI z.M z.mc), .own z.fa z.fl.length z.fc ((z.fl).map V8) 5 1]) (L1 := [.blk rb8 ([.slice (hd y.a1) y.D.last.length y.c1, .slice (hd y.a2) y.D.last.length y.c2, .bool y.D.off, VI y.D.armed, VI y.D.part, VI y.D.way, .string ⟨(y.cm).toArray⟩, VI y.D.writes, VI y.D.lives]) 106, .own y.a1 y.D.last.length y.c1 ((y.D.last).flatMap strD) 9 1, .own y.a2 y.D.last.length y.c2 ((rwf y.D 0).flatMap strD) 9 1]) (Lr := ([.blk cb46 ([.slice (hd (some z47.a1)) z47.ls.length z47.c1, .map (some z47.mb), .bool z47.off, VI z47.armed, VI z47.part, VI z47.way, .slice (hd z47.fa) z47.fl.length z47.fc, VI z47.writes, VI z47.lives]) 86, .own (some z47.a1) z47.ls.length z47.c1 ((z47.ls).flatMap slE) 57 1, .obj z47.mb (mobj kI z47.M z47.mc), .own z47.fa z47.fl.length z47.fc ((z47.fl).map V8) 5 1, .blk db3 ([.slice (hd (some z.a1)) z.ls.length z.c1, .map (some z.mb), .bool z.off, VI z.armed, VI z.part, VI z.way, .slice (hd z.fa) z.fl.length z.fc, VI z.writes, VI z.lives]) 86, .own (some z.a1) z.ls.length z.c1 ((z.ls).flatMap slE) 57 1, .obj z.mb (mobj kI z.M z.mc), .own z.fa z.fl.length z.fc ((z.fl).map V8) 5 1] : List Ch)) (T := z.T) ((perm_front (j := 4) rfl).trans (.cons _ ((perm_front (j := 4) rfl).trans (.cons _ ((perm_front (j := 4) rfl).trans (.cons _ (.refl _))))))) Hc ((perm_front (j := 11) rfl).trans (.cons _ ((perm_front (j := 11) rfl).trans (.cons _ ((perm_front (j := 11) rfl).trans (.cons _ ((perm_front (j := 0) rfl).trans (.cons _ ((perm_front (j := 0) rfl).trans (.cons _ ((perm_front (j := 0) rfl).trans (.cons _ ((perm_front (j := 0) rfl).trans (.cons _ ((perm_front (j := 4) rfl).trans (.cons _ ((perm_front (j := 4) rfl).trans (.cons _ ((perm_front (j := 4) rfl).trans (.cons _ (.refl _)))))))))))))))))))))
      clear Hc
      replace H : Hp _ w _ (Ch.blk sb51 ([.slice (hd y52.a1) y52.D.last.length y52.c1, .slice (hd y52.a2) y52.D.last.length y52.c2, .bool y52.D.off, VI y52.D.armed, VI y52.D.part, VI y52.D.way, .string ⟨(y52.cm).toArray⟩, VI y52.D.writes, VI y52.D.lives]) 106 :: Ch.own y52.a1 y52.D.last.length y52.c1 ((y52.D.last).flatMap strD) 9 1 :: Ch.own y52.a2 y52.D.last.length y52.c2 ((rwf y52.D 0).flatMap strD) 9 1 :: Ch.blk cb46 ([.slice (hd (some z47.a1)) z47.ls.length z47.c1, .map (some z47.mb), .bool z47.off, VI z47.armed, VI z47.part, VI z47.way, .slice (hd z47.fa) z47.fl.length z47.fc, VI z47.writes, VI z47.lives]) 86 :: Ch.own (some z47.a1) z47.ls.length z47.c1 ((z47.ls).flatMap slE) 57 1 :: Ch.obj z47.mb (mobj kI z47.M z47.mc) :: Ch.own z47.fa z47.fl.length z47.fc ((z47.fl).map V8) 5 1 :: Ch.blk rb8 ([.slice (hd y.a1) y.D.last.length y.c1, .slice (hd y.a2) y.D.last.length y.c2, .bool y.D.off, VI y.D.armed, VI y.D.part, VI y.D.way, .string ⟨(y.cm).toArray⟩, VI y.D.writes, VI y.D.lives]) 106 :: Ch.own y.a1 y.D.last.length y.c1 ((y.D.last).flatMap strD) 9 1 :: Ch.own y.a2 y.D.last.length y.c2 ((rwf y.D 0).flatMap strD) 9 1 :: Ch.blk db3 ([.slice (hd (some z.a1)) z.ls.length z.c1, .map (some z.mb), .bool z.off, VI z.armed, VI z.part, VI z.way, .slice (hd z.fa) z.fl.length z.fc, VI z.writes, VI z.lives]) 86 :: Ch.own (some z.a1) z.ls.length z.c1 ((z.ls).flatMap slE) 57 1 :: Ch.obj z.mb (mobj kI z.M z.mc) :: Ch.own z.fa z.fl.length z.fc ((z.fl).map V8) 5 1 :: z.T) := H
      refine l_op (o_val (r_as) ?_)
      refine l_op (o_val (r_as) ?_)
      first | refine l_end ?_ | refine l_nil ?_
      rw [← hcT50] at H
      replace H : Hp _ w _ (Ch.blk sb51 ([.slice (hd y52.a1) y52.D.last.length y52.c1, .slice (hd y52.a2) y52.D.last.length y52.c2, .bool y52.D.off, VI y52.D.armed, VI y52.D.part, VI y52.D.way, .string ⟨(y52.cm).toArray⟩, VI y52.D.writes, VI y52.D.lives]) 106 :: Ch.own y52.a1 y52.D.last.length y52.c1 ((y52.D.last).flatMap strD) 9 1 :: Ch.own y52.a2 y52.D.last.length y52.c2 ((rwf y52.D 0).flatMap strD) 9 1 :: Ch.blk cb46 ([.slice (hd (some z47.a1)) z47.ls.length z47.c1, .map (some z47.mb), .bool z47.off, VI z47.armed, VI z47.part, VI z47.way, .slice (hd z47.fa) z47.fl.length z47.fc, VI z47.writes, VI z47.lives]) 86 :: Ch.own (some z47.a1) z47.ls.length z47.c1 ((z47.ls).flatMap slE) 57 1 :: Ch.obj z47.mb (mobj kI z47.M z47.mc) :: Ch.own z47.fa z47.fl.length z47.fc ((z47.fl).map V8) 5 1 :: Ch.blk rb8 ([.slice (hd y.a1) y.D.last.length y.c1, .slice (hd y.a2) y.D.last.length y.c2, .bool y.D.off, VI y.D.armed, VI y.D.part, VI y.D.way, .string ⟨(y.cm).toArray⟩, VI y.D.writes, VI y.D.lives]) 106 :: Ch.own y.a1 y.D.last.length y.c1 ((y.D.last).flatMap strD) 9 1 :: Ch.own y.a2 y.D.last.length y.c2 ((rwf y.D 0).flatMap strD) 9 1 :: Ch.blk db3 ([.slice (hd (some z.a1)) z.ls.length z.c1, .map (some z.mb), .bool z.off, VI z.armed, VI z.part, VI z.way, .slice (hd z.fa) z.fl.length z.fc, VI z.writes, VI z.lives]) 86 :: Ch.own (some z.a1) z.ls.length z.c1 ((z.ls).flatMap slE) 57 1 :: Ch.obj z.mb (mobj kI z.M z.mc) :: Ch.own z.fa z.fl.length z.fc ((z.fl).map V8) 5 1 :: z47.T) := H
      have hrc : y52.D = z47.abs := by rw [hca53, hca48, hr]
      have hcw : z47.writes = z.writes := congrArg DD.writes hca48
      have hcv : z47.lives = z.lives := congrArg DD.lives hca48
      have hT0 : ∀ c ∈ z.T, c ∈ z47.T := fun c hc => by rw [hcT50]; exact hc
      repeat refine c_seq ?_
      refine c_region ?_
      refine l_op (o_val (r_mv) ?_)
      refine l_op (o_val (r_nilp Try.underlying55 (by kernel_rfl) rfl rfl) ?_)
      first | refine l_end ?_ | refine l_nil ?_
      repeat refine c_seq ?_
      refine c_no rfl ?_
      refine c_skip ?_
      repeat refine c_seq ?_
      refine c_region ?_
      refine l_op (o_val (r_as) ?_)
      first | refine l_end ?_ | refine l_nil ?_
      repeat refine c_seq ?_
      refine c_block ?_
      repeat refine c_seq ?_
      refine c_loop3 (fun (i3 : Nat) (zc : DW) (yc : RDW) => [(1, gb.v), (5, .pointer (some ⟨db3, 0, none⟩)), (6, .pointer (some ⟨rb8, 0, none⟩)), (10, .pointer (some ⟨cb46, 0, none⟩)), (11, .pointer (some ⟨sb51, 0, none⟩)), (12, VI (i3 : Int))])
        (fun (i3 : Nat) (zc : DW) (yc : RDW) w => (i3 ≤ gb.len ∧ zc.ok ∧ yc.ok ∧ yc.D = zc.abs ∧ (0 ≤ zc.writes ∧ zc.writes ≤ ga.len + i3) ∧ (0 ≤ zc.lives ∧ zc.lives ≤ ga.len + i3) ∧ (∀ c ∈ z.T, c ∈ zc.T)) ∧ Hp w0 w [] (Ch.blk sb51 ([.slice (hd yc.a1) yc.D.last.length yc.c1, .slice (hd yc.a2) yc.D.last.length yc.c2, .bool yc.D.off, VI yc.D.armed, VI yc.D.part, VI yc.D.way, .string ⟨(yc.cm).toArray⟩, VI yc.D.writes, VI yc.D.lives]) 106 :: Ch.own yc.a1 yc.D.last.length yc.c1 ((yc.D.last).flatMap strD) 9 1 :: Ch.own yc.a2 yc.D.last.length yc.c2 ((rwf yc.D 0).flatMap strD) 9 1 :: Ch.blk cb46 ([.slice (hd (some zc.a1)) zc.ls.length zc.c1, .map (some zc.mb), .bool zc.off, VI zc.armed, VI zc.part, VI zc.way, .slice (hd zc.fa) zc.fl.length zc.fc, VI zc.writes, VI zc.lives]) 86 :: Ch.own (some zc.a1) zc.ls.length zc.c1 ((zc.ls).flatMap slE) 57 1 :: Ch.obj zc.mb (mobj kI zc.M zc.mc) :: Ch.own zc.fa zc.fl.length zc.fc ((zc.fl).map V8) 5 1 :: Ch.blk rb8 ([.slice (hd y.a1) y.D.last.length y.c1, .slice (hd y.a2) y.D.last.length y.c2, .bool y.D.off, VI y.D.armed, VI y.D.part, VI y.D.way, .string ⟨(y.cm).toArray⟩, VI y.D.writes, VI y.D.lives]) 106 :: Ch.own y.a1 y.D.last.length y.c1 ((y.D.last).flatMap strD) 9 1 :: Ch.own y.a2 y.D.last.length y.c2 ((rwf y.D 0).flatMap strD) 9 1 :: Ch.blk db3 ([.slice (hd (some z.a1)) z.ls.length z.c1, .map (some z.mb), .bool z.off, VI z.armed, VI z.part, VI z.way, .slice (hd z.fa) z.fl.length z.fc, VI z.writes, VI z.lives]) 86 :: Ch.own (some z.a1) z.ls.length z.c1 ((z.ls).flatMap slE) 57 1 :: Ch.obj z.mb (mobj kI z.M z.mc) :: Ch.own z.fa z.fl.length z.fc ((z.fl).map V8) 5 1 :: zc.T))
        (fun (i3 : Nat) (zc : DW) (yc : RDW) => gb.len - i3) 0 z47 y52 ⟨rfl, rfl, rfl, rfl, rfl, rfl, trivial⟩ ⟨⟨Nat.zero_le _, hco49, hco54, hrc, by omega, by omega, hT0⟩, H⟩ ?_
      clear H
      rintro i3 zc yc τ w ⟨⟨hi3, hzc, hyc, hrc2, hb3, hb4, hT1⟩, H⟩
      repeat refine c_seq ?_
      refine c_region ?_
      refine l_op (o_val (r_mv) ?_)
      refine l_op (o_val (r_mv) ?_)
      refine l_op (o_val (r_lens el65 rfl) ?_)
      refine l_op (o_val (r_bin (a := (i3 : Int)) (b := (gb.len : Int)) rfl rfl (fun _ => b_lss)) ?_)
      first | refine l_end ?_ | refine l_nil ?_
      by_cases hc55 : (i3 : Int) < (gb.len : Int)
      ·
       repeat refine c_seq ?_
       refine c_yes (by exact congrArg Value.bool (decide_eq_true hc55)) ?_
       refine c_skip ?_
       repeat refine c_seq ?_
       refine c_block ?_
       repeat refine c_seq ?_
       refine c_region ?_
       refine l_op (o_val (r_mv) ?_)
       refine l_op (o_val (r_mv) ?_)
       refine l_op (o_val (r_mv) ?_)
       refine l_op (o_val (r_mv) ?_)
       have ah58 := ((hgb.up H)).addr (by decide) (by first | omega | (dsimp only; omega))
       obtain ⟨ab56, ao57, ah58⟩ := ah58
       refine l_op (o_val (r_isN i3 rfl rfl el65 ah58 (by omega) (by (try simp only [Sl.cut]); omega)) ?_)
       have he60 : ∃ c, gb.l[i3]? = some c := ⟨_, List.getElem?_eq_getElem (by have := ((hgb.up H)).ln; (try dsimp only at this ⊢); omega)⟩
       obtain ⟨e59, he60⟩ := he60
       have hez61 := ((hgb.up H)).sz e59 (List.mem_of_getElem? he60)
       have hop_e59 := hopb _ (List.mem_of_getElem? he60)
       have hobn_e59 := hop_e59.2.2.2.1.ln
       have hobe_e59 := hop_e59.2.2.2.1.le
       have hobx_e59 := hop_e59.2.2.2.1.mx
       have hokn_e59 := hop_e59.2.2.2.2.ln
       have hopi_e59 := hop_e59.2.1
       have hob_e59 : e59.b.len ≤ 600 := hB i3 e59 (by omega) he60
       refine l_op (o_val (r_ldRow (s := gb) (k := i3) (hgb.up H) ah58 rfl rt70 (by decide) he60) ?_)
       refine l_op (o_callR Try.func39 rfl rfl rfl (do5_ret _ cb46 sb51 zc yc (H.ownT (L := [.blk sb51 ([.slice (hd yc.a1) yc.D.last.length yc.c1, .slice (hd yc.a2) yc.D.last.length yc.c2, .bool yc.D.off, VI yc.D.armed, VI yc.D.part, VI yc.D.way, .string ⟨(yc.cm).toArray⟩, VI yc.D.writes, VI yc.D.lives]) 106, .own yc.a1 yc.D.last.length yc.c1 ((yc.D.last).flatMap strD) 9 1, .own yc.a2 yc.D.last.length yc.c2 ((rwf yc.D 0).flatMap strD) 9 1, .blk cb46 ([.slice (hd (some zc.a1)) zc.ls.length zc.c1, .map (some zc.mb), .bool zc.off, VI zc.armed, VI zc.part, VI zc.way, .slice (hd zc.fa) zc.fl.length zc.fc, VI zc.writes, VI zc.lives]) 86, .own (some zc.a1) zc.ls.length zc.c1 ((zc.ls).flatMap slE) 57 1, .obj zc.mb (mobj kI zc.M zc.mc), .own zc.fa zc.fl.length zc.fc ((zc.fl).map V8) 5 1, .blk rb8 ([.slice (hd y.a1) y.D.last.length y.c1, .slice (hd y.a2) y.D.last.length y.c2, .bool y.D.off, VI y.D.armed, VI y.D.part, VI y.D.way, .string ⟨(y.cm).toArray⟩, VI y.D.writes, VI y.D.lives]) 106, .own y.a1 y.D.last.length y.c1 ((y.D.last).flatMap strD) 9 1, .own y.a2 y.D.last.length y.c2 ((rwf y.D 0).flatMap strD) 9 1, .blk db3 ([.slice (hd (some z.a1)) z.ls.length z.c1, .map (some z.mb), .bool z.off, VI z.armed, VI z.part, VI z.way, .slice (hd z.fa) z.fl.length z.fc, VI z.writes, VI z.lives]) 86, .own (some z.a1) z.ls.length z.c1 ((z.ls).flatMap slE) 57 1, .obj z.mb (mobj kI z.M z.mc), .own z.fa z.fl.length z.fc ((z.fl).map V8) 5 1]) (L1 := [.blk cb46 ([.slice (hd (some zc.a1)) zc.ls.length zc.c1, .map (some zc.mb), .bool zc.off, VI zc.armed, VI zc.part, VI zc.way, .slice (hd zc.fa) zc.fl.length zc.fc, VI zc.writes, VI zc.lives]) 86, .own (some zc.a1) zc.ls.length zc.c1 ((zc.ls).flatMap slE) 57 1, .obj zc.mb (mobj kI zc.M zc.mc), .own zc.fa zc.fl.length zc.fc ((zc.fl).map V8) 5 1, .blk sb51 ([.slice (hd yc.a1) yc.D.last.length yc.c1, .slice (hd yc.a2) yc.D.last.length yc.c2, .bool yc.D.off, VI yc.D.armed, VI yc.D.part, VI yc.D.way, .string ⟨(yc.cm).toArray⟩, VI yc.D.writes, VI yc.D.lives]) 106, .own yc.a1 yc.D.last.length yc.c1 ((yc.D.last).flatMap strD) 9 1, .own yc.a2 yc.D.last.length yc.c2 ((rwf yc.D 0).flatMap strD) 9 1]) (Lr := ([.blk rb8 ([.slice (hd y.a1) y.D.last.length y.c1, .slice (hd y.a2) y.D.last.length y.c2, .bool y.D.off, VI y.D.armed, VI y.D.part, VI y.D.way, .string ⟨(y.cm).toArray⟩, VI y.D.writes, VI y.D.lives]) 106, .own y.a1 y.D.last.length y.c1 ((y.D.last).flatMap strD) 9 1, .own y.a2 y.D.last.length y.c2 ((rwf y.D 0).flatMap strD) 9 1, .blk db3 ([.slice (hd (some z.a1)) z.ls.length z.c1, .map (some z.mb), .bool z.off, VI z.armed, VI z.part, VI z.way, .slice (hd z.fa) z.fl.length z.fc, VI z.writes, VI z.lives]) 86, .own (some z.a1) z.ls.length z.c1 ((z.ls).flatMap slE) 57 1, .obj z.mb (mobj kI z.M z.mc), .own z.fa z.fl.length z.fc ((z.fl).map V8) 5 1] : List Ch)) (T := zc.T) ((perm_front (j := 3) rfl).trans (.cons _ ((perm_front (j := 3) rfl).trans (.cons _ ((perm_front (j := 3) rfl).trans (.cons _ ((perm_front (j := 3) rfl).trans (.cons _ (.refl _)))))))))) hzc hyc hrc2 e59 (hop_e59.up H) (hop_e59.2.2.2.1.apartK (H.newK (L := [.blk sb51 ([.slice (hd yc.a1) yc.D.last.length yc.c1, .slice (hd yc.a2) yc.D.last.length yc.c2, .bool yc.D.off, VI yc.D.armed, VI yc.D.part, VI yc.D.way, .string ⟨(yc.cm).toArray⟩, VI yc.D.writes, VI yc.D.lives]) 106, .own yc.a1 yc.D.last.length yc.c1 ((yc.D.last).flatMap strD) 9 1, .own yc.a2 yc.D.last.length yc.c2 ((rwf yc.D 0).flatMap strD) 9 1, .blk cb46 ([.slice (hd (some zc.a1)) zc.ls.length zc.c1, .map (some zc.mb), .bool zc.off, VI zc.armed, VI zc.part, VI zc.way, .slice (hd zc.fa) zc.fl.length zc.fc, VI zc.writes, VI zc.lives]) 86, .own (some zc.a1) zc.ls.length zc.c1 ((zc.ls).flatMap slE) 57 1, .obj zc.mb (mobj kI zc.M zc.mc), .own zc.fa zc.fl.length zc.fc ((zc.fl).map V8) 5 1, .blk rb8 ([.slice (hd y.a1) y.D.last.length y.c1, .slice (hd y.a2) y.D.last.length y.c2, .bool y.D.off, VI y.D.armed, VI y.D.part, VI y.D.way, .string ⟨(y.cm).toArray⟩, VI y.D.writes, VI y.D.lives]) 106, .own y.a1 y.D.last.length y.c1 ((y.D.last).flatMap strD) 9 1, .own y.a2 y.D.last.length y.c2 ((rwf y.D 0).flatMap strD) 9 1, .blk db3 ([.slice (hd (some z.a1)) z.ls.length z.c1, .map (some z.mb), .bool z.off, VI z.armed, VI z.part, VI z.way, .slice (hd z.fa) z.fl.length z.fc, VI z.writes, VI z.lives]) 86, .own (some z.a1) z.ls.length z.c1 ((z.ls).flatMap slE) 57 1, .obj z.mb (mobj kI z.M z.mc), .own z.fa z.fl.length z.fc ((z.fl).map V8) 5 1]) (L1 := [.blk cb46 ([.slice (hd (some zc.a1)) zc.ls.length zc.c1, .map (some zc.mb), .bool zc.off, VI zc.armed, VI zc.part, VI zc.way, .slice (hd zc.fa) zc.fl.length zc.fc, VI zc.writes, VI zc.lives]) 86, .own (some zc.a1) zc.ls.length zc.c1 ((zc.ls).flatMap slE) 57 1, .obj zc.mb (mobj kI zc.M zc.mc), .own zc.fa zc.fl.length zc.fc ((zc.fl).map V8) 5 1, .blk sb51 ([.slice (hd yc.a1) yc.D.last.length yc.c1, .slice (hd yc.a2) yc.D.last.length yc.c2, .bool yc.D.off, VI yc.D.armed, VI yc.D.part, VI yc.D.way, .string ⟨(yc.cm).toArray⟩, VI yc.D.writes, VI yc.D.lives]) 106, .own yc.a1 yc.D.last.length yc.c1 ((yc.D.last).flatMap strD) 9 1, .own yc.a2 yc.D.last.length yc.c2 ((rwf yc.D 0).flatMap strD) 9 1]) (Lr := ([.blk rb8 ([.slice (hd y.a1) y.D.last.length y.c1, .slice (hd y.a2) y.D.last.length y.c2, .bool y.D.off, VI y.D.armed, VI y.D.part, VI y.D.way, .string ⟨(y.cm).toArray⟩, VI y.D.writes, VI y.D.lives]) 106, .own y.a1 y.D.last.length y.c1 ((y.D.last).flatMap strD) 9 1, .own y.a2 y.D.last.length y.c2 ((rwf y.D 0).flatMap strD) 9 1, .blk db3 ([.slice (hd (some z.a1)) z.ls.length z.c1, .map (some z.mb), .bool z.off, VI z.armed, VI z.part, VI z.way, .slice (hd z.fa) z.fl.length z.fc, VI z.writes, VI z.lives]) 86, .own (some z.a1) z.ls.length z.c1 ((z.ls).flatMap slE) 57 1, .obj z.mb (mobj kI z.M z.mc), .own z.fa z.fl.length z.fc ((z.fl).map V8) 5 1] : List Ch)) (T := zc.T) ((perm_front (j := 3) rfl).trans (.cons _ ((perm_front (j := 3) rfl).trans (.cons _ ((perm_front (j := 3) rfl).trans (.cons _ ((perm_front (j := 3) rfl).trans (.cons _ (.refl _))))))))))) (hop_e59.2.2.2.2.apartK (by decide) (H.newK (L := [.blk sb51 ([.slice (hd yc.a1) yc.D.last.length yc.c1, .slice (hd yc.a2) yc.D.last.length yc.c2, .bool yc.D.off, VI yc.D.armed, VI yc.D.part, VI yc.D.way, .string ⟨(yc.cm).toArray⟩, VI yc.D.writes, VI yc.D.lives]) 106, .own yc.a1 yc.D.last.length yc.c1 ((yc.D.last).flatMap strD) 9 1, .own yc.a2 yc.D.last.length yc.c2 ((rwf yc.D 0).flatMap strD) 9 1, .blk cb46 ([.slice (hd (some zc.a1)) zc.ls.length zc.c1, .map (some zc.mb), .bool zc.off, VI zc.armed, VI zc.part, VI zc.way, .slice (hd zc.fa) zc.fl.length zc.fc, VI zc.writes, VI zc.lives]) 86, .own (some zc.a1) zc.ls.length zc.c1 ((zc.ls).flatMap slE) 57 1, .obj zc.mb (mobj kI zc.M zc.mc), .own zc.fa zc.fl.length zc.fc ((zc.fl).map V8) 5 1, .blk rb8 ([.slice (hd y.a1) y.D.last.length y.c1, .slice (hd y.a2) y.D.last.length y.c2, .bool y.D.off, VI y.D.armed, VI y.D.part, VI y.D.way, .string ⟨(y.cm).toArray⟩, VI y.D.writes, VI y.D.lives]) 106, .own y.a1 y.D.last.length y.c1 ((y.D.last).flatMap strD) 9 1, .own y.a2 y.D.last.length y.c2 ((rwf y.D 0).flatMap strD) 9 1, .blk db3 ([.slice (hd (some z.a1)) z.ls.length z.c1, .map (some z.mb), .bool z.off, VI z.armed, VI z.part, VI z.way, .slice (hd z.fa) z.fl.length z.fc, VI z.writes, VI z.lives]) 86, .own (some z.a1) z.ls.length z.c1 ((z.ls).flatMap slE) 57 1, .obj z.mb (mobj kI z.M z.mc), .own z.fa z.fl.length z.fc ((z.fl).map V8) 5 1]) (L1 := [.blk cb46 ([.slice (hd (some zc.a1)) zc.ls.length zc.c1, .map (some zc.mb), .bool zc.off, VI zc.armed, VI zc.part, VI zc.way, .slice (hd zc.fa) zc.fl.length zc.fc, VI zc.writes, VI zc.lives]) 86, .own (some zc.a1) zc.ls.length zc.c1 ((zc.ls).flatMap slE) 57 1, .obj zc.mb (mobj kI zc.M zc.mc), .own zc.fa zc.fl.length zc.fc ((zc.fl).map V8) 5 1, .blk sb51 ([.slice (hd yc.a1) yc.D.last.length yc.c1, .slice (hd yc.a2) yc.D.last.length yc.c2, .bool yc.D.off, VI yc.D.armed, VI yc.D.part, VI yc.D.way, .string ⟨(yc.cm).toArray⟩, VI yc.D.writes, VI yc.D.lives]) 106, .own yc.a1 yc.D.last.length yc.c1 ((yc.D.last).flatMap strD) 9 1, .own yc.a2 yc.D.last.length yc.c2 ((rwf yc.D 0).flatMap strD) 9 1]) (Lr := ([.blk rb8 ([.slice (hd y.a1) y.D.last.length y.c1, .slice (hd y.a2) y.D.last.length y.c2, .bool y.D.off, VI y.D.armed, VI y.D.part, VI y.D.way, .string ⟨(y.cm).toArray⟩, VI y.D.writes, VI y.D.lives]) 106, .own y.a1 y.D.last.length y.c1 ((y.D.last).flatMap strD) 9 1, .own y.a2 y.D.last.length y.c2 ((rwf y.D 0).flatMap strD) 9 1, .blk db3 ([.slice (hd (some z.a1)) z.ls.length z.c1, .map (some z.mb), .bool z.off, VI z.armed, VI z.part, VI z.way, .slice (hd z.fa) z.fl.length z.fc, VI z.writes, VI z.lives]) 86, .own (some z.a1) z.ls.length z.c1 ((z.ls).flatMap slE) 57 1, .obj z.mb (mobj kI z.M z.mc), .own z.fa z.fl.length z.fc ((z.fl).map V8) 5 1] : List Ch)) (T := zc.T) ((perm_front (j := 3) rfl).trans (.cons _ ((perm_front (j := 3) rfl).trans (.cons _ ((perm_front (j := 3) rfl).trans (.cons _ ((perm_front (j := 3) rfl).trans (.cons _ (.refl _))))))))))) (by omega) ⟨by omega, by omega⟩ ⟨by omega, by omega⟩) ?_)
       rintro _ w ⟨rfl, z62, y63, hzo64, hyo65, hrl66, hww67, hll68, hzt69, Hc⟩
       replace H := H.callT (L1' := [.blk cb46 ([.slice (hd (some z62.a1)) z62.ls.length z62.c1, .map (some z62.mb), .bool z62.off, VI z62.armed, VI z62.part, VI z62.way, .slice (hd z62.fa) z62.fl.length z62.fc, VI z62.writes, VI z62.lives]) 86, .own (some z62.a1) z62.ls.length z62.c1 ((z62.ls).flatMap slE) 57 1, .obj z62.mb (mobj kI z62.M z62.mc), .own z62.fa z62.fl.length z62.fc ((z62.fl).map V8) 5 1, .blk sb51 ([.slice (hd y63.a1) y63.D.last.length y63.c1, .slice (hd y63.a2) y63.D.last.length y63.c2, .bool y63.D.off, VI y63.D.armed, VI y63.D.part, VI y63.D.way, .string ⟨(y63.cm).toArray⟩, VI y63.D.writes, VI y63.D.lives]) 106, .own y63.a1 y63.D.last.length y63.c1 ((y63.D.last).flatMap strD) 9 1, .own y63.a2 y63.D.last.length y63.c2 ((rwf y63.D 0).flatMap strD) 9 1]) (T' := z62.T) (L := [.blk sb51 ([.slice (hd yc.a1) yc.D.last.length yc.c1, .slice (hd yc.a2) yc.D.last.length yc.c2, .bool yc.D.off, VI yc.D.armed, VI yc.D.part, VI yc.D.way, .string ⟨(yc.cm).toArray⟩, VI yc.D.writes, VI yc.D.lives]) 106, .own yc.a1 yc.D.last.length yc.c1 ((yc.D.last).flatMap strD) 9 1, .own yc.a2 yc.D.last.length yc.c2 ((rwf yc.D 0).flatMap strD) 9 1, .blk cb46 ([.slice (hd (some zc.a1)) zc.ls.length zc.c1, .map (some zc.mb), .bool zc.off, VI zc.armed, VI zc.part, VI zc.way, .slice (hd zc.fa) zc.fl.length zc.fc, VI zc.writes, VI zc.lives]) 86, .own (some zc.a1) zc.ls.length zc.c1 ((zc.ls).flatMap slE) 57 1, .obj zc.mb (mobj kI zc.M zc.mc), .own zc.fa zc.fl.length zc.fc ((zc.fl).map V8) 5 1, .blk rb8 ([.slice (hd y.a1) y.D.last.length y.c1, .slice (hd y.a2) y.D.last.length y.c2, .bool y.D.off, VI y.D.armed, VI y.D.part, VI y.D.way, .string ⟨(y.cm).toArray⟩, VI y.D.writes, VI y.D.lives]) 106, .own y.a1 y.D.last.length y.c1 ((y.D.last).flatMap strD) 9 1, .own y.a2 y.D.last.length y.c2 ((rwf y.D 0).flatMap strD) 9 1, .blk db3 ([.slice (hd (some z.a1)) z.ls.length z.c1, .map (some z.mb), .bool z.off, VI z.armed, VI z.part, VI z.way, .slice (hd z.fa) z.fl.length z.fc, VI z.writes, VI z.lives]) 86, .own (some z.a1) z.ls.length z.c1 ((z.ls).flatMap slE) 57 1, .obj z.mb (mobj kI z.M z.mc), .own z.fa z.fl.length z.fc ((z.fl).map V8) 5 1]) (L1 := [.blk cb46 ([.slice (hd (some zc.a1)) zc.ls.length zc.c1, .map (some zc.mb), .bool zc.off, VI zc.armed, VI zc.part, VI zc.way, .slice (hd zc.fa) zc.fl.length zc.fc, VI zc.writes, VI zc.lives]) 86, .own (some zc.a1) zc.ls.length zc.c1 ((zc.ls).flatMap slE) 57 1, .obj zc.mb (mobj kI zc.M zc.mc), .own zc.fa zc.fl.length zc.fc ((zc.fl).map V8) 5 1, .blk sb51 ([.slice (hd yc.a1) yc.D.last.length yc.c1, .slice (hd yc.a2) yc.D.last.length yc.c2, .bool yc.D.off, VI yc.D.armed, VI yc.D.part, VI yc.D.way, .string ⟨(yc.cm).toArray⟩, VI yc.D.writes, VI yc.D.lives]) 106, .own yc.a1 yc.D.last.length yc.c1 ((yc.D.last).flatMap strD) 9 1, .own yc.a2 yc.D.last.length yc.c2 ((rwf yc.D 0).flatMap strD) 9 1]) (Lr := ([.blk rb8 ([.slice (hd y.a1) y.D.last.length y.c1, .slice (hd y.a2) y.D.last.length y.c2, .bool y.D.off, VI y.D.armed, VI y.D.part, VI y.D.way, .string ⟨(y.cm).toArray⟩, VI y.D.writes, VI y.D.lives]) 106, .own y.a1 y.D.last.length y.c1 ((y.D.last).flatMap strD) 9 1, .own y.a2 y.D.last.length y.c2 ((rwf y.D 0).flatMap strD) 9 1, .blk db3 ([.slice (hd (some z.a1)) z.ls.length z.c1, .map (some z.mb), .bool z.off, VI z.armed, VI z.part, VI z.way, .slice (hd z.fa) z.fl.length z.fc, VI z.writes, VI z.lives]) 86, .own (some z.a1) z.ls.length z.c1 ((z.ls).flatMap slE) 57 1, .obj z.mb (mobj kI z.M z.mc), .own z.fa z.fl.length z.fc ((z.fl).map V8) 5 1] : List Ch)) (T := zc.T) ((perm_front (j := 3) rfl).trans (.cons _ ((perm_front (j := 3) rfl).trans (.cons _ ((perm_front (j := 3) rfl).trans (.cons _ ((perm_front (j := 3) rfl).trans (.cons _ (.refl _))))))))) Hc ((perm_front (j := 11) rfl).trans (.cons _ ((perm_front (j := 11) rfl).trans (.cons _ ((perm_front (j := 11) rfl).trans (.cons _ ((perm_front (j := 7) rfl).trans (.cons _ ((perm_front (j := 7) rfl).trans (.cons _ ((perm_front (j := 7) rfl).trans (.cons _ ((perm_front (j := 7) rfl).trans (.cons _ (.refl _)))))))))))))))
       clear Hc
       replace H : Hp _ w _ (Ch.blk sb51 ([.slice (hd y63.a1) y63.D.last.length y63.c1, .slice (hd y63.a2) y63.D.last.length y63.c2, .bool y63.D.off, VI y63.D.armed, VI y63.D.part, VI y63.D.way, .string ⟨(y63.cm).toArray⟩, VI y63.D.writes, VI y63.D.lives]) 106 :: Ch.own y63.a1 y63.D.last.length y63.c1 ((y63.D.last).flatMap strD) 9 1 :: Ch.own y63.a2 y63.D.last.length y63.c2 ((rwf y63.D 0).flatMap strD) 9 1 :: Ch.blk cb46 ([.slice (hd (some z62.a1)) z62.ls.length z62.c1, .map (some z62.mb), .bool z62.off, VI z62.armed, VI z62.part, VI z62.way, .slice (hd z62.fa) z62.fl.length z62.fc, VI z62.writes, VI z62.lives]) 86 :: Ch.own (some z62.a1) z62.ls.length z62.c1 ((z62.ls).flatMap slE) 57 1 :: Ch.obj z62.mb (mobj kI z62.M z62.mc) :: Ch.own z62.fa z62.fl.length z62.fc ((z62.fl).map V8) 5 1 :: Ch.blk rb8 ([.slice (hd y.a1) y.D.last.length y.c1, .slice (hd y.a2) y.D.last.length y.c2, .bool y.D.off, VI y.D.armed, VI y.D.part, VI y.D.way, .string ⟨(y.cm).toArray⟩, VI y.D.writes, VI y.D.lives]) 106 :: Ch.own y.a1 y.D.last.length y.c1 ((y.D.last).flatMap strD) 9 1 :: Ch.own y.a2 y.D.last.length y.c2 ((rwf y.D 0).flatMap strD) 9 1 :: Ch.blk db3 ([.slice (hd (some z.a1)) z.ls.length z.c1, .map (some z.mb), .bool z.off, VI z.armed, VI z.part, VI z.way, .slice (hd z.fa) z.fl.length z.fc, VI z.writes, VI z.lives]) 86 :: Ch.own (some z.a1) z.ls.length z.c1 ((z.ls).flatMap slE) 57 1 :: Ch.obj z.mb (mobj kI z.M z.mc) :: Ch.own z.fa z.fl.length z.fc ((z.fl).map V8) 5 1 :: z62.T) := H
       refine l_op (o_val (r_not rfl) ?_)
       first | refine l_end ?_ | refine l_nil ?_
       repeat refine c_seq ?_
       refine c_no rfl ?_
       refine c_skip ?_
       repeat refine c_seq ?_
       refine c_region ?_
       refine l_op (o_val (r_mv) ?_)
       refine l_op (o_val (r_bin (a := (i3 : Int)) (b := 1) rfl rfl (fun _ => b_add (by omega) (by omega))) ?_)
       refine l_op (o_val (r_as) ?_)
       first | refine l_end ?_ | refine l_nil ?_
       refine round_end (i3 + 1, z62, y63) ?_ ?_ ?_
       · exact ⟨rfl, rfl, rfl, rfl, rfl, show VI ((i3 : Int) + 1) = VI ((i3 + 1 : Nat) : Int) from congrArg VI (by omega), trivial⟩
       · refine ⟨?_, ?_⟩
         · try dsimp only
           exact ⟨by omega, hzo64, hyo65, hrl66, by omega, by omega, fun c hc => hzt69 c (hT1 c hc)⟩
         · exact H.sub (.cons_cons _ (.cons_cons _ (.cons_cons _ (.cons_cons _ (.cons_cons _ (.cons_cons _ (.cons_cons _ (.cons_cons _ (.cons_cons _ (.cons_cons _ (.cons_cons _ (.cons_cons _ (.cons_cons _ (.cons_cons _ (List.Sublist.refl _)))))))))))))))
       · show gb.len - (i3 + 1 : Nat) < gb.len - i3; omega
      ·
       repeat refine c_seq ?_
       refine c_no (by exact congrArg Value.bool (decide_eq_false hc55)) ?_
       refine c_exit ?_
       have hzT : DW.ok { z with T := zc.T } := hz.moreT hT1
       repeat refine c_seq ?_
       refine c_region ?_
       refine l_op (o_val (r_mv) ?_)
       refine l_op (o_val (r_mv) ?_)
       refine l_op (o_callR Try.func40 rfl rfl rfl (same5_ret _ cb46 sb51 zc yc (H.ownT (L := [.blk sb51 ([.slice (hd yc.a1) yc.D.last.length yc.c1, .slice (hd yc.a2) yc.D.last.length yc.c2, .bool yc.D.off, VI yc.D.armed, VI yc.D.part, VI yc.D.way, .string ⟨(yc.cm).toArray⟩, VI yc.D.writes, VI yc.D.lives]) 106, .own yc.a1 yc.D.last.length yc.c1 ((yc.D.last).flatMap strD) 9 1, .own yc.a2 yc.D.last.length yc.c2 ((rwf yc.D 0).flatMap strD) 9 1, .blk cb46 ([.slice (hd (some zc.a1)) zc.ls.length zc.c1, .map (some zc.mb), .bool zc.off, VI zc.armed, VI zc.part, VI zc.way, .slice (hd zc.fa) zc.fl.length zc.fc, VI zc.writes, VI zc.lives]) 86, .own (some zc.a1) zc.ls.length zc.c1 ((zc.ls).flatMap slE) 57 1, .obj zc.mb (mobj kI zc.M zc.mc), .own zc.fa zc.fl.length zc.fc ((zc.fl).map V8) 5 1, .blk rb8 ([.slice (hd y.a1) y.D.last.length y.c1, .slice (hd y.a2) y.D.last.length y.c2, .bool y.D.off, VI y.D.armed, VI y.D.part, VI y.D.way, .string ⟨(y.cm).toArray⟩, VI y.D.writes, VI y.D.lives]) 106, .own y.a1 y.D.last.length y.c1 ((y.D.last).flatMap strD) 9 1, .own y.a2 y.D.last.length y.c2 ((rwf y.D 0).flatMap strD) 9 1, .blk db3 ([.slice (hd (some z.a1)) z.ls.length z.c1, .map (some z.mb), .bool z.off, VI z.armed, VI z.part, VI z.way, .slice (hd z.fa) z.fl.length z.fc, VI z.writes, VI z.lives]) 86, .own (some z.a1) z.ls.length z.c1 ((z.ls).flatMap slE) 57 1, .obj z.mb (mobj kI z.M z.mc), .own z.fa z.fl.length z.fc ((z.fl).map V8) 5 1]) (L1 := [.blk cb46 ([.slice (hd (some zc.a1)) zc.ls.length zc.c1, .map (some zc.mb), .bool zc.off, VI zc.armed, VI zc.part, VI zc.way, .slice (hd zc.fa) zc.fl.length zc.fc, VI zc.writes, VI zc.lives]) 86, .own (some zc.a1) zc.ls.length zc.c1 ((zc.ls).flatMap slE) 57 1, .obj zc.mb (mobj kI zc.M zc.mc), .own zc.fa zc.fl.length zc.fc ((zc.fl).map V8) 5 1, .blk sb51 ([.slice (hd yc.a1) yc.D.last.length yc.c1, .slice (hd yc.a2) yc.D.last.length yc.c2, .bool yc.D.off, VI yc.D.armed, VI yc.D.part, VI yc.D.way, .string ⟨(yc.cm).toArray⟩, VI yc.D.writes, VI yc.D.lives]) 106, .own yc.a1 yc.D.last.length yc.c1 ((yc.D.last).flatMap strD) 9 1, .own yc.a2 yc.D.last.length yc.c2 ((rwf yc.D 0).flatMap strD) 9 1]) (Lr := ([.blk rb8 ([.slice (hd y.a1) y.D.last.length y.c1, .slice (hd y.a2) y.D.last.length y.c2, .bool y.D.off, VI y.D.armed, VI y.D.part, VI y.D.way, .string ⟨(y.cm).toArray⟩, VI y.D.writes, VI y.D.lives]) 106, .own y.a1 y.D.last.length y.c1 ((y.D.last).flatMap strD) 9 1, .own y.a2 y.D.last.length y.c2 ((rwf y.D 0).flatMap strD) 9 1, .blk db3 ([.slice (hd (some z.a1)) z.ls.length z.c1, .map (some z.mb), .bool z.off, VI z.armed, VI z.part, VI z.way, .slice (hd z.fa) z.fl.length z.fc, VI z.writes, VI z.lives]) 86, .own (some z.a1) z.ls.length z.c1 ((z.ls).flatMap slE) 57 1, .obj z.mb (mobj kI z.M z.mc), .own z.fa z.fl.length z.fc ((z.fl).map V8) 5 1] : List Ch)) (T := zc.T) ((perm_front (j := 3) rfl).trans (.cons _ ((perm_front (j := 3) rfl).trans (.cons _ ((perm_front (j := 3) rfl).trans (.cons _ ((perm_front (j := 3) rfl).trans (.cons _ (.refl _)))))))))) hzc hyc hrc2) ?_)
       rintro _ w ⟨rfl, Hc⟩
       replace H := H.callT (L1' := [.blk cb46 ([.slice (hd (some zc.a1)) zc.ls.length zc.c1, .map (some zc.mb), .bool zc.off, VI zc.armed, VI zc.part, VI zc.way, .slice (hd zc.fa) zc.fl.length zc.fc, VI zc.writes, VI zc.lives]) 86, .own (some zc.a1) zc.ls.length zc.c1 ((zc.ls).flatMap slE) 57 1, .obj zc.mb (mobj kI zc.M zc.mc), .own zc.fa zc.fl.length zc.fc ((zc.fl).map V8) 5 1, .blk sb51 ([.slice (hd yc.a1) yc.D.last.length yc.c1, .slice (hd yc.a2) yc.D.last.length yc.c2, .bool yc.D.off, VI yc.D.armed, VI yc.D.part, VI yc.D.way, .string ⟨(yc.cm).toArray⟩, VI yc.D.writes, VI yc.D.lives]) 106, .own yc.a1 yc.D.last.length yc.c1 ((yc.D.last).flatMap strD) 9 1, .own yc.a2 yc.D.last.length yc.c2 ((rwf yc.D 0).flatMap strD) 9 1]) (T' := zc.T) (L := [.blk sb51 ([.slice (hd yc.a1) yc.D.last.length yc.c1, .slice (hd yc.a2) yc.D.last.length yc.c2, .bool yc.D.off, VI yc.D.armed, VI yc.D.part, VI yc.D.way, .string ⟨(yc.cm).toArray⟩, VI yc.D.writes, VI yc.D.lives]) 106, .own yc.a1 yc.D.last.length yc.c1 ((yc.D.last).flatMap strD) 9 1, .own yc.a2 yc.D.last.length yc.c2 ((rwf yc.D 0).flatMap strD) 9 1, .blk cb46 ([.slice (hd (some zc.a1)) zc.ls.length zc.c1, .map (some zc.mb), .bool zc.off, VI zc.armed, VI zc.part, VI zc.way, .slice (hd zc.fa) zc.fl.length zc.fc, VI zc.writes, VI zc.lives]) 86, .own (some zc.a1) zc.ls.length zc.c1 ((zc.ls).flatMap slE) 57 1, .obj zc.mb (mobj kI zc.M zc.mc), .own zc.fa zc.fl.length zc.fc ((zc.fl).map V8) 5 1, .blk rb8 ([.slice (hd y.a1) y.D.last.length y.c1, .slice (hd y.a2) y.D.last.length y.c2, .bool y.D.off, VI y.D.armed, VI y.D.part, VI y.D.way, .string ⟨(y.cm).toArray⟩, VI y.D.writes, VI y.D.lives]) 106, .own y.a1 y.D.last.length y.c1 ((y.D.last).flatMap strD) 9 1, .own y.a2 y.D.last.length y.c2 ((rwf y.D 0).flatMap strD) 9 1, .blk db3 ([.slice (hd (some z.a1)) z.ls.length z.c1, .map (some z.mb), .bool z.off, VI z.armed, VI z.part, VI z.way, .slice (hd z.fa) z.fl.length z.fc, VI z.writes, VI z.lives]) 86, .own (some z.a1) z.ls.length z.c1 ((z.ls).flatMap slE) 57 1, .obj z.mb (mobj kI z.M z.mc), .own z.fa z.fl.length z.fc ((z.fl).map V8) 5 1]) (L1 := [.blk cb46 ([.slice (hd (some zc.a1)) zc.ls.length zc.c1, .map (some zc.mb), .bool zc.off, VI zc.armed, VI zc.part, VI zc.way, .slice (hd zc.fa) zc.fl.length zc.fc, VI zc.writes, VI zc.lives]) 86, .own (some zc.a1) zc.ls.length zc.c1 ((zc.ls).flatMap slE) 57 1, .obj zc.mb (mobj kI zc.M zc.mc), .own zc.fa zc.fl.length zc.fc ((zc.fl).map V8) 5 1, .blk sb51 ([.slice (hd yc.a1) yc.D.last.length yc.c1, .slice (hd yc.a2) yc.D.last.length yc.c2, .bool yc.D.off, VI yc.D.armed, VI yc.D.part, VI yc.D.way, .string ⟨(yc.cm).toArray⟩, VI yc.D.writes, VI yc.D.lives]) 106, .own yc.a1 yc.D.last.length yc.c1 ((yc.D.last).flatMap strD) 9 1, .own yc.a2 yc.D.last.length yc.c2 ((rwf yc.D 0).flatMap strD) 9 1]) (Lr := ([.blk rb8 ([.slice (hd y.a1) y.D.last.length y.c1, .slice (hd y.a2) y.D.last.length y.c2, .bool y.D.off, VI y.D.armed, VI y.D.part, VI y.D.way, .string ⟨(y.cm).toArray⟩, VI y.D.writes, VI y.D.lives]) 106, .own y.a1 y.D.last.length y.c1 ((y.D.last).flatMap strD) 9 1, .own y.a2 y.D.last.length y.c2 ((rwf y.D 0).flatMap strD) 9 1, .blk db3 ([.slice (hd (some z.a1)) z.ls.length z.c1, .map (some z.mb), .bool z.off, VI z.armed, VI z.part, VI z.way, .slice (hd z.fa) z.fl.length z.fc, VI z.writes, VI z.lives]) 86, .own (some z.a1) z.ls.length z.c1 ((z.ls).flatMap slE) 57 1, .obj z.mb (mobj kI z.M z.mc), .own z.fa z.fl.length z.fc ((z.fl).map V8) 5 1] : List Ch)) (T := zc.T) ((perm_front (j := 3) rfl).trans (.cons _ ((perm_front (j := 3) rfl).trans (.cons _ ((perm_front (j := 3) rfl).trans (.cons _ ((perm_front (j := 3) rfl).trans (.cons _ (.refl _))))))))) Hc ((perm_front (j := 11) rfl).trans (.cons _ ((perm_front (j := 11) rfl).trans (.cons _ ((perm_front (j := 11) rfl).trans (.cons _ ((perm_front (j := 7) rfl).trans (.cons _ ((perm_front (j := 7) rfl).trans (.cons _ ((perm_front (j := 7) rfl).trans (.cons _ ((perm_front (j := 7) rfl).trans (.cons _ (.refl _)))))))))))))))
       clear Hc
       replace H : Hp _ w _ (Ch.blk sb51 ([.slice (hd yc.a1) yc.D.last.length yc.c1, .slice (hd yc.a2) yc.D.last.length yc.c2, .bool yc.D.off, VI yc.D.armed, VI yc.D.part, VI yc.D.way, .string ⟨(yc.cm).toArray⟩, VI yc.D.writes, VI yc.D.lives]) 106 :: Ch.own yc.a1 yc.D.last.length yc.c1 ((yc.D.last).flatMap strD) 9 1 :: Ch.own yc.a2 yc.D.last.length yc.c2 ((rwf yc.D 0).flatMap strD) 9 1 :: Ch.blk cb46 ([.slice (hd (some zc.a1)) zc.ls.length zc.c1, .map (some zc.mb), .bool zc.off, VI zc.armed, VI zc.part, VI zc.way, .slice (hd zc.fa) zc.fl.length zc.fc, VI zc.writes, VI zc.lives]) 86 :: Ch.own (some zc.a1) zc.ls.length zc.c1 ((zc.ls).flatMap slE) 57 1 :: Ch.obj zc.mb (mobj kI zc.M zc.mc) :: Ch.own zc.fa zc.fl.length zc.fc ((zc.fl).map V8) 5 1 :: Ch.blk rb8 ([.slice (hd y.a1) y.D.last.length y.c1, .slice (hd y.a2) y.D.last.length y.c2, .bool y.D.off, VI y.D.armed, VI y.D.part, VI y.D.way, .string ⟨(y.cm).toArray⟩, VI y.D.writes, VI y.D.lives]) 106 :: Ch.own y.a1 y.D.last.length y.c1 ((y.D.last).flatMap strD) 9 1 :: Ch.own y.a2 y.D.last.length y.c2 ((rwf y.D 0).flatMap strD) 9 1 :: Ch.blk db3 ([.slice (hd (some z.a1)) z.ls.length z.c1, .map (some z.mb), .bool z.off, VI z.armed, VI z.part, VI z.way, .slice (hd z.fa) z.fl.length z.fc, VI z.writes, VI z.lives]) 86 :: Ch.own (some z.a1) z.ls.length z.c1 ((z.ls).flatMap slE) 57 1 :: Ch.obj z.mb (mobj kI z.M z.mc) :: Ch.own z.fa z.fl.length z.fc ((z.fl).map V8) 5 1 :: zc.T) := H
       refine l_op (o_val (r_mv) ?_)
       refine l_yes rfl rfl rfl (o_val (r_mv) ?_)
       refine l_yes rfl rfl rfl (o_val (r_mv) ?_)
       refine l_yes rfl rfl rfl (o_callR Try.func40 rfl rfl rfl (same5_ret _ db3 rb8 { z with T := zc.T } y (H.ownT (L := [.blk sb51 ([.slice (hd yc.a1) yc.D.last.length yc.c1, .slice (hd yc.a2) yc.D.last.length yc.c2, .bool yc.D.off, VI yc.D.armed, VI yc.D.part, VI yc.D.way, .string ⟨(yc.cm).toArray⟩, VI yc.D.writes, VI yc.D.lives]) 106, .own yc.a1 yc.D.last.length yc.c1 ((yc.D.last).flatMap strD) 9 1, .own yc.a2 yc.D.last.length yc.c2 ((rwf yc.D 0).flatMap strD) 9 1, .blk cb46 ([.slice (hd (some zc.a1)) zc.ls.length zc.c1, .map (some zc.mb), .bool zc.off, VI zc.armed, VI zc.part, VI zc.way, .slice (hd zc.fa) zc.fl.length zc.fc, VI zc.writes, VI zc.lives]) 86, .own (some zc.a1) zc.ls.length zc.c1 ((zc.ls).flatMap slE) 57 1, .obj zc.mb (mobj kI zc.M zc.mc), .own zc.fa zc.fl.length zc.fc ((zc.fl).map V8) 5 1, .blk rb8 ([.slice (hd y.a1) y.D.last.length y.c1, .slice (hd y.a2) y.D.last.length y.c2, .bool y.D.off, VI y.D.armed, VI y.D.part, VI y.D.way, .string ⟨(y.cm).toArray⟩, VI y.D.writes, VI y.D.lives]) 106, .own y.a1 y.D.last.length y.c1 ((y.D.last).flatMap strD) 9 1, .own y.a2 y.D.last.length y.c2 ((rwf y.D 0).flatMap strD) 9 1, .blk db3 ([.slice (hd (some z.a1)) z.ls.length z.c1, .map (some z.mb), .bool z.off, VI z.armed, VI z.part, VI z.way, .slice (hd z.fa) z.fl.length z.fc, VI z.writes, VI z.lives]) 86, .own (some z.a1) z.ls.length z.c1 ((z.ls).flatMap slE) 57 1, .obj z.mb (mobj kI z.M z.mc), .own z.fa z.fl.length z.fc ((z.fl).map V8) 5 1]) (L1 := [.blk db3 ([.slice (hd (some z.a1)) z.ls.length z.c1, .map (some z.mb), .bool z.off, VI z.armed, VI z.part, VI z.way, .slice (hd z.fa) z.fl.length z.fc, VI z.writes, VI z.lives]) 86, .own (some z.a1) z.ls.length z.c1 ((z.ls).flatMap slE) 57 1, .obj z.mb (mobj kI z.M z.mc), .own z.fa z.fl.length z.fc ((z.fl).map V8) 5 1, .blk rb8 ([.slice (hd y.a1) y.D.last.length y.c1, .slice (hd y.a2) y.D.last.length y.c2, .bool y.D.off, VI y.D.armed, VI y.D.part, VI y.D.way, .string ⟨(y.cm).toArray⟩, VI y.D.writes, VI y.D.lives]) 106, .own y.a1 y.D.last.length y.c1 ((y.D.last).flatMap strD) 9 1, .own y.a2 y.D.last.length y.c2 ((rwf y.D 0).flatMap strD) 9 1]) (Lr := ([.blk sb51 ([.slice (hd yc.a1) yc.D.last.length yc.c1, .slice (hd yc.a2) yc.D.last.length yc.c2, .bool yc.D.off, VI yc.D.armed, VI yc.D.part, VI yc.D.way, .string ⟨(yc.cm).toArray⟩, VI yc.D.writes, VI yc.D.lives]) 106, .own yc.a1 yc.D.last.length yc.c1 ((yc.D.last).flatMap strD) 9 1, .own yc.a2 yc.D.last.length yc.c2 ((rwf yc.D 0).flatMap strD) 9 1, .blk cb46 ([.slice (hd (some zc.a1)) zc.ls.length zc.c1, .map (some zc.mb), .bool zc.off, VI zc.armed, VI zc.part, VI zc.way, .slice (hd zc.fa) zc.fl.length zc.fc, VI zc.writes, VI zc.lives]) 86, .own (some zc.a1) zc.ls.length zc.c1 ((zc.ls).flatMap slE) 57 1, .obj zc.mb (mobj kI zc.M zc.mc), .own zc.fa zc.fl.length zc.fc ((zc.fl).map V8) 5 1] : List Ch)) (T := zc.T) ((perm_front (j := 10) rfl).trans (.cons _ ((perm_front (j := 10) rfl).trans (.cons _ ((perm_front (j := 10) rfl).trans (.cons _ ((perm_front (j := 10) rfl).trans (.cons _ ((perm_front (j := 7) rfl).trans (.cons _ ((perm_front (j := 7) rfl).trans (.cons _ ((perm_front (j := 7) rfl).trans (.cons _ (.refl _)))))))))))))))) hzT hy hr) ?_)
       rintro _ w ⟨rfl, Hc⟩
       replace H := H.callT (L1' := [.blk db3 ([.slice (hd (some z.a1)) z.ls.length z.c1, .map (some z.mb), .bool z.off, VI z.armed, VI z.part, VI z.way, .slice (hd z.fa) z.fl.length z.fc, VI z.writes, VI z.lives]) 86, .own (some z.a1) z.ls.length z.c1 ((z.ls).flatMap slE) 57 1, .obj z.mb (mobj kI z.M z.mc), .own z.fa z.fl.length z.fc ((z.fl).map V8) 5 1, .blk rb8 ([.slice (hd y.a1) y.D.last.length y.c1, .slice (hd y.a2) y.D.last.length y.c2, .bool y.D.off, VI y.D.armed, VI y.D.part, VI y.D.way, .string ⟨(y.cm).toArray⟩, VI y.D.writes, VI y.D.lives]) 106, .own y.a1 y.D.last.length y.c1 ((y.D.last).flatMap strD) 9 1, .own y.a2 y.D.last.length y.c2 ((rwf y.D 0).flatMap strD) 9 1]) (T' := zc.T) (L := [.blk sb51 ([.slice (hd yc.a1) yc.D.last.length yc.c1, .slice (hd yc.a2) yc.D.last.length yc.c2, .bool yc.D.off, VI yc.D.armed, VI yc.D.part, VI yc.D.way, .string ⟨(yc.cm).toArray⟩, VI yc.D.writes, VI yc.D.lives]) 106, .own yc.a1 yc.D.last.length yc.c1 ((yc.D.last).flatMap strD) 9 1, .own yc.a2 yc.D.last.length yc.c2 ((rwf yc.D 0).flatMap strD) 9 1, .blk cb46 ([.slice (hd (some zc.a1)) zc.ls.length zc.c1, .map (some zc.mb), .bool zc.off, VI zc.armed, VI zc.part, VI zc.way, .slice (hd zc.fa) zc.fl.length zc.fc, VI zc.writes, VI zc.lives]) 86, .own (some zc.a1) zc.ls.length zc.c1 ((zc.ls).flatMap slE) 57 1, .obj zc.mb (mobj kI zc.M zc.mc), .own zc.fa zc.fl.length zc.fc ((zc.fl).map V8) 5 1, .blk rb8 ([.slice (hd y.a1) y.D.last.length y.c1, .slice (hd y.a2) y.D.last.length y.c2, .bool y.D.off, VI y.D.armed, VI y.D.part, VI y.D.way, .string ⟨(y.cm).toArray⟩, VI y.D.writes, VI y.D.lives]) 106, .own y.a1 y.D.last.length y.c1 ((y.D.last).flatMap strD) 9 1, .own y.a2 y.D.last.length y.c2 ((rwf y.D 0).flatMap strD) 9 1, .blk db3 ([.slice (hd (some z.a1)) z.ls.length z.c1, .map (some z.mb), .bool z.off, VI z.armed, VI z.part, VI z.way, .slice (hd z.fa) z.fl.length z.fc, VI z.writes, VI z.lives]) 86, .own (some z.a1) z.ls.length z.c1 ((z.ls).flatMap slE) 57 1, .obj z.mb (mobj kI z.M z.mc), .own z.fa z.fl.length z.fc ((z.fl).map V8) 5 1]) (L1 := [.blk db3 ([.slice (hd (some z.a1)) z.ls.length z.c1, .map (some z.mb), .bool z.off, VI z.armed, VI z.part, VI z.way, .slice (hd z.fa) z.fl.length z.fc, VI z.writes, VI z.lives]) 86, .own (some z.a1) z.ls.length z.c1 ((z.ls).flatMap slE) 57 1, .obj z.mb (mobj kI z.M z.mc), .own z.fa z.fl.length z.fc ((z.fl).map V8) 5 1, .blk rb8 ([.slice (hd y.a1) y.D.last.length y.c1, .slice (hd y.a2) y.D.last.length y.c2, .bool y.D.off, VI y.D.armed, VI y.D.part, VI y.D.way, .string ⟨(y.cm).toArray⟩, VI y.D.writes, VI y.D.lives]) 106, .own y.a1 y.D.last.length y.c1 ((y.D.last).flatMap strD) 9 1, .own y.a2 y.D.last.length y.c2 ((rwf y.D 0).flatMap strD) 9 1]) (Lr := ([.blk sb51 ([.slice (hd yc.a1) yc.D.last.length yc.c1, .slice (hd yc.a2) yc.D.last.length yc.c2, .bool yc.D.off, VI yc.D.armed, VI yc.D.part, VI yc.D.way, .string ⟨(yc.cm).toArray⟩, VI yc.D.writes, VI yc.D.lives]) 106, .own yc.a1 yc.D.last.length yc.c1 ((yc.D.last).flatMap strD) 9 1, .own yc.a2 yc.D.last.length yc.c2 ((rwf yc.D 0).flatMap strD) 9 1, .blk cb46 ([.slice (hd (some zc.a1)) zc.ls.length zc.c1, .map (some zc.mb), .bool zc.off, VI zc.armed, VI zc.part, VI zc.way, .slice (hd zc.fa) zc.fl.length zc.fc, VI zc.writes, VI zc.lives]) 86, .own (some zc.a1) zc.ls.length zc.c1 ((zc.ls).flatMap slE) 57 1, .obj zc.mb (mobj kI zc.M zc.mc), .own zc.fa zc.fl.length zc.fc ((zc.fl).map V8) 5 1] : List Ch)) (T := zc.T) ((perm_front (j := 10) rfl).trans (.cons _ ((perm_front (j := 10) rfl).trans (.cons _ ((perm_front (j := 10) rfl).trans (.cons _ ((perm_front (j := 10) rfl).trans (.cons _ ((perm_front (j := 7) rfl).trans (.cons _ ((perm_front (j := 7) rfl).trans (.cons _ ((perm_front (j := 7) rfl).trans (.cons _ (.refl _))))))))))))))) Hc ((perm_front (j := 0) rfl).trans (.cons _ ((perm_front (j := 0) rfl).trans (.cons _ ((perm_front (j := 0) rfl).trans (.cons _ ((perm_front (j := 0) rfl).trans (.cons _ ((perm_front (j := 0) rfl).trans (.cons _ ((perm_front (j := 0) rfl).trans (.cons _ ((perm_front (j := 0) rfl).trans (.cons _ ((perm_front (j := 4) rfl).trans (.cons _ ((perm_front (j := 4) rfl).trans (.cons _ ((perm_front (j := 4) rfl).trans (.cons _ (.refl _)))))))))))))))))))))
       clear Hc
       replace H : Hp _ w _ (Ch.blk sb51 ([.slice (hd yc.a1) yc.D.last.length yc.c1, .slice (hd yc.a2) yc.D.last.length yc.c2, .bool yc.D.off, VI yc.D.armed, VI yc.D.part, VI yc.D.way, .string ⟨(yc.cm).toArray⟩, VI yc.D.writes, VI yc.D.lives]) 106 :: Ch.own yc.a1 yc.D.last.length yc.c1 ((yc.D.last).flatMap strD) 9 1 :: Ch.own yc.a2 yc.D.last.length yc.c2 ((rwf yc.D 0).flatMap strD) 9 1 :: Ch.blk cb46 ([.slice (hd (some zc.a1)) zc.ls.length zc.c1, .map (some zc.mb), .bool zc.off, VI zc.armed, VI zc.part, VI zc.way, .slice (hd zc.fa) zc.fl.length zc.fc, VI zc.writes, VI zc.lives]) 86 :: Ch.own (some zc.a1) zc.ls.length zc.c1 ((zc.ls).flatMap slE) 57 1 :: Ch.obj zc.mb (mobj kI zc.M zc.mc) :: Ch.own zc.fa zc.fl.length zc.fc ((zc.fl).map V8) 5 1 :: Ch.blk rb8 ([.slice (hd y.a1) y.D.last.length y.c1, .slice (hd y.a2) y.D.last.length y.c2, .bool y.D.off, VI y.D.armed, VI y.D.part, VI y.D.way, .string ⟨(y.cm).toArray⟩, VI y.D.writes, VI y.D.lives]) 106 :: Ch.own y.a1 y.D.last.length y.c1 ((y.D.last).flatMap strD) 9 1 :: Ch.own y.a2 y.D.last.length y.c2 ((rwf y.D 0).flatMap strD) 9 1 :: Ch.blk db3 ([.slice (hd (some z.a1)) z.ls.length z.c1, .map (some z.mb), .bool z.off, VI z.armed, VI z.part, VI z.way, .slice (hd z.fa) z.fl.length z.fc, VI z.writes, VI z.lives]) 86 :: Ch.own (some z.a1) z.ls.length z.c1 ((z.ls).flatMap slE) 57 1 :: Ch.obj z.mb (mobj kI z.M z.mc) :: Ch.own z.fa z.fl.length z.fc ((z.fl).map V8) 5 1 :: zc.T) := H
       refine l_op (o_val (r_pick rfl) ?_)
       refine l_op (o_val (r_mv) ?_)
       refine l_yes rfl rfl rfl (o_val (r_mv) ?_)
       refine l_yes rfl rfl rfl (o_val (r_mv) ?_)
       refine l_yes rfl rfl rfl (o_callR Try.func41 rfl rfl rfl (read5_ret _ cb46 sb51 zc yc (H.ownT (L := [.blk sb51 ([.slice (hd yc.a1) yc.D.last.length yc.c1, .slice (hd yc.a2) yc.D.last.length yc.c2, .bool yc.D.off, VI yc.D.armed, VI yc.D.part, VI yc.D.way, .string ⟨(yc.cm).toArray⟩, VI yc.D.writes, VI yc.D.lives]) 106, .own yc.a1 yc.D.last.length yc.c1 ((yc.D.last).flatMap strD) 9 1, .own yc.a2 yc.D.last.length yc.c2 ((rwf yc.D 0).flatMap strD) 9 1, .blk cb46 ([.slice (hd (some zc.a1)) zc.ls.length zc.c1, .map (some zc.mb), .bool zc.off, VI zc.armed, VI zc.part, VI zc.way, .slice (hd zc.fa) zc.fl.length zc.fc, VI zc.writes, VI zc.lives]) 86, .own (some zc.a1) zc.ls.length zc.c1 ((zc.ls).flatMap slE) 57 1, .obj zc.mb (mobj kI zc.M zc.mc), .own zc.fa zc.fl.length zc.fc ((zc.fl).map V8) 5 1, .blk rb8 ([.slice (hd y.a1) y.D.last.length y.c1, .slice (hd y.a2) y.D.last.length y.c2, .bool y.D.off, VI y.D.armed, VI y.D.part, VI y.D.way, .string ⟨(y.cm).toArray⟩, VI y.D.writes, VI y.D.lives]) 106, .own y.a1 y.D.last.length y.c1 ((y.D.last).flatMap strD) 9 1, .own y.a2 y.D.last.length y.c2 ((rwf y.D 0).flatMap strD) 9 1, .blk db3 ([.slice (hd (some z.a1)) z.ls.length z.c1, .map (some z.mb), .bool z.off, VI z.armed, VI z.part, VI z.way, .slice (hd z.fa) z.fl.length z.fc, VI z.writes, VI z.lives]) 86, .own (some z.a1) z.ls.length z.c1 ((z.ls).flatMap slE) 57 1, .obj z.mb (mobj kI z.M z.mc), .own z.fa z.fl.length z.fc ((z.fl).map V8) 5 1]) (L1 := [.blk cb46 ([.slice (hd (some zc.a1)) zc.ls.length zc.c1, .map (some zc.mb), .bool zc.off, VI zc.armed, VI zc.part, VI zc.way, .slice (hd zc.fa) zc.fl.length zc.fc, VI zc.writes, VI zc.lives]) 86, .own (some zc.a1) zc.ls.length zc.c1 ((zc.ls).flatMap slE) 57 1, .obj zc.mb (mobj kI zc.M zc.mc), .own zc.fa zc.fl.length zc.fc ((zc.fl).map V8) 5 1, .blk sb51 ([.slice (hd yc.a1) yc.D.last.length yc.c1, .slice (hd yc.a2) yc.D.last.length yc.c2, .bool yc.D.off, VI yc.D.armed, VI yc.D.part, VI yc.D.way, .string ⟨(yc.cm).toArray⟩, VI yc.D.writes, VI yc.D.lives]) 106, .own yc.a1 yc.D.last.length yc.c1 ((yc.D.last).flatMap strD) 9 1, .own yc.a2 yc.D.last.length yc.c2 ((rwf yc.D 0).flatMap strD) 9 1]) (Lr := ([.blk rb8 ([.slice (hd y.a1) y.D.last.length y.c1, .slice (hd y.a2) y.D.last.length y.c2, .bool y.D.off, VI y.D.armed, VI y.D.part, VI y.D.way, .string ⟨(y.cm).toArray⟩, VI y.D.writes, VI y.D.lives]) 106, .own y.a1 y.D.last.length y.c1 ((y.D.last).flatMap strD) 9 1, .own y.a2 y.D.last.length y.c2 ((rwf y.D 0).flatMap strD) 9 1, .blk db3 ([.slice (hd (some z.a1)) z.ls.length z.c1, .map (some z.mb), .bool z.off, VI z.armed, VI z.part, VI z.way, .slice (hd z.fa) z.fl.length z.fc, VI z.writes, VI z.lives]) 86, .own (some z.a1) z.ls.length z.c1 ((z.ls).flatMap slE) 57 1, .obj z.mb (mobj kI z.M z.mc), .own z.fa z.fl.length z.fc ((z.fl).map V8) 5 1] : List Ch)) (T := zc.T) ((perm_front (j := 3) rfl).trans (.cons _ ((perm_front (j := 3) rfl).trans (.cons _ ((perm_front (j := 3) rfl).trans (.cons _ ((perm_front (j := 3) rfl).trans (.cons _ (.refl _)))))))))) hzc hyc hrc2) ?_)
       rintro _ w ⟨rfl, Hc⟩
       replace H := H.callT (L1' := [.blk cb46 ([.slice (hd (some zc.a1)) zc.ls.length zc.c1, .map (some zc.mb), .bool zc.off, VI zc.armed, VI zc.part, VI zc.way, .slice (hd zc.fa) zc.fl.length zc.fc, VI zc.writes, VI zc.lives]) 86, .own (some zc.a1) zc.ls.length zc.c1 ((zc.ls).flatMap slE) 57 1, .obj zc.mb (mobj kI zc.M zc.mc), .own zc.fa zc.fl.length zc.fc ((zc.fl).map V8) 5 1, .blk sb51 ([.slice (hd yc.a1) yc.D.last.length yc.c1, .slice (hd yc.a2) yc.D.last.length yc.c2, .bool yc.D.off, VI yc.D.armed, VI yc.D.part, VI yc.D.way, .string ⟨(yc.cm).toArray⟩, VI yc.D.writes, VI yc.D.lives]) 106, .own yc.a1 yc.D.last.length yc.c1 ((yc.D.last).flatMap strD) 9 1, .own yc.a2 yc.D.last.length yc.c2 ((rwf yc.D 0).flatMap strD) 9 1]) (T' := zc.T) (L := [.blk sb51 ([.slice (hd yc.a1) yc.D.last.length yc.c1, .slice (hd yc.a2) yc.D.last.length yc.c2, .bool yc.D.off, VI yc.D.armed, VI yc.D.part, VI yc.D.way, .string ⟨(yc.cm).toArray⟩, VI yc.D.writes, VI yc.D.lives]) 106, .own yc.a1 yc.D.last.length yc.c1 ((yc.D.last).flatMap strD) 9 1, .own yc.a2 yc.D.last.length yc.c2 ((rwf yc.D 0).flatMap strD) 9 1, .blk cb46 ([.slice (hd (some zc.a1)) zc.ls.length zc.c1, .map (some zc.mb), .bool zc.off, VI zc.armed, VI zc.part, VI zc.way, .slice (hd zc.fa) zc.fl.length zc.fc, VI zc.writes, VI zc.lives]) 86, .own (some zc.a1) zc.ls.length zc.c1 ((zc.ls).flatMap slE) 57 1, .obj zc.mb (mobj kI zc.M zc.mc), .own zc.fa zc.fl.length zc.fc ((zc.fl).map V8) 5 1, .blk rb8 ([.slice (hd y.a1) y.D.last.length y.c1, .slice (hd y.a2) y.D.last.length y.c2, .bool y.D.off, VI y.D.armed, VI y.D.part, VI y.D.way, .string ⟨(y.cm).toArray⟩, VI y.D.writes, VI y.D.lives]) 106, .own y.a1 y.D.last.length y.c1 ((y.D.last).flatMap strD) 9 1, .own y.a2 y.D.last.length y.c2 ((rwf y.D 0).flatMap strD) 9 1, .blk db3 ([.slice (hd (some z.a1)) z.ls.length z.c1, .map (some z.mb), .bool z.off, VI z.armed, VI z.part, VI z.way, .slice (hd z.fa) z.fl.length z.fc, VI z.writes, VI z.lives]) 86, .own (some z.a1) z.ls.length z.c1 ((z.ls).flatMap slE) 57 1, .obj z.mb (mobj kI z.M z.mc), .own z.fa z.fl.length z.fc ((z.fl).map V8) 5 1]) (L1 := [.blk cb46 ([.slice (hd (some zc.a1)) zc.ls.length zc.c1, .map (some zc.mb), .bool zc.off, VI zc.armed, VI zc.part, VI zc.way, .slice (hd zc.fa) zc.fl.length zc.fc, VI zc.writes, VI zc.lives]) 86, .own (some zc.a1) zc.ls.length zc.c1 ((zc.ls).flatMap slE) 57 1, .obj zc.mb (mobj kI zc.M zc.mc), .own zc.fa zc.fl.length zc.fc ((zc.fl).map V8) 5 1, .blk sb51 ([.slice (hd yc.a1) yc.D.last.length yc.c1, .slice (hd yc.a2) yc.D.last.length yc.c2, .bool yc.D.off, VI yc.D.armed, VI yc.D.part, VI yc.D.way, .string ⟨(yc.cm).toArray⟩, VI yc.D.writes, VI yc.D.lives]) 106, .own yc.a1 yc.D.last.length yc.c1 ((yc.D.last).flatMap strD) 9 1, .own yc.a2 yc.D.last.length yc.c2 ((rwf yc.D 0).flatMap strD) 9 1]) (Lr := ([.blk rb8 ([.slice (hd y.a1) y.D.last.length y.c1, .slice (hd y.a2) y.D.last.length y.c2, .bool y.D.off, VI y.D.armed, VI y.D.part, VI y.D.way, .string ⟨(y.cm).toArray⟩, VI y.D.writes, VI y.D.lives]) 106, .own y.a1 y.D.last.length y.c1 ((y.D.last).flatMap strD) 9 1, .own y.a2 y.D.last.length y.c2 ((rwf y.D 0).flatMap strD) 9 1, .blk db3 ([.slice (hd (some z.a1)) z.ls.length z.c1, .map (some z.mb), .bool z.off, VI z.armed, VI z.part, VI z.way, .slice (hd z.fa) z.fl.length z.fc, VI z.writes, VI z.lives]) 86, .own (some z.a1) z.ls.length z.c1 ((z.ls).flatMap slE) 57 1, .obj z.mb (mobj kI z.M z.mc), .own z.fa z.fl.length z.fc ((z.fl).map V8) 5 1] : List Ch)) (T := zc.T) ((perm_front (j := 3) rfl).trans (.cons _ ((perm_front (j := 3) rfl).trans (.cons _ ((perm_front (j := 3) rfl).trans (.cons _ ((perm_front (j := 3) rfl).trans (.cons _ (.refl _))))))))) Hc ((perm_front (j := 11) rfl).trans (.cons _ ((perm_front (j := 11) rfl).trans (.cons _ ((perm_front (j := 11) rfl).trans (.cons _ ((perm_front (j := 7) rfl).trans (.cons _ ((perm_front (j := 7) rfl).trans (.cons _ ((perm_front (j := 7) rfl).trans (.cons _ ((perm_front (j := 7) rfl).trans (.cons _ (.refl _)))))))))))))))
       clear Hc
       replace H : Hp _ w _ (Ch.blk sb51 ([.slice (hd yc.a1) yc.D.last.length yc.c1, .slice (hd yc.a2) yc.D.last.length yc.c2, .bool yc.D.off, VI yc.D.armed, VI yc.D.part, VI yc.D.way, .string ⟨(yc.cm).toArray⟩, VI yc.D.writes, VI yc.D.lives]) 106 :: Ch.own yc.a1 yc.D.last.length yc.c1 ((yc.D.last).flatMap strD) 9 1 :: Ch.own yc.a2 yc.D.last.length yc.c2 ((rwf yc.D 0).flatMap strD) 9 1 :: Ch.blk cb46 ([.slice (hd (some zc.a1)) zc.ls.length zc.c1, .map (some zc.mb), .bool zc.off, VI zc.armed, VI zc.part, VI zc.way, .slice (hd zc.fa) zc.fl.length zc.fc, VI zc.writes, VI zc.lives]) 86 :: Ch.own (some zc.a1) zc.ls.length zc.c1 ((zc.ls).flatMap slE) 57 1 :: Ch.obj zc.mb (mobj kI zc.M zc.mc) :: Ch.own zc.fa zc.fl.length zc.fc ((zc.fl).map V8) 5 1 :: Ch.blk rb8 ([.slice (hd y.a1) y.D.last.length y.c1, .slice (hd y.a2) y.D.last.length y.c2, .bool y.D.off, VI y.D.armed, VI y.D.part, VI y.D.way, .string ⟨(y.cm).toArray⟩, VI y.D.writes, VI y.D.lives]) 106 :: Ch.own y.a1 y.D.last.length y.c1 ((y.D.last).flatMap strD) 9 1 :: Ch.own y.a2 y.D.last.length y.c2 ((rwf y.D 0).flatMap strD) 9 1 :: Ch.blk db3 ([.slice (hd (some z.a1)) z.ls.length z.c1, .map (some z.mb), .bool z.off, VI z.armed, VI z.part, VI z.way, .slice (hd z.fa) z.fl.length z.fc, VI z.writes, VI z.lives]) 86 :: Ch.own (some z.a1) z.ls.length z.c1 ((z.ls).flatMap slE) 57 1 :: Ch.obj z.mb (mobj kI z.M z.mc) :: Ch.own z.fa z.fl.length z.fc ((z.fl).map V8) 5 1 :: zc.T) := H
       refine l_op (o_val (r_pick rfl) ?_)
       refine l_op (o_val (r_mv) ?_)
       refine l_yes rfl rfl rfl (o_val (r_mv) ?_)
       refine l_yes rfl rfl rfl (o_val (r_mv) ?_)
       refine l_yes rfl rfl rfl (o_callR Try.func41 rfl rfl rfl (read5_ret _ db3 rb8 { z with T := zc.T } y (H.ownT (L := [.blk sb51 ([.slice (hd yc.a1) yc.D.last.length yc.c1, .slice (hd yc.a2) yc.D.last.length yc.c2, .bool yc.D.off, VI yc.D.armed, VI yc.D.part, VI yc.D.way, .string ⟨(yc.cm).toArray⟩, VI yc.D.writes, VI yc.D.lives]) 106, .own yc.a1 yc.D.last.length yc.c1 ((yc.D.last).flatMap strD) 9 1, .own yc.a2 yc.D.last.length yc.c2 ((rwf yc.D 0).flatMap strD) 9 1, .blk cb46 ([.slice (hd (some zc.a1)) zc.ls.length zc.c1, .map (some zc.mb), .bool zc.off, VI zc.armed, VI zc.part, VI zc.way, .slice (hd zc.fa) zc.fl.length zc.fc, VI zc.writes, VI zc.lives]) 86, .own (some zc.a1) zc.ls.length zc.c1 ((zc.ls).flatMap slE) 57 1, .obj zc.mb (mobj kI zc.M zc.mc), .own zc.fa zc.fl.length zc.fc ((zc.fl).map V8) 5 1, .blk rb8 ([.slice (hd y.a1) y.D.last.length y.c1, .slice (hd y.a2) y.D.last.length y.c2, .bool y.D.off, VI y.D.armed, VI y.D.part, VI y.D.way, .string ⟨(y.cm).toArray⟩, VI y.D.writes, VI y.D.lives]) 106, .own y.a1 y.D.last.length y.c1 ((y.D.last).flatMap strD) 9 1, .own y.a2 y.D.last.length y.c2 ((rwf y.D 0).flatMap strD) 9 1, .blk db3 ([.slice (hd (some z.a1)) z.ls.length z.c1, .map (some z.mb), .bool z.off, VI z.armed, VI z.part, VI z.way, .slice (hd z.fa) z.fl.length z.fc, VI z.writes, VI z.lives]) 86, .own (some z.a1) z.ls.length z.c1 ((z.ls).flatMap slE) 57 1, .obj z.mb (mobj kI z.M z.mc), .own z.fa z.fl.length z.fc ((z.fl).map V8) 5 1]) (L1 := [.blk db3 ([.slice (hd (some z.a1)) z.ls.length z.c1, .map (some z.mb), .bool z.off, VI z.armed, VI z.part, VI z.way, .slice (hd z.fa) z.fl.length z.fc, VI z.writes, VI z.lives]) 86, .own (some z.a1) z.ls.length z.c1 ((z.ls).flatMap slE) 57 1, .obj z.mb (mobj kI z.M z.mc), .own z.fa z.fl.length z.fc ((z.fl).map V8) 5 1, .blk rb8 ([.slice (hd y.a1) y.D.last.length y.c1, .slice (hd y.a2) y.D.last.length y.c2, .bool y.D.off, VI y.D.armed, VI y.D.part, VI y.D.way, .string ⟨(y.cm).toArray⟩, VI y.D.writes, VI y.D.lives]) 106, .own y.a1 y.D.last.length y.c1 ((y.D.last).flatMap strD) 9 1, .own y.a2 y.D.last.length y.c2 ((rwf y.D 0).flatMap strD) 9 1]) (Lr := ([.blk sb51 ([.slice (hd yc.a1) yc.D.last.length yc.c1, .slice (hd yc.a2) yc.D.last.length yc.c2, .bool yc.D.off, VI yc.D.armed, VI yc.D.part, VI yc.D.way, .string ⟨(yc.cm).toArray⟩, VI yc.D.writes, VI yc.D.lives]) 106, .own yc.a1 yc.D.last.length yc.c1 ((yc.D.last).flatMap strD) 9 1, .own yc.a2 yc.D.last.length yc.c2 ((rwf yc.D 0).flatMap strD) 9 1, .blk cb46 ([.slice (hd (some zc.a1)) zc.ls.length zc.c1, .map (some zc.mb), .bool zc.off, VI zc.armed, VI zc.part, VI zc.way, .slice (hd zc.fa) zc.fl.length zc.fc, VI zc.writes, VI zc.lives]) 86, .own (some zc.a1) zc.ls.length zc.c1 ((zc.ls).flatMap slE) 57 1, .obj zc.mb (mobj kI zc.M zc.mc), .own zc.fa zc.fl.length zc.fc ((zc.fl).map V8) 5 1] : List Ch)) (T := zc.T) ((perm_front (j := 10) rfl).trans (.cons _ ((perm_front (j := 10) rfl).trans (.cons _ ((perm_front (j := 10) rfl).trans (.cons _ ((perm_front (j := 10) rfl).trans (.cons _ ((perm_front (j := 7) rfl).trans (.cons _ ((perm_front (j := 7) rfl).trans (.cons _ ((perm_front (j := 7) rfl).trans (.cons _ (.refl _)))))))))))))))) hzT hy hr) ?_)
       rintro _ w ⟨rfl, Hc⟩
       replace H := H.callT (L1' := [.blk db3 ([.slice (hd (some z.a1)) z.ls.length z.c1, .map (some z.mb), .bool z.off, VI z.armed, VI z.part, VI z.way, .slice (hd z.fa) z.fl.length z.fc, VI z.writes, VI z.lives]) 86, .own (some z.a1) z.ls.length z.c1 ((z.ls).flatMap slE) 57 1, .obj z.mb (mobj kI z.M z.mc), .own z.fa z.fl.length z.fc ((z.fl).map V8) 5 1, .blk rb8 ([.slice (hd y.a1) y.D.last.length y.c1, .slice (hd y.a2) y.D.last.length y.c2, .bool y.D.off, VI y.D.armed, VI y.D.part, VI y.D.way, .string ⟨(y.cm).toArray⟩, VI y.D.writes, VI y.D.lives]) 106, .own y.a1 y.D.last.length y.c1 ((y.D.last).flatMap strD) 9 1, .own y.a2 y.D.last.length y.c2 ((rwf y.D 0).flatMap strD) 9 1]) (T' := zc.T) (L := [.blk sb51 ([.slice (hd yc.a1) yc.D.last.length yc.c1, .slice (hd yc.a2) yc.D.last.length yc.c2, .bool yc.D.off, VI yc.D.armed, VI yc.D.part, VI yc.D.way, .string ⟨(yc.cm).toArray⟩, VI yc.D.writes, VI yc.D.lives]) 106, .own yc.a1 yc.D.last.length yc.c1 ((yc.D.last).flatMap strD) 9 1, .own yc.a2 yc.D.last.length yc.c2 ((rwf yc.D 0).flatMap strD) 9 1, .blk cb46 ([.slice (hd (some zc.a1)) zc.ls.length zc.c1, .map (some zc.mb), .bool zc.off, VI zc.armed, VI zc.part, VI zc.way, .slice (hd zc.fa) zc.fl.length zc.fc, VI zc.writes, VI zc.lives]) 86, .own (some zc.a1) zc.ls.length zc.c1 ((zc.ls).flatMap slE) 57 1, .obj zc.mb (mobj kI zc.M zc.mc), .own zc.fa zc.fl.length zc.fc ((zc.fl).map V8) 5 1, .blk rb8 ([.slice (hd y.a1) y.D.last.length y.c1, .slice (hd y.a2) y.D.last.length y.c2, .bool y.D.off, VI y.D.armed, VI y.D.part, VI y.D.way, .string ⟨(y.cm).toArray⟩, VI y.D.writes, VI y.D.lives]) 106, .own y.a1 y.D.last.length y.c1 ((y.D.last).flatMap strD) 9 1, .own y.a2 y.D.last.length y.c2 ((rwf y.D 0).flatMap strD) 9 1, .blk db3 ([.slice (hd (some z.a1)) z.ls.length z.c1, .map (some z.mb), .bool z.off, VI z.armed, VI z.part, VI z.way, .slice (hd z.fa) z.fl.length z.fc, VI z.writes, VI z.lives]) 86, .own (some z.a1) z.ls.length z.c1 ((z.ls).flatMap slE) 57 1, .obj z.mb (mobj kI z.M z.mc), .own z.fa z.fl.length z.fc ((z.fl).map V8) 5 1]) (L1 := [.blk db3 ([.slice (hd (some z.a1)) z.ls.length z.c1, .map (some z.mb), .bool z.off, VI z.armed, VI z.part, VI z.way, .slice (hd z.fa) z.fl.length z.fc, VI z.writes, VI z.lives]) 86, .own (some z.a1) z.ls.length z.c1 ((z.ls).flatMap slE) 57 1, .obj z.mb (mobj kI z.M z.mc), .own z.fa z.fl.length z.fc ((z.fl).map V8) 5 1, .blk rb8 ([.slice (hd y.a1) y.D.last.length y.c1, .slice (hd y.a2) y.D.last.length y.c2, .bool y.D.off, VI y.D.armed, VI y.D.part, VI y.D.way, .string ⟨(y.cm).toArray⟩, VI y.D.writes, VI y.D.lives]) 106, .own y.a1 y.D.last.length y.c1 ((y.D.last).flatMap strD) 9 1, .own y.a2 y.D.last.length y.c2 ((rwf y.D 0).flatMap strD) 9 1]) (Lr := ([.blk sb51 ([.slice (hd yc.a1) yc.D.last.length yc.c1, .slice (hd yc.a2) yc.D.last.length yc.c2, .bool yc.D.off, VI yc.D.armed, VI yc.D.part, VI yc.D.way, .string ⟨(yc.cm).toArray⟩, VI yc.D.writes, VI yc.D.lives]) 106, .own yc.a1 yc.D.last.length yc.c1 ((yc.D.last).flatMap strD) 9 1, .own yc.a2 yc.D.last.length yc.c2 ((rwf yc.D 0).flatMap strD) 9 1, .blk cb46 ([.slice (hd (some zc.a1)) zc.ls.length zc.c1, .map (some zc.mb), .bool zc.off, VI zc.armed, VI zc.part, VI zc.way, .slice (hd zc.fa) zc.fl.length zc.fc, VI zc.writes, VI zc.lives]) 86, .own (some zc.a1) zc.ls.length zc.c1 ((zc.ls).flatMap slE) 57 1, .obj zc.mb (mobj kI zc.M zc.mc), .own zc.fa zc.fl.length zc.fc ((zc.fl).map V8) 5 1] : List Ch)) (T := zc.T) ((perm_front (j := 10) rfl).trans (.cons _ ((perm_front (j := 10) rfl).trans (.cons _ ((perm_front (j := 10) rfl).trans (.cons _ ((perm_front (j := 10) rfl).trans (.cons _ ((perm_front (j := 7) rfl).trans (.cons _ ((perm_front (j := 7) rfl).trans (.cons _ ((perm_front (j := 7) rfl).trans (.cons _ (.refl _))))))))))))))) Hc ((perm_front (j := 0) rfl).trans (.cons _ ((perm_front (j := 0) rfl).trans (.cons _ ((perm_front (j := 0) rfl).trans (.cons _ ((perm_front (j := 0) rfl).trans (.cons _ ((perm_front (j := 0) rfl).trans (.cons _ ((perm_front (j := 0) rfl).trans (.cons _ ((perm_front (j := 0) rfl).trans (.cons _ ((perm_front (j := 4) rfl).trans (.cons _ ((perm_front (j := 4) rfl).trans (.cons _ ((perm_front (j := 4) rfl).trans (.cons _ (.refl _)))))))))))))))))))))
       clear Hc
       replace H : Hp _ w _ (Ch.blk sb51 ([.slice (hd yc.a1) yc.D.last.length yc.c1, .slice (hd yc.a2) yc.D.last.length yc.c2, .bool yc.D.off, VI yc.D.armed, VI yc.D.part, VI yc.D.way, .string ⟨(yc.cm).toArray⟩, VI yc.D.writes, VI yc.D.lives]) 106 :: Ch.own yc.a1 yc.D.last.length yc.c1 ((yc.D.last).flatMap strD) 9 1 :: Ch.own yc.a2 yc.D.last.length yc.c2 ((rwf yc.D 0).flatMap strD) 9 1 :: Ch.blk cb46 ([.slice (hd (some zc.a1)) zc.ls.length zc.c1, .map (some zc.mb), .bool zc.off, VI zc.armed, VI zc.part, VI zc.way, .slice (hd zc.fa) zc.fl.length zc.fc, VI zc.writes, VI zc.lives]) 86 :: Ch.own (some zc.a1) zc.ls.length zc.c1 ((zc.ls).flatMap slE) 57 1 :: Ch.obj zc.mb (mobj kI zc.M zc.mc) :: Ch.own zc.fa zc.fl.length zc.fc ((zc.fl).map V8) 5 1 :: Ch.blk rb8 ([.slice (hd y.a1) y.D.last.length y.c1, .slice (hd y.a2) y.D.last.length y.c2, .bool y.D.off, VI y.D.armed, VI y.D.part, VI y.D.way, .string ⟨(y.cm).toArray⟩, VI y.D.writes, VI y.D.lives]) 106 :: Ch.own y.a1 y.D.last.length y.c1 ((y.D.last).flatMap strD) 9 1 :: Ch.own y.a2 y.D.last.length y.c2 ((rwf y.D 0).flatMap strD) 9 1 :: Ch.blk db3 ([.slice (hd (some z.a1)) z.ls.length z.c1, .map (some z.mb), .bool z.off, VI z.armed, VI z.part, VI z.way, .slice (hd z.fa) z.fl.length z.fc, VI z.writes, VI z.lives]) 86 :: Ch.own (some z.a1) z.ls.length z.c1 ((z.ls).flatMap slE) 57 1 :: Ch.obj z.mb (mobj kI z.M z.mc) :: Ch.own z.fa z.fl.length z.fc ((z.fl).map V8) 5 1 :: zc.T) := H
       refine l_op (o_val (r_pick rfl) ?_)
       refine l_op (o_val (r_as) ?_)
       first | refine l_end ?_ | refine l_nil ?_
       refine c_ret ?_
       try dsimp only [Exit.then, Exit.inBlock]
       refine e_ret1 (v := .bool true) Try.results11 rfl ?_
       refine ⟨_, rfl, ?_⟩
       exact ⟨rfl, H.sub (List.nil_sublist _)⟩
end Go.Proofs.Ytncmcgcilijfkaa
