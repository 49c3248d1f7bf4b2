/- Lemmas for the statement AuditChains, part 5: rules of operations, walks through functions, plain laws. -/
import Derived.Test.YtjmbbhnpfmblpaaAuditChainsG4
namespace Go.Proofs.Ytjmbbhnpfmblpaa
open Go
set_option maxRecDepth 100000
theorem auditChains_ret (w0 : World) (g : Gl Ent) (bb : Bool) (h : List UInt8) (hg : g.ok entE 38 w0) (hbl : ∀ c ∈ g.l, c.bd) (hh : h.length = 32) :
    Ret Try.prog 25 [g.v, .bool bb, .agg ((h).map V8).toArray] w0 fun v w' => v = .bool true ∧ Hp w0 w' [] [] := by
  refine ret_mk Try.func25 rfl Try.ntmps25 (by simp) ?_
  have H := Hp.refl w0 []
  have hgl := hg.ln
  have hge := hg.le
  have hgx := hg.mx
  have hmL : maxLen = 9223372036854775807 := rfl
  repeat refine c_seq ?_
  refine c_region ?_
  refine l_op (o_box (v := .agg ((h).map V8).toArray) H rfl (fun b1 w H hb1 => ?_))
  replace H : Hp _ w _ ([.blk b1 ((h).map V8) 31]) := H
  refine l_op (o_val (r_as) ?_)
  first | refine l_end ?_ | refine l_nil ?_
  repeat refine c_seq ?_
  refine c_region ?_
  refine l_op (o_callR Try.func83 rfl rfl rfl (begun20_ret _) ?_)
  rintro _ w ⟨rfl, Hc⟩
  replace H : Hp _ w _ ([_]) := H.call Hc
  clear Hc
  refine l_op (o_val (r_not rfl) ?_)
  first | refine l_end ?_ | refine l_nil ?_
  repeat refine c_seq ?_
  refine c_no rfl ?_
  refine c_skip ?_
  repeat refine c_seq ?_
  refine c_region ?_
  refine l_op (o_val (r_mv) ?_)
  refine l_op (o_callR Try.func84 rfl rfl rfl (light20_ret _ g (hg.up H) 40 (by omega)) ?_)
  rintro _ w ⟨rfl, Hc⟩
  replace H : Hp _ w _ ([_]) := H.call Hc
  clear Hc
  refine l_op (o_val (r_not rfl) ?_)
  first | refine l_end ?_ | refine l_nil ?_
  have hc20 := Bool.eq_false_or_eq_true (lightE g.l 40)
  rcases hc20 with hc2 | hc2
  ·
   repeat refine c_seq ?_
   refine c_no (by exact congrArg Value.bool (congrArg not hc2)) ?_
   refine c_skip ?_
   have hlt := ((lightE_iff _ _).1 hc2).1
   repeat refine c_seq ?_
   refine c_region ?_
   refine l_op (o_val (r_mv) ?_)
   first | refine l_end ?_ | refine l_nil ?_
   have hc30 := Bool.eq_false_or_eq_true (bb)
   rcases hc30 with hc3 | hc3
   ·
    repeat refine c_seq ?_
    refine c_yes (by exact congrArg Value.bool hc3) ?_
    repeat refine c_seq ?_
    refine c_region ?_
    refine l_op (o_val (r_mv) ?_)
    refine l_op (o_callR Try.func93 rfl rfl rfl (numbered_ret _ g (hg.up H) (show g.len ≤ 65536 by omega)) ?_)
    rintro _ w ⟨a4, c5, rfl, Hc⟩
    replace H : Hp _ w _ ([_, .own a4 g.len c5 ((numF 0 g.l).flatMap entE) 95 38]) := H.call Hc
    clear Hc
    refine l_op (o_val (r_as) ?_)
    first | refine l_end ?_ | refine l_nil ?_
    repeat refine c_seq ?_
    refine c_region ?_
    refine l_op (o_val (r_mv) ?_)
    refine l_op (o_callR Try.func94 rfl rfl rfl (aHead_ret _ ⟨hd a4, g.len, c5, numF 0 g.l⟩ (H.glOwn (i := 1) rfl (by decide) (numF_of _ (by omega) hg.sz)) (numF_bd _ (by omega) hbl) (by (try dsimp only); omega)) ?_)
    rintro _ w ⟨rfl, Hc⟩
    replace H : Hp _ w _ ([_, _]) := H.call Hc
    clear Hc
    refine l_op (o_val (r_mv) ?_)
    refine l_op (o_val (r_ext rfl rfl) ?_)
    refine l_op (o_val (r_ext rfl rfl) ?_)
    refine l_op (o_alloc H zc31 (fun b6 w H hb6 => ?_))
    replace H : Hp _ w _ ([_, _, .blk b6 ((List.replicate 32 (0 : UInt8)).map V8) 31]) := H
    refine l_op (o_stA (l' := headV (numF 0 g.l)) H (i := 2) rfl rfl rfl cs31 (show (List.replicate 32 (0 : UInt8)).length = 32 from (List.length_replicate ..)) (show (headV (numF 0 g.l)).length = 32 from (headV_len _)) (fun w H => ?_))
    replace H : Hp _ w _ ([_, _, .blk b6 ((headV (numF 0 g.l)).map V8) 31]) := H
    refine l_op (o_val (r_as) ?_)
    first | refine l_end ?_ | refine l_nil ?_
    repeat refine c_seq ?_
    refine c_region ?_
    refine l_op (o_val (r_mv) ?_)
    refine l_op (o_callR Try.func95 rfl rfl rfl (aHeadr_ret _ ⟨hd a4, g.len, c5, numF 0 g.l⟩ (H.glOwn (i := 1) rfl (by decide) (numF_of _ (by omega) hg.sz)) (numF_bd _ (by omega) hbl) (by (try dsimp only); omega)) ?_)
    rintro _ w ⟨rfl, Hc⟩
    replace H : Hp _ w _ ([_, _, _]) := H.call Hc
    clear Hc
    refine l_op (o_val (r_mv) ?_)
    refine l_op (o_val (r_ext rfl rfl) ?_)
    refine l_op (o_val (r_ext rfl rfl) ?_)
    refine l_op (o_alloc H zc31 (fun b7 w H hb7 => ?_))
    replace H : Hp _ w _ ([_, _, _, .blk b7 ((List.replicate 32 (0 : UInt8)).map V8) 31]) := H
    refine l_op (o_stA (l' := headV (numF 0 g.l)) H (i := 3) rfl rfl rfl cs31 (show (List.replicate 32 (0 : UInt8)).length = 32 from (List.length_replicate ..)) (show (headV (numF 0 g.l)).length = 32 from (headV_len _)) (fun w H => ?_))
    replace H : Hp _ w _ ([_, _, _, .blk b7 ((headV (numF 0 g.l)).map V8) 31]) := H
    refine l_op (o_val (r_as) ?_)
    first | refine l_end ?_ | refine l_nil ?_
    repeat refine c_seq ?_
    refine c_region ?_
    refine l_op (o_val (r_mv) ?_)
    by_cases hc8 : headC (numF 0 g.l) = 0
    ·
     refine l_op (o_callR Try.func96 rfl rfl rfl (aExp_ok _ ⟨hd a4, g.len, c5, numF 0 g.l⟩ (H.glOwn (i := 1) rfl (by decide) (numF_of _ (by omega) hg.sz)) (numF_bd _ (by omega) hbl) (by (try dsimp only); omega) (of_decide_eq_true (decide_eq_true hc8))) ?_)
     rintro _ w ⟨a9, n10, c11, rfl, hn12, hx13, Hc⟩
     replace H : Hp _ w _ ([_, _, _, _, .own a9 n10 c11 ((expB (numF 0 g.l)).map V8) 5 1]) := H.call Hc
     clear Hc
     try dsimp only at hn12
     try dsimp only at hx13
     refine l_op (o_val (r_mv) ?_)
     refine l_op (o_val (r_ext rfl rfl) ?_)
     refine l_op (o_val (r_ext rfl rfl) ?_)
     refine l_op (o_val (r_as) ?_)
     refine l_op (o_val (r_as) ?_)
     first | refine l_end ?_ | refine l_nil ?_
     repeat refine c_seq ?_
     refine c_region ?_
     refine l_op (o_val (r_mv) ?_)
     refine l_op (o_callR Try.func97 rfl rfl rfl (aExpr_ok _ ⟨hd a4, g.len, c5, numF 0 g.l⟩ (H.glOwn (i := 1) rfl (by decide) (numF_of _ (by omega) hg.sz)) (numF_bd _ (by omega) hbl) (by (try dsimp only); omega) (of_decide_eq_true (decide_eq_true hc8))) ?_)
     rintro _ w ⟨a14, n15, c16, rfl, hn17, hx18, Hc⟩
     replace H : Hp _ w _ ([_, _, _, _, _, .own a14 n15 c16 ((expB (numF 0 g.l)).map V8) 5 1]) := H.call Hc
     clear Hc
     try dsimp only at hn17
     try dsimp only at hx18
     refine l_op (o_val (r_mv) ?_)
     refine l_op (o_val (r_ext rfl rfl) ?_)
     refine l_op (o_val (r_ext rfl rfl) ?_)
     refine l_op (o_val (r_as) ?_)
     refine l_op (o_val (r_as) ?_)
     first | refine l_end ?_ | refine l_nil ?_
     repeat refine c_seq ?_
     refine c_region ?_
     refine l_op (o_val (r_ldAA (l := headV (numF 0 g.l)) H (i := 2) rfl rfl rt31 (show (headV (numF 0 g.l)).length = 32 from (headV_len _))) ?_)
     refine l_op (o_val (r_ldAA (l := headV (numF 0 g.l)) H (i := 3) rfl rfl rt31 (show (headV (numF 0 g.l)).length = 32 from (headV_len _))) ?_)
     refine l_op (o_val (r_nea (a := headV (numF 0 g.l)) (b := headV (numF 0 g.l)) Try.underlying31 Try.underlying5 cs5 rfl rfl (show (headV (numF 0 g.l)).length = 32 from (headV_len _)) (show (headV (numF 0 g.l)).length = 32 from (headV_len _))) ?_)
     refine l_op (o_val (r_mv) ?_)
     refine l_yes rfl rfl (by exact congrArg Value.bool (congrArg not (decide_eq_true (rfl : headV (numF 0 g.l) = headV (numF 0 g.l))))) (o_val (r_mv) ?_)
     refine l_yes rfl rfl (by exact congrArg Value.bool (congrArg not (decide_eq_true (rfl : headV (numF 0 g.l) = headV (numF 0 g.l))))) (o_val (r_mv) ?_)
     refine l_yes rfl rfl (by exact congrArg Value.bool (congrArg not (decide_eq_true (rfl : headV (numF 0 g.l) = headV (numF 0 g.l))))) (o_val (r_bin (a := ((headC (numF 0 g.l) : Nat) : Int)) (b := ((headC (numF 0 g.l) : Nat) : Int)) rfl rfl (fun _ => b_neqB false (decide_eq_false (fun h => h rfl)))) ?_)
     refine l_op (o_val (r_pick (b := false) (congrArg Value.bool (congrArg not (decide_eq_true (rfl : headV (numF 0 g.l) = headV (numF 0 g.l)))))) ?_)
     refine l_op (o_val (r_mv) ?_)
     refine l_yes rfl rfl rfl (o_val (r_mv) ?_)
     refine l_yes rfl rfl rfl (o_val (r_mv) ?_)
     refine l_yes rfl rfl rfl (o_val (r_bin (a := 0) (b := 0) rfl rfl (fun _ => b_neqB false (decide_eq_false (by decide)))) ?_)
     refine l_op (o_val (r_pick rfl) ?_)
     refine l_op (o_val (r_mv) ?_)
     refine l_yes rfl rfl rfl (o_val (r_mv) ?_)
     refine l_yes rfl rfl rfl (o_val (r_b2S (s := ⟨hd a9, n10, c11, expB (numF 0 g.l)⟩) Try.underlying29 Try.underlying5 Try.underlying9 rfl (H.slOwn (i := 4) rfl)) ?_)
     refine l_yes rfl rfl rfl (o_val (r_mv) ?_)
     refine l_yes rfl rfl rfl (o_val (r_b2S (s := ⟨hd a14, n15, c16, expB (numF 0 g.l)⟩) Try.underlying29 Try.underlying5 Try.underlying9 rfl (H.slOwn (i := 5) rfl)) ?_)
     refine l_yes rfl rfl rfl (o_val (r_strne (a := expB (numF 0 g.l)) (b := expB (numF 0 g.l)) rfl rfl) ?_)
     refine l_op (o_val (r_pick rfl) ?_)
     first | refine l_end ?_ | refine l_nil ?_
     repeat refine c_seq ?_
     refine c_no (by exact congrArg Value.bool (congrArg not (decide_eq_true (rfl : expB (numF 0 g.l) = expB (numF 0 g.l))))) ?_
     refine c_skip ?_
     repeat refine c_seq ?_
     refine c_region ?_
     refine l_op (o_val (r_mv) ?_)
     refine l_op (o_val (r_ldAA (l := headV (numF 0 g.l)) H (i := 3) rfl rfl rt31 (show (headV (numF 0 g.l)).length = 32 from (headV_len _))) ?_)
     refine l_op (o_callR Try.func98 rfl rfl rfl (aVerify_ret _ ⟨hd a14, n15, c16, expB (numF 0 g.l)⟩ (H.slOwn (i := 5) rfl) (show n15 ≤ 65536 by omega) (headV (numF 0 g.l)) (show (headV (numF 0 g.l)).length = 32 from (headV_len _))) ?_)
     rintro _ w ⟨rfl, Hc⟩
     replace H : Hp _ w _ ([_, _, _, _, _, _]) := H.call Hc
     clear Hc
     refine l_op (o_val (r_mv) ?_)
     refine l_op (o_val (r_ext rfl rfl) ?_)
     refine l_op (o_val (r_ext rfl rfl) ?_)
     refine l_op (o_val (r_as) ?_)
     refine l_op (o_val (r_as) ?_)
     first | refine l_end ?_ | refine l_nil ?_
     repeat refine c_seq ?_
     refine c_region ?_
     refine l_op (o_val (r_mv) ?_)
     refine l_op (o_val (r_ldAA (l := headV (numF 0 g.l)) H (i := 3) rfl rfl rt31 (show (headV (numF 0 g.l)).length = 32 from (headV_len _))) ?_)
     refine l_op (o_callR Try.func99 rfl rfl rfl (aVerifyr_ret _ ⟨hd a14, n15, c16, expB (numF 0 g.l)⟩ (H.slOwn (i := 5) rfl) (show n15 ≤ 65536 by omega) (headV (numF 0 g.l)) (show (headV (numF 0 g.l)).length = 32 from (headV_len _))) ?_)
     rintro _ w ⟨rfl, Hc⟩
     replace H : Hp _ w _ ([_, _, _, _, _, _]) := H.call Hc
     clear Hc
     refine l_op (o_val (r_mv) ?_)
     refine l_op (o_val (r_ext rfl rfl) ?_)
     refine l_op (o_val (r_ext rfl rfl) ?_)
     refine l_op (o_val (r_as) ?_)
     refine l_op (o_val (r_as) ?_)
     first | refine l_end ?_ | refine l_nil ?_
     repeat refine c_seq ?_
     refine c_region ?_
     refine l_op (o_val (r_mv) ?_)
     refine l_op (o_val (r_ldAA (l := h) H (i := 0) rfl rfl rt31 (show (h).length = 32 from hh)) ?_)
     refine l_op (o_callR Try.func98 rfl rfl rfl (aVerify_ret _ ⟨hd a14, n15, c16, expB (numF 0 g.l)⟩ (H.slOwn (i := 5) rfl) (show n15 ≤ 65536 by omega) h (show (h).length = 32 from hh)) ?_)
     rintro _ w ⟨rfl, Hc⟩
     replace H : Hp _ w _ ([_, _, _, _, _, _]) := H.call Hc
     clear Hc
     refine l_op (o_val (r_mv) ?_)
     refine l_op (o_val (r_ext rfl rfl) ?_)
     refine l_op (o_val (r_ext rfl rfl) ?_)
     refine l_op (o_val (r_as) ?_)
     refine l_op (o_val (r_as) ?_)
     first | refine l_end ?_ | refine l_nil ?_
     repeat refine c_seq ?_
     refine c_region ?_
     refine l_op (o_val (r_mv) ?_)
     refine l_op (o_val (r_ldAA (l := h) H (i := 0) rfl rfl rt31 (show (h).length = 32 from hh)) ?_)
     refine l_op (o_callR Try.func99 rfl rfl rfl (aVerifyr_ret _ ⟨hd a14, n15, c16, expB (numF 0 g.l)⟩ (H.slOwn (i := 5) rfl) (show n15 ≤ 65536 by omega) h (show (h).length = 32 from hh)) ?_)
     rintro _ w ⟨rfl, Hc⟩
     replace H : Hp _ w _ ([_, _, _, _, _, _]) := H.call Hc
     clear Hc
     refine l_op (o_val (r_mv) ?_)
     refine l_op (o_val (r_ext rfl rfl) ?_)
     refine l_op (o_val (r_ext rfl rfl) ?_)
     refine l_op (o_val (r_as) ?_)
     refine l_op (o_val (r_as) ?_)
     first | refine l_end ?_ | refine l_nil ?_
     repeat refine c_seq ?_
     refine c_region ?_
     refine l_op (o_val (r_mv) ?_)
     refine l_op (o_val (r_mv) ?_)
     refine l_op (o_val (r_bin (a := ((verN (expB (numF 0 g.l)) (headV (numF 0 g.l)) : Nat) : Int)) (b := ((verN (expB (numF 0 g.l)) (headV (numF 0 g.l)) : Nat) : Int)) rfl rfl (fun _ => b_eqlB true (decide_eq_true rfl))) ?_)
     refine l_op (o_val (r_mv) ?_)
     refine l_yes rfl rfl rfl (o_val (r_mv) ?_)
     refine l_yes rfl rfl rfl (o_val (r_mv) ?_)
     refine l_yes rfl rfl rfl (o_val (r_bin (a := ((verC (expB (numF 0 g.l)) (headV (numF 0 g.l)) : Nat) : Int)) (b := ((verC (expB (numF 0 g.l)) (headV (numF 0 g.l)) : Nat) : Int)) rfl rfl (fun _ => b_eqlB true (decide_eq_true rfl))) ?_)
     refine l_op (o_val (r_pick rfl) ?_)
     refine l_op (o_val (r_mv) ?_)
     refine l_yes rfl rfl rfl (o_val (r_mv) ?_)
     refine l_yes rfl rfl rfl (o_val (r_mv) ?_)
     refine l_yes rfl rfl rfl (o_val (r_bin (a := ((verN (expB (numF 0 g.l)) h : Nat) : Int)) (b := ((verN (expB (numF 0 g.l)) h : Nat) : Int)) rfl rfl (fun _ => b_eqlB true (decide_eq_true rfl))) ?_)
     refine l_op (o_val (r_pick rfl) ?_)
     refine l_op (o_val (r_mv) ?_)
     refine l_yes rfl rfl rfl (o_val (r_mv) ?_)
     refine l_yes rfl rfl rfl (o_val (r_mv) ?_)
     refine l_yes rfl rfl rfl (o_val (r_bin (a := ((verC (expB (numF 0 g.l)) h : Nat) : Int)) (b := ((verC (expB (numF 0 g.l)) h : Nat) : Int)) rfl rfl (fun _ => b_eqlB true (decide_eq_true rfl))) ?_)
     refine l_op (o_val (r_pick rfl) ?_)
     refine l_op (o_val (r_as) ?_)
     first | refine l_end ?_ | refine l_nil ?_
     refine c_ret ?_
     try dsimp only [Exit.then, Exit.inBlock]
     refine e_ret1 (v := .bool true) Try.results25 rfl ?_
     refine ⟨_, rfl, ?_⟩
     exact ⟨rfl, H.sub (List.nil_sublist _)⟩
    ·
     refine l_op (o_callR Try.func96 rfl rfl rfl (aExp_no _ ⟨hd a4, g.len, c5, numF 0 g.l⟩ (H.glOwn (i := 1) rfl (by decide) (numF_of _ (by omega) hg.sz)) (numF_bd _ (by omega) hbl) (by (try dsimp only); omega) (of_decide_eq_false (decide_eq_false hc8))) ?_)
     rintro _ w ⟨rfl, Hc⟩
     replace H : Hp _ w _ ([_, _, _, _]) := H.call Hc
     clear Hc
     refine l_op (o_val (r_mv) ?_)
     refine l_op (o_val (r_ext rfl rfl) ?_)
     refine l_op (o_val (r_ext rfl rfl) ?_)
     refine l_op (o_val (r_as) ?_)
     refine l_op (o_val (r_as) ?_)
     first | refine l_end ?_ | refine l_nil ?_
     repeat refine c_seq ?_
     refine c_region ?_
     refine l_op (o_val (r_mv) ?_)
     refine l_op (o_callR Try.func97 rfl rfl rfl (aExpr_no _ ⟨hd a4, g.len, c5, numF 0 g.l⟩ (H.glOwn (i := 1) rfl (by decide) (numF_of _ (by omega) hg.sz)) (numF_bd _ (by omega) hbl) (by (try dsimp only); omega) (of_decide_eq_false (decide_eq_false hc8))) ?_)
     rintro _ w ⟨rfl, Hc⟩
     replace H : Hp _ w _ ([_, _, _, _]) := H.call Hc
     clear Hc
     refine l_op (o_val (r_mv) ?_)
     refine l_op (o_val (r_ext rfl rfl) ?_)
     refine l_op (o_val (r_ext rfl rfl) ?_)
     refine l_op (o_val (r_as) ?_)
     refine l_op (o_val (r_as) ?_)
     first | refine l_end ?_ | refine l_nil ?_
     repeat refine c_seq ?_
     refine c_region ?_
     refine l_op (o_val (r_ldAA (l := headV (numF 0 g.l)) H (i := 2) rfl rfl rt31 (show (headV (numF 0 g.l)).length = 32 from (headV_len _))) ?_)
     refine l_op (o_val (r_ldAA (l := headV (numF 0 g.l)) H (i := 3) rfl rfl rt31 (show (headV (numF 0 g.l)).length = 32 from (headV_len _))) ?_)
     refine l_op (o_val (r_nea (a := headV (numF 0 g.l)) (b := headV (numF 0 g.l)) Try.underlying31 Try.underlying5 cs5 rfl rfl (show (headV (numF 0 g.l)).length = 32 from (headV_len _)) (show (headV (numF 0 g.l)).length = 32 from (headV_len _))) ?_)
     refine l_op (o_val (r_mv) ?_)
     refine l_yes rfl rfl (by exact congrArg Value.bool (congrArg not (decide_eq_true (rfl : headV (numF 0 g.l) = headV (numF 0 g.l))))) (o_val (r_mv) ?_)
     refine l_yes rfl rfl (by exact congrArg Value.bool (congrArg not (decide_eq_true (rfl : headV (numF 0 g.l) = headV (numF 0 g.l))))) (o_val (r_mv) ?_)
     refine l_yes rfl rfl (by exact congrArg Value.bool (congrArg not (decide_eq_true (rfl : headV (numF 0 g.l) = headV (numF 0 g.l))))) (o_val (r_bin (a := ((headC (numF 0 g.l) : Nat) : Int)) (b := ((headC (numF 0 g.l) : Nat) : Int)) rfl rfl (fun _ => b_neqB false (decide_eq_false (fun h => h rfl)))) ?_)
     refine l_op (o_val (r_pick (b := false) (congrArg Value.bool (congrArg not (decide_eq_true (rfl : headV (numF 0 g.l) = headV (numF 0 g.l)))))) ?_)
     refine l_op (o_val (r_mv) ?_)
     refine l_yes rfl rfl rfl (o_val (r_mv) ?_)
     refine l_yes rfl rfl rfl (o_val (r_mv) ?_)
     refine l_yes rfl rfl rfl (o_val (r_bin (a := ((headC (numF 0 g.l) : Nat) : Int)) (b := ((headC (numF 0 g.l) : Nat) : Int)) rfl rfl (fun _ => b_neqB false (decide_eq_false (fun h => h rfl)))) ?_)
     refine l_op (o_val (r_pick rfl) ?_)
     refine l_op (o_val (r_mv) ?_)
     refine l_yes rfl rfl rfl (o_val (r_mv) ?_)
     refine l_yes rfl rfl rfl (o_val (r_b2S (s := ⟨none, 0, 0, []⟩) Try.underlying29 Try.underlying5 Try.underlying9 rfl (Sl.ok_nil _)) ?_)
     refine l_yes rfl rfl rfl (o_val (r_mv) ?_)
     refine l_yes rfl rfl rfl (o_val (r_b2S (s := ⟨none, 0, 0, []⟩) Try.underlying29 Try.underlying5 Try.underlying9 rfl (Sl.ok_nil _)) ?_)
     refine l_yes rfl rfl rfl (o_val (r_strne (a := ([] : List UInt8)) (b := ([] : List UInt8)) rfl rfl) ?_)
     refine l_op (o_val (r_pick rfl) ?_)
     first | refine l_end ?_ | refine l_nil ?_
     repeat refine c_seq ?_
     refine c_no (by exact congrArg Value.bool (congrArg not (decide_eq_true (rfl : ([] : List UInt8) = ([] : List UInt8))))) ?_
     refine c_skip ?_
     repeat refine c_seq ?_
     refine c_region ?_
     refine l_op (o_val (r_mv) ?_)
     refine l_op (o_val (r_ldAA (l := headV (numF 0 g.l)) H (i := 3) rfl rfl rt31 (show (headV (numF 0 g.l)).length = 32 from (headV_len _))) ?_)
     refine l_op (o_callR Try.func98 rfl rfl rfl (aVerify_ret _ ⟨none, 0, 0, []⟩ (Sl.ok_nil _) (show 0 ≤ 65536 by omega) (headV (numF 0 g.l)) (show (headV (numF 0 g.l)).length = 32 from (headV_len _))) ?_)
     rintro _ w ⟨rfl, Hc⟩
     replace H : Hp _ w _ ([_, _, _, _]) := H.call Hc
     clear Hc
     refine l_op (o_val (r_mv) ?_)
     refine l_op (o_val (r_ext rfl rfl) ?_)
     refine l_op (o_val (r_ext rfl rfl) ?_)
     refine l_op (o_val (r_as) ?_)
     refine l_op (o_val (r_as) ?_)
     first | refine l_end ?_ | refine l_nil ?_
     repeat refine c_seq ?_
     refine c_region ?_
     refine l_op (o_val (r_mv) ?_)
     refine l_op (o_val (r_ldAA (l := headV (numF 0 g.l)) H (i := 3) rfl rfl rt31 (show (headV (numF 0 g.l)).length = 32 from (headV_len _))) ?_)
     refine l_op (o_callR Try.func99 rfl rfl rfl (aVerifyr_ret _ ⟨none, 0, 0, []⟩ (Sl.ok_nil _) (show 0 ≤ 65536 by omega) (headV (numF 0 g.l)) (show (headV (numF 0 g.l)).length = 32 from (headV_len _))) ?_)
     rintro _ w ⟨rfl, Hc⟩
     replace H : Hp _ w _ ([_, _, _, _]) := H.call Hc
     clear Hc
     refine l_op (o_val (r_mv) ?_)
     refine l_op (o_val (r_ext rfl rfl) ?_)
     refine l_op (o_val (r_ext rfl rfl) ?_)
     refine l_op (o_val (r_as) ?_)
     refine l_op (o_val (r_as) ?_)
     first | refine l_end ?_ | refine l_nil ?_
     repeat refine c_seq ?_
     refine c_region ?_
     refine l_op (o_val (r_mv) ?_)
     refine l_op (o_val (r_ldAA (l := h) H (i := 0) rfl rfl rt31 (show (h).length = 32 from hh)) ?_)
     refine l_op (o_callR Try.func98 rfl rfl rfl (aVerify_ret _ ⟨none, 0, 0, []⟩ (Sl.ok_nil _) (show 0 ≤ 65536 by omega) h (show (h).length = 32 from hh)) ?_)
     rintro _ w ⟨rfl, Hc⟩
     replace H : Hp _ w _ ([_, _, _, _]) := H.call Hc
     clear Hc
     refine l_op (o_val (r_mv) ?_)
     refine l_op (o_val (r_ext rfl rfl) ?_)
     refine l_op (o_val (r_ext rfl rfl) ?_)
     refine l_op (o_val (r_as) ?_)
     refine l_op (o_val (r_as) ?_)
     first | refine l_end ?_ | refine l_nil ?_
     repeat refine c_seq ?_
     refine c_region ?_
     refine l_op (o_val (r_mv) ?_)
     refine l_op (o_val (r_ldAA (l := h) H (i := 0) rfl rfl rt31 (show (h).length = 32 from hh)) ?_)
     refine l_op (o_callR Try.func99 rfl rfl rfl (aVerifyr_ret _ ⟨none, 0, 0, []⟩ (Sl.ok_nil _) (show 0 ≤ 65536 by omega) h (show (h).length = 32 from hh)) ?_)
     rintro _ w ⟨rfl, Hc⟩
     replace H : Hp _ w _ ([_, _, _, _]) := H.call Hc
     clear Hc
     refine l_op (o_val (r_mv) ?_)
     refine l_op (o_val (r_ext rfl rfl) ?_)
     refine l_op (o_val (r_ext rfl rfl) ?_)
     refine l_op (o_val (r_as) ?_)
     refine l_op (o_val (r_as) ?_)
     first | refine l_end ?_ | refine l_nil ?_
     repeat refine c_seq ?_
     refine c_region ?_
     refine l_op (o_val (r_mv) ?_)
     refine l_op (o_val (r_mv) ?_)
     refine l_op (o_val (r_bin (a := ((verN ([] : List UInt8) (headV (numF 0 g.l)) : Nat) : Int)) (b := ((verN ([] : List UInt8) (headV (numF 0 g.l)) : Nat) : Int)) rfl rfl (fun _ => b_eqlB true (decide_eq_true rfl))) ?_)
     refine l_op (o_val (r_mv) ?_)
     refine l_yes rfl rfl rfl (o_val (r_mv) ?_)
     refine l_yes rfl rfl rfl (o_val (r_mv) ?_)
     refine l_yes rfl rfl rfl (o_val (r_bin (a := ((verC ([] : List UInt8) (headV (numF 0 g.l)) : Nat) : Int)) (b := ((verC ([] : List UInt8) (headV (numF 0 g.l)) : Nat) : Int)) rfl rfl (fun _ => b_eqlB true (decide_eq_true rfl))) ?_)
     refine l_op (o_val (r_pick rfl) ?_)
     refine l_op (o_val (r_mv) ?_)
     refine l_yes rfl rfl rfl (o_val (r_mv) ?_)
     refine l_yes rfl rfl rfl (o_val (r_mv) ?_)
     refine l_yes rfl rfl rfl (o_val (r_bin (a := ((verN ([] : List UInt8) h : Nat) : Int)) (b := ((verN ([] : List UInt8) h : Nat) : Int)) rfl rfl (fun _ => b_eqlB true (decide_eq_true rfl))) ?_)
     refine l_op (o_val (r_pick rfl) ?_)
     refine l_op (o_val (r_mv) ?_)
     refine l_yes rfl rfl rfl (o_val (r_mv) ?_)
     refine l_yes rfl rfl rfl (o_val (r_mv) ?_)
     refine l_yes rfl rfl rfl (o_val (r_bin (a := ((verC ([] : List UInt8) h : Nat) : Int)) (b := ((verC ([] : List UInt8) h : Nat) : Int)) rfl rfl (fun _ => b_eqlB true (decide_eq_true rfl))) ?_)
     refine l_op (o_val (r_pick rfl) ?_)
     refine l_op (o_val (r_as) ?_)
     first | refine l_end ?_ | refine l_nil ?_
     refine c_ret ?_
     try dsimp only [Exit.then, Exit.inBlock]
     refine e_ret1 (v := .bool true) Try.results25 rfl ?_
     refine ⟨_, rfl, ?_⟩
     exact ⟨rfl, H.sub (List.nil_sublist _)⟩
   ·
    repeat refine c_seq ?_
    refine c_no (by exact congrArg Value.bool hc3) ?_
    refine c_skip ?_
    repeat refine c_seq ?_
    refine c_region ?_
    refine l_op (o_val (r_mv) ?_)
    refine l_op (o_callR Try.func94 rfl rfl rfl (aHead_ret _ g (hg.up H) hbl (by (try dsimp only); omega)) ?_)
    rintro _ w ⟨rfl, Hc⟩
    replace H : Hp _ w _ ([_]) := H.call Hc
    clear Hc
    refine l_op (o_val (r_mv) ?_)
    refine l_op (o_val (r_ext rfl rfl) ?_)
    refine l_op (o_val (r_ext rfl rfl) ?_)
    refine l_op (o_alloc H zc31 (fun b19 w H hb19 => ?_))
    replace H : Hp _ w _ ([_, .blk b19 ((List.replicate 32 (0 : UInt8)).map V8) 31]) := H
    refine l_op (o_stA (l' := headV g.l) H (i := 1) rfl rfl rfl cs31 (show (List.replicate 32 (0 : UInt8)).length = 32 from (List.length_replicate ..)) (show (headV g.l).length = 32 from (headV_len _)) (fun w H => ?_))
    replace H : Hp _ w _ ([_, .blk b19 ((headV g.l).map V8) 31]) := H
    refine l_op (o_val (r_as) ?_)
    first | refine l_end ?_ | refine l_nil ?_
    repeat refine c_seq ?_
    refine c_region ?_
    refine l_op (o_val (r_mv) ?_)
    refine l_op (o_callR Try.func95 rfl rfl rfl (aHeadr_ret _ g (hg.up H) hbl (by (try dsimp only); omega)) ?_)
    rintro _ w ⟨rfl, Hc⟩
    replace H : Hp _ w _ ([_, _]) := H.call Hc
    clear Hc
    refine l_op (o_val (r_mv) ?_)
    refine l_op (o_val (r_ext rfl rfl) ?_)
    refine l_op (o_val (r_ext rfl rfl) ?_)
    refine l_op (o_alloc H zc31 (fun b20 w H hb20 => ?_))
    replace H : Hp _ w _ ([_, _, .blk b20 ((List.replicate 32 (0 : UInt8)).map V8) 31]) := H
    refine l_op (o_stA (l' := headV g.l) H (i := 2) rfl rfl rfl cs31 (show (List.replicate 32 (0 : UInt8)).length = 32 from (List.length_replicate ..)) (show (headV g.l).length = 32 from (headV_len _)) (fun w H => ?_))
    replace H : Hp _ w _ ([_, _, .blk b20 ((headV g.l).map V8) 31]) := H
    refine l_op (o_val (r_as) ?_)
    first | refine l_end ?_ | refine l_nil ?_
    repeat refine c_seq ?_
    refine c_region ?_
    refine l_op (o_val (r_mv) ?_)
    by_cases hc21 : headC g.l = 0
    ·
     refine l_op (o_callR Try.func96 rfl rfl rfl (aExp_ok _ g (hg.up H) hbl (by (try dsimp only); omega) (of_decide_eq_true (decide_eq_true hc21))) ?_)
     rintro _ w ⟨a22, n23, c24, rfl, hn25, hx26, Hc⟩
     replace H : Hp _ w _ ([_, _, _, .own a22 n23 c24 ((expB g.l).map V8) 5 1]) := H.call Hc
     clear Hc
     try dsimp only at hn25
     try dsimp only at hx26
     refine l_op (o_val (r_mv) ?_)
     refine l_op (o_val (r_ext rfl rfl) ?_)
     refine l_op (o_val (r_ext rfl rfl) ?_)
     refine l_op (o_val (r_as) ?_)
     refine l_op (o_val (r_as) ?_)
     first | refine l_end ?_ | refine l_nil ?_
     repeat refine c_seq ?_
     refine c_region ?_
     refine l_op (o_val (r_mv) ?_)
     refine l_op (o_callR Try.func97 rfl rfl rfl (aExpr_ok _ g (hg.up H) hbl (by (try dsimp only); omega) (of_decide_eq_true (decide_eq_true hc21))) ?_)
     rintro _ w ⟨a27, n28, c29, rfl, hn30, hx31, Hc⟩
     replace H : Hp _ w _ ([_, _, _, _, .own a27 n28 c29 ((expB g.l).map V8) 5 1]) := H.call Hc
     clear Hc
     try dsimp only at hn30
     try dsimp only at hx31
     refine l_op (o_val (r_mv) ?_)
     refine l_op (o_val (r_ext rfl rfl) ?_)
     refine l_op (o_val (r_ext rfl rfl) ?_)
     refine l_op (o_val (r_as) ?_)
     refine l_op (o_val (r_as) ?_)
     first | refine l_end ?_ | refine l_nil ?_
     repeat refine c_seq ?_
     refine c_region ?_
     refine l_op (o_val (r_ldAA (l := headV g.l) H (i := 1) rfl rfl rt31 (show (headV g.l).length = 32 from (headV_len _))) ?_)
     refine l_op (o_val (r_ldAA (l := headV g.l) H (i := 2) rfl rfl rt31 (show (headV g.l).length = 32 from (headV_len _))) ?_)
     refine l_op (o_val (r_nea (a := headV g.l) (b := headV g.l) Try.underlying31 Try.underlying5 cs5 rfl rfl (show (headV g.l).length = 32 from (headV_len _)) (show (headV g.l).length = 32 from (headV_len _))) ?_)
     refine l_op (o_val (r_mv) ?_)
     refine l_yes rfl rfl (by exact congrArg Value.bool (congrArg not (decide_eq_true (rfl : headV g.l = headV g.l)))) (o_val (r_mv) ?_)
     refine l_yes rfl rfl (by exact congrArg Value.bool (congrArg not (decide_eq_true (rfl : headV g.l = headV g.l)))) (o_val (r_mv) ?_)
     refine l_yes rfl rfl (by exact congrArg Value.bool (congrArg not (decide_eq_true (rfl : headV g.l = headV g.l)))) (o_val (r_bin (a := ((headC g.l : Nat) : Int)) (b := ((headC g.l : Nat) : Int)) rfl rfl (fun _ => b_neqB false (decide_eq_false (fun h => h rfl)))) ?_)
     refine l_op (o_val (r_pick (b := false) (congrArg Value.bool (congrArg not (decide_eq_true (rfl : headV g.l = headV g.l))))) ?_)
     refine l_op (o_val (r_mv) ?_)
     refine l_yes rfl rfl rfl (o_val (r_mv) ?_)
     refine l_yes rfl rfl rfl (o_val (r_mv) ?_)
     refine l_yes rfl rfl rfl (o_val (r_bin (a := 0) (b := 0) rfl rfl (fun _ => b_neqB false (decide_eq_false (by decide)))) ?_)
     refine l_op (o_val (r_pick rfl) ?_)
     refine l_op (o_val (r_mv) ?_)
     refine l_yes rfl rfl rfl (o_val (r_mv) ?_)
     refine l_yes rfl rfl rfl (o_val (r_b2S (s := ⟨hd a22, n23, c24, expB g.l⟩) Try.underlying29 Try.underlying5 Try.underlying9 rfl (H.slOwn (i := 3) rfl)) ?_)
     refine l_yes rfl rfl rfl (o_val (r_mv) ?_)
     refine l_yes rfl rfl rfl (o_val (r_b2S (s := ⟨hd a27, n28, c29, expB g.l⟩) Try.underlying29 Try.underlying5 Try.underlying9 rfl (H.slOwn (i := 4) rfl)) ?_)
     refine l_yes rfl rfl rfl (o_val (r_strne (a := expB g.l) (b := expB g.l) rfl rfl) ?_)
     refine l_op (o_val (r_pick rfl) ?_)
     first | refine l_end ?_ | refine l_nil ?_
     repeat refine c_seq ?_
     refine c_no (by exact congrArg Value.bool (congrArg not (decide_eq_true (rfl : expB g.l = expB g.l)))) ?_
     refine c_skip ?_
     repeat refine c_seq ?_
     refine c_region ?_
     refine l_op (o_val (r_mv) ?_)
     refine l_op (o_val (r_ldAA (l := headV g.l) H (i := 2) rfl rfl rt31 (show (headV g.l).length = 32 from (headV_len _))) ?_)
     refine l_op (o_callR Try.func98 rfl rfl rfl (aVerify_ret _ ⟨hd a27, n28, c29, expB g.l⟩ (H.slOwn (i := 4) rfl) (show n28 ≤ 65536 by omega) (headV g.l) (show (headV g.l).length = 32 from (headV_len _))) ?_)
     rintro _ w ⟨rfl, Hc⟩
     replace H : Hp _ w _ ([_, _, _, _, _]) := H.call Hc
     clear Hc
     refine l_op (o_val (r_mv) ?_)
     refine l_op (o_val (r_ext rfl rfl) ?_)
     refine l_op (o_val (r_ext rfl rfl) ?_)
     refine l_op (o_val (r_as) ?_)
     refine l_op (o_val (r_as) ?_)
     first | refine l_end ?_ | refine l_nil ?_
     repeat refine c_seq ?_
     refine c_region ?_
     refine l_op (o_val (r_mv) ?_)
     refine l_op (o_val (r_ldAA (l := headV g.l) H (i := 2) rfl rfl rt31 (show (headV g.l).length = 32 from (headV_len _))) ?_)
     refine l_op (o_callR Try.func99 rfl rfl rfl (aVerifyr_ret _ ⟨hd a27, n28, c29, expB g.l⟩ (H.slOwn (i := 4) rfl) (show n28 ≤ 65536 by omega) (headV g.l) (show (headV g.l).length = 32 from (headV_len _))) ?_)
     rintro _ w ⟨rfl, Hc⟩
     replace H : Hp _ w _ ([_, _, _, _, _]) := H.call Hc
     clear Hc
     refine l_op (o_val (r_mv) ?_)
     refine l_op (o_val (r_ext rfl rfl) ?_)
     refine l_op (o_val (r_ext rfl rfl) ?_)
     refine l_op (o_val (r_as) ?_)
     refine l_op (o_val (r_as) ?_)
     first | refine l_end ?_ | refine l_nil ?_
     repeat refine c_seq ?_
     refine c_region ?_
     refine l_op (o_val (r_mv) ?_)
     refine l_op (o_val (r_ldAA (l := h) H (i := 0) rfl rfl rt31 (show (h).length = 32 from hh)) ?_)
     refine l_op (o_callR Try.func98 rfl rfl rfl (aVerify_ret _ ⟨hd a27, n28, c29, expB g.l⟩ (H.slOwn (i := 4) rfl) (show n28 ≤ 65536 by omega) h (show (h).length = 32 from hh)) ?_)
     rintro _ w ⟨rfl, Hc⟩
     replace H : Hp _ w _ ([_, _, _, _, _]) := H.call Hc
     clear Hc
     refine l_op (o_val (r_mv) ?_)
     refine l_op (o_val (r_ext rfl rfl) ?_)
     refine l_op (o_val (r_ext rfl rfl) ?_)
     refine l_op (o_val (r_as) ?_)
     refine l_op (o_val (r_as) ?_)
     first | refine l_end ?_ | refine l_nil ?_
     repeat refine c_seq ?_
     refine c_region ?_
     refine l_op (o_val (r_mv) ?_)
     refine l_op (o_val (r_ldAA (l := h) H (i := 0) rfl rfl rt31 (show (h).length = 32 from hh)) ?_)
     refine l_op (o_callR Try.func99 rfl rfl rfl (aVerifyr_ret _ ⟨hd a27, n28, c29, expB g.l⟩ (H.slOwn (i := 4) rfl) (show n28 ≤ 65536 by omega) h (show (h).length = 32 from hh)) ?_)
     rintro _ w ⟨rfl, Hc⟩
     replace H : Hp _ w _ ([_, _, _, _, _]) := H.call Hc
     clear Hc
     refine l_op (o_val (r_mv) ?_)
     refine l_op (o_val (r_ext rfl rfl) ?_)
     refine l_op (o_val (r_ext rfl rfl) ?_)
     refine l_op (o_val (r_as) ?_)
     refine l_op (o_val (r_as) ?_)
     first | refine l_end ?_ | refine l_nil ?_
     repeat refine c_seq ?_
     refine c_region ?_
     refine l_op (o_val (r_mv) ?_)
     refine l_op (o_val (r_mv) ?_)
     refine l_op (o_val (r_bin (a := ((verN (expB g.l) (headV g.l) : Nat) : Int)) (b := ((verN (expB g.l) (headV g.l) : Nat) : Int)) rfl rfl (fun _ => b_eqlB true (decide_eq_true rfl))) ?_)
     refine l_op (o_val (r_mv) ?_)
     refine l_yes rfl rfl rfl (o_val (r_mv) ?_)
     refine l_yes rfl rfl rfl (o_val (r_mv) ?_)
     refine l_yes rfl rfl rfl (o_val (r_bin (a := ((verC (expB g.l) (headV g.l) : Nat) : Int)) (b := ((verC (expB g.l) (headV g.l) : Nat) : Int)) rfl rfl (fun _ => b_eqlB true (decide_eq_true rfl))) ?_)
     refine l_op (o_val (r_pick rfl) ?_)
     refine l_op (o_val (r_mv) ?_)
     refine l_yes rfl rfl rfl (o_val (r_mv) ?_)
     refine l_yes rfl rfl rfl (o_val (r_mv) ?_)
     refine l_yes rfl rfl rfl (o_val (r_bin (a := ((verN (expB g.l) h : Nat) : Int)) (b := ((verN (expB g.l) h : Nat) : Int)) rfl rfl (fun _ => b_eqlB true (decide_eq_true rfl))) ?_)
     refine l_op (o_val (r_pick rfl) ?_)
     refine l_op (o_val (r_mv) ?_)
     refine l_yes rfl rfl rfl (o_val (r_mv) ?_)
     refine l_yes rfl rfl rfl (o_val (r_mv) ?_)
     refine l_yes rfl rfl rfl (o_val (r_bin (a := ((verC (expB g.l) h : Nat) : Int)) (b := ((verC (expB g.l) h : Nat) : Int)) rfl rfl (fun _ => b_eqlB true (decide_eq_true rfl))) ?_)
     refine l_op (o_val (r_pick rfl) ?_)
     refine l_op (o_val (r_as) ?_)
     first | refine l_end ?_ | refine l_nil ?_
     refine c_ret ?_
     try dsimp only [Exit.then, Exit.inBlock]
     refine e_ret1 (v := .bool true) Try.results25 rfl ?_
     refine ⟨_, rfl, ?_⟩
     exact ⟨rfl, H.sub (List.nil_sublist _)⟩
    ·
     refine l_op (o_callR Try.func96 rfl rfl rfl (aExp_no _ g (hg.up H) hbl (by (try dsimp only); omega) (of_decide_eq_false (decide_eq_false hc21))) ?_)
     rintro _ w ⟨rfl, Hc⟩
     replace H : Hp _ w _ ([_, _, _]) := H.call Hc
     clear Hc
     refine l_op (o_val (r_mv) ?_)
     refine l_op (o_val (r_ext rfl rfl) ?_)
     refine l_op (o_val (r_ext rfl rfl) ?_)
     refine l_op (o_val (r_as) ?_)
     refine l_op (o_val (r_as) ?_)
     first | refine l_end ?_ | refine l_nil ?_
     repeat refine c_seq ?_
     refine c_region ?_
     refine l_op (o_val (r_mv) ?_)
     refine l_op (o_callR Try.func97 rfl rfl rfl (aExpr_no _ g (hg.up H) hbl (by (try dsimp only); omega) (of_decide_eq_false (decide_eq_false hc21))) ?_)
     rintro _ w ⟨rfl, Hc⟩
     replace H : Hp _ w _ ([_, _, _]) := H.call Hc
     clear Hc
     refine l_op (o_val (r_mv) ?_)
     refine l_op (o_val (r_ext rfl rfl) ?_)
     refine l_op (o_val (r_ext rfl rfl) ?_)
     refine l_op (o_val (r_as) ?_)
     refine l_op (o_val (r_as) ?_)
     first | refine l_end ?_ | refine l_nil ?_
     repeat refine c_seq ?_
     refine c_region ?_
     refine l_op (o_val (r_ldAA (l := headV g.l) H (i := 1) rfl rfl rt31 (show (headV g.l).length = 32 from (headV_len _))) ?_)
     refine l_op (o_val (r_ldAA (l := headV g.l) H (i := 2) rfl rfl rt31 (show (headV g.l).length = 32 from (headV_len _))) ?_)
     refine l_op (o_val (r_nea (a := headV g.l) (b := headV g.l) Try.underlying31 Try.underlying5 cs5 rfl rfl (show (headV g.l).length = 32 from (headV_len _)) (show (headV g.l).length = 32 from (headV_len _))) ?_)
     refine l_op (o_val (r_mv) ?_)
     refine l_yes rfl rfl (by exact congrArg Value.bool (congrArg not (decide_eq_true (rfl : headV g.l = headV g.l)))) (o_val (r_mv) ?_)
     refine l_yes rfl rfl (by exact congrArg Value.bool (congrArg not (decide_eq_true (rfl : headV g.l = headV g.l)))) (o_val (r_mv) ?_)
     refine l_yes rfl rfl (by exact congrArg Value.bool (congrArg not (decide_eq_true (rfl : headV g.l = headV g.l)))) (o_val (r_bin (a := ((headC g.l : Nat) : Int)) (b := ((headC g.l : Nat) : Int)) rfl rfl (fun _ => b_neqB false (decide_eq_false (fun h => h rfl)))) ?_)
     refine l_op (o_val (r_pick (b := false) (congrArg Value.bool (congrArg not (decide_eq_true (rfl : headV g.l = headV g.l))))) ?_)
     refine l_op (o_val (r_mv) ?_)
     refine l_yes rfl rfl rfl (o_val (r_mv) ?_)
     refine l_yes rfl rfl rfl (o_val (r_mv) ?_)
     refine l_yes rfl rfl rfl (o_val (r_bin (a := ((headC g.l : Nat) : Int)) (b := ((headC g.l : Nat) : Int)) rfl rfl (fun _ => b_neqB false (decide_eq_false (fun h => h rfl)))) ?_)
     refine l_op (o_val (r_pick rfl) ?_)
     refine l_op (o_val (r_mv) ?_)
     refine l_yes rfl rfl rfl (o_val (r_mv) ?_)
     refine l_yes rfl rfl rfl (o_val (r_b2S (s := ⟨none, 0, 0, []⟩) Try.underlying29 Try.underlying5 Try.underlying9 rfl (Sl.ok_nil _)) ?_)
     refine l_yes rfl rfl rfl (o_val (r_mv) ?_)
     refine l_yes rfl rfl rfl (o_val (r_b2S (s := ⟨none, 0, 0, []⟩) Try.underlying29 Try.underlying5 Try.underlying9 rfl (Sl.ok_nil _)) ?_)
     refine l_yes rfl rfl rfl (o_val (r_strne (a := ([] : List UInt8)) (b := ([] : List UInt8)) rfl rfl) ?_)
     refine l_op (o_val (r_pick rfl) ?_)
     first | refine l_end ?_ | refine l_nil ?_
     repeat refine c_seq ?_
     refine c_no (by exact congrArg Value.bool (congrArg not (decide_eq_true (rfl : ([] : List UInt8) = ([] : List UInt8))))) ?_
     refine c_skip ?_
     repeat refine c_seq ?_
     refine c_region ?_
     refine l_op (o_val (r_mv) ?_)
     refine l_op (o_val (r_ldAA (l := headV g.l) H (i := 2) rfl rfl rt31 (show (headV g.l).length = 32 from (headV_len _))) ?_)
     refine l_op (o_callR Try.func98 rfl rfl rfl (aVerify_ret _ ⟨none, 0, 0, []⟩ (Sl.ok_nil _) (show 0 ≤ 65536 by omega) (headV g.l) (show (headV g.l).length = 32 from (headV_len _))) ?_)
     rintro _ w ⟨rfl, Hc⟩
     replace H : Hp _ w _ ([_, _, _]) := H.call Hc
     clear Hc
     refine l_op (o_val (r_mv) ?_)
     refine l_op (o_val (r_ext rfl rfl) ?_)
     refine l_op (o_val (r_ext rfl rfl) ?_)
     refine l_op (o_val (r_as) ?_)
     refine l_op (o_val (r_as) ?_)
     first | refine l_end ?_ | refine l_nil ?_
     repeat refine c_seq ?_
     refine c_region ?_
     refine l_op (o_val (r_mv) ?_)
     refine l_op (o_val (r_ldAA (l := headV g.l) H (i := 2) rfl rfl rt31 (show (headV g.l).length = 32 from (headV_len _))) ?_)
     refine l_op (o_callR Try.func99 rfl rfl rfl (aVerifyr_ret _ ⟨none, 0, 0, []⟩ (Sl.ok_nil _) (show 0 ≤ 65536 by omega) (headV g.l) (show (headV g.l).length = 32 from (headV_len _))) ?_)
     rintro _ w ⟨rfl, Hc⟩
     replace H : Hp _ w _ ([_, _, _]) := H.call Hc
     clear Hc
     refine l_op (o_val (r_mv) ?_)
     refine l_op (o_val (r_ext rfl rfl) ?_)
     refine l_op (o_val (r_ext rfl rfl) ?_)
     refine l_op (o_val (r_as) ?_)
     refine l_op (o_val (r_as) ?_)
     first | refine l_end ?_ | refine l_nil ?_
     repeat refine c_seq ?_
     refine c_region ?_
     refine l_op (o_val (r_mv) ?_)
     refine l_op (o_val (r_ldAA (l := h) H (i := 0) rfl rfl rt31 (show (h).length = 32 from hh)) ?_)
     refine l_op (o_callR Try.func98 rfl rfl rfl (aVerify_ret _ ⟨none, 0, 0, []⟩ (Sl.ok_nil _) (show 0 ≤ 65536 by omega) h (show (h).length = 32 from hh)) ?_)
     rintro _ w ⟨rfl, Hc⟩
     replace H : Hp _ w _ ([_, _, _]) := H.call Hc
     clear Hc
     refine l_op (o_val (r_mv) ?_)
     refine l_op (o_val (r_ext rfl rfl) ?_)
     refine l_op (o_val (r_ext rfl rfl) ?_)
     refine l_op (o_val (r_as) ?_)
     refine l_op (o_val (r_as) ?_)
     first | refine l_end ?_ | refine l_nil ?_
     repeat refine c_seq ?_
     refine c_region ?_
     refine l_op (o_val (r_mv) ?_)
     refine l_op (o_val (r_ldAA (l := h) H (i := 0) rfl rfl rt31 (show (h).length = 32 from hh)) ?_)
     refine l_op (o_callR Try.func99 rfl rfl rfl (aVerifyr_ret _ ⟨none, 0, 0, []⟩ (Sl.ok_nil _) (show 0 ≤ 65536 by omega) h (show (h).length = 32 from hh)) ?_)
     rintro _ w ⟨rfl, Hc⟩
     replace H : Hp _ w _ ([_, _, _]) := H.call Hc
     clear Hc
     refine l_op (o_val (r_mv) ?_)
     refine l_op (o_val (r_ext rfl rfl) ?_)
     refine l_op (o_val (r_ext rfl rfl) ?_)
     refine l_op (o_val (r_as) ?_)
     refine l_op (o_val (r_as) ?_)
     first | refine l_end ?_ | refine l_nil ?_
     repeat refine c_seq ?_
     refine c_region ?_
     refine l_op (o_val (r_mv) ?_)
     refine l_op (o_val (r_mv) ?_)
     refine l_op (o_val (r_bin (a := ((verN ([] : List UInt8) (headV g.l) : Nat) : Int)) (b := ((verN ([] : List UInt8) (headV g.l) : Nat) : Int)) rfl rfl (fun _ => b_eqlB true (decide_eq_true rfl))) ?_)
     refine l_op (o_val (r_mv) ?_)
     refine l_yes rfl rfl rfl (o_val (r_mv) ?_)
     refine l_yes rfl rfl rfl (o_val (r_mv) ?_)
     refine l_yes rfl rfl rfl (o_val (r_bin (a := ((verC ([] : List UInt8) (headV g.l) : Nat) : Int)) (b := ((verC ([] : List UInt8) (headV g.l) : Nat) : Int)) rfl rfl (fun _ => b_eqlB true (decide_eq_true rfl))) ?_)
     refine l_op (o_val (r_pick rfl) ?_)
     refine l_op (o_val (r_mv) ?_)
     refine l_yes rfl rfl rfl (o_val (r_mv) ?_)
     refine l_yes rfl rfl rfl (o_val (r_mv) ?_)
     refine l_yes rfl rfl rfl (o_val (r_bin (a := ((verN ([] : List UInt8) h : Nat) : Int)) (b := ((verN ([] : List UInt8) h : Nat) : Int)) rfl rfl (fun _ => b_eqlB true (decide_eq_true rfl))) ?_)
     refine l_op (o_val (r_pick rfl) ?_)
     refine l_op (o_val (r_mv) ?_)
     refine l_yes rfl rfl rfl (o_val (r_mv) ?_)
     refine l_yes rfl rfl rfl (o_val (r_mv) ?_)
     refine l_yes rfl rfl rfl (o_val (r_bin (a := ((verC ([] : List UInt8) h : Nat) : Int)) (b := ((verC ([] : List UInt8) h : Nat) : Int)) rfl rfl (fun _ => b_eqlB true (decide_eq_true rfl))) ?_)
     refine l_op (o_val (r_pick rfl) ?_)
     refine l_op (o_val (r_as) ?_)
     first | refine l_end ?_ | refine l_nil ?_
     refine c_ret ?_
     try dsimp only [Exit.then, Exit.inBlock]
     refine e_ret1 (v := .bool true) Try.results25 rfl ?_
     refine ⟨_, rfl, ?_⟩
     exact ⟨rfl, H.sub (List.nil_sublist _)⟩
  ·
   repeat refine c_seq ?_
   refine c_yes (by exact congrArg Value.bool (congrArg not hc2)) ?_
   repeat refine c_seq ?_
   refine c_region ?_
   refine l_op (o_val (r_as) ?_)
   first | refine l_end ?_ | refine l_nil ?_
   refine c_ret ?_
   try dsimp only [Exit.then, Exit.inBlock]
   refine e_ret1 (v := .bool true) Try.results25 rfl ?_
   refine ⟨_, rfl, ?_⟩
   exact ⟨rfl, H.sub (List.nil_sublist _)⟩
end Go.Proofs.Ytjmbbhnpfmblpaa
