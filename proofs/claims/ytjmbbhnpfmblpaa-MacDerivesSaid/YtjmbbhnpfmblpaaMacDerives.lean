import Derived.Test.YtjmbbhnpfmblpaaMacB
/- layer 3: keys are made out of a key, a label and a number. -/
namespace Go.Proofs.Ytjmbbhnpfmblpaa
open Go
set_option maxRecDepth 100000
theorem macDerives_ret (w0 : World) (key l : List UInt8) (y : UInt64) (hk : key.length = 32) (hl0 : l.length ≤ maxLen) :
    Ret Try.prog 13 [.agg ((key).map V8).toArray, .string ⟨(l).toArray⟩, V64 y] w0 fun v w' => v = .bool true ∧ Hp w0 w' [] [] := by
  refine ret_mk Try.func13 rfl Try.ntmps13 (by simp) ?_
  have H := Hp.refl w0 []
  repeat refine c_seq ?_
  refine c_region ?_
  refine l_op (o_box (v := .agg ((key).map V8).toArray) H rfl (fun b1 w H hb1 => ?_))
  replace H : Hp w0 w [] ([.blk b1 ((key).map V8) 31]) := H
  refine l_op (o_val (r_as) ?_)
  first | refine l_end ?_ | refine l_nil ?_
  repeat refine c_seq ?_
  refine c_region ?_
  refine l_op (o_callR Try.func47 rfl rfl rfl (begun3_ret _) ?_)
  rintro _ w ⟨rfl, Hc⟩
  replace H : Hp w0 w [] ([.blk b1 ((key).map V8) 31]) := H.call Hc
  clear Hc
  refine l_op (o_val (r_not rfl) ?_)
  first | refine l_end ?_ | refine l_nil ?_
  repeat refine c_seq ?_
  refine c_no rfl ?_
  refine c_skip ?_
  repeat refine c_seq ?_
  refine wp_held (fun w => Hp w0 w [] [.blk b1 ((key).map V8) 31]) mixed ?_
  replace H := H.drew
  have HS := H
  refine t_take 0 rfl (by kernel_rfl) (by kernel_rfl) (by kernel_rfl) (fun _ _ _ h => h) (fun w HS => r_mv) HS ?_
  refine t_take 1 rfl (by kernel_rfl) (by kernel_rfl) (by kernel_rfl) (fun _ _ _ h => h) (fun w HS => r_lenstr (s := ⟨(l).toArray⟩) Try.underlying9 rfl) HS ?_
  refine t_take 2 rfl (by kernel_rfl) (by kernel_rfl) (by kernel_rfl) (fun _ _ _ h => h) (fun w HS => r_bin rfl rfl (fun _ => b_gtr)) HS ?_
  refine t_take 3 rfl (by kernel_rfl) (by kernel_rfl) (by kernel_rfl) (fun _ _ _ h => h) (fun w HS => r_mv) HS ?_
  by_cases hc2 : 4096 < ((l).length : Int)
  · skip
    refine t_no 4 rfl (by kernel_rfl) (by kernel_rfl) (by kernel_rfl) (fun _ _ _ h => h) (yielded_mk _ _ _ rfl _ rfl (by exact congrArg Value.bool (decide_eq_true hc2))) rfl HS ?_
    refine t_no 5 rfl (by kernel_rfl) (by kernel_rfl) (by kernel_rfl) (fun _ _ _ h => h) (yielded_mk _ _ _ rfl _ rfl (by exact congrArg Value.bool (decide_eq_true hc2))) rfl HS ?_
    refine t_no 6 rfl (by kernel_rfl) (by kernel_rfl) (by kernel_rfl) (fun _ _ _ h => h) (yielded_mk _ _ _ rfl _ rfl (by exact congrArg Value.bool (decide_eq_true hc2))) rfl HS ?_
    refine t_no 7 rfl (by kernel_rfl) (by kernel_rfl) (by kernel_rfl) (fun _ _ _ h => h) (yielded_mk _ _ _ rfl _ rfl (by exact congrArg Value.bool (decide_eq_true hc2))) rfl HS ?_
    refine t_no 8 rfl (by kernel_rfl) (by kernel_rfl) (by kernel_rfl) (fun _ _ _ h => h) (yielded_mk _ _ _ rfl _ rfl (by exact congrArg Value.bool (decide_eq_true hc2))) rfl HS ?_
    refine t_no 9 rfl (by kernel_rfl) (by kernel_rfl) (by kernel_rfl) (fun _ _ _ h => h) (yielded_mk _ _ _ rfl _ rfl (by exact congrArg Value.bool (decide_eq_true hc2))) rfl HS ?_
    refine t_no 10 rfl (by kernel_rfl) (by kernel_rfl) (by kernel_rfl) (fun _ _ _ h => h) (yielded_mk _ _ _ rfl _ rfl (by exact congrArg Value.bool (decide_eq_true hc2))) rfl HS ?_
    refine t_no 11 rfl (by kernel_rfl) (by kernel_rfl) (by kernel_rfl) (fun _ _ _ h => h) (yielded_mk _ _ _ rfl _ rfl (by exact congrArg Value.bool (decide_eq_true hc2))) rfl HS ?_
    refine t_no 12 rfl (by kernel_rfl) (by kernel_rfl) (by kernel_rfl) (fun _ _ _ h => h) (yielded_mk _ _ _ rfl _ rfl (by exact congrArg Value.bool (decide_eq_true hc2))) rfl HS ?_
    refine t_take 13 rfl (by kernel_rfl) (by kernel_rfl) (by kernel_rfl) (fun _ _ _ h => h) (fun w HS => r_pick (b := true) (congrArg Value.bool (decide_eq_true hc2))) HS ?_
    refine t_take 14 rfl (by kernel_rfl) (by kernel_rfl) (by kernel_rfl) (fun _ _ _ h => h) (fun w HS => r_as) HS ?_
    refine t_done (by kernel_rfl) ?_
    clear HS
    refine c_ret ?_
    try dsimp only [Exit.then, Exit.inBlock]
    refine e_ret1 (v := .bool true) Try.results13 rfl ?_
    refine ⟨_, rfl, ?_⟩
    exact ⟨rfl, H.sub (List.nil_sublist _)⟩
  · skip
    refine t_takeg 4 rfl (by kernel_rfl) (by kernel_rfl) (by kernel_rfl) (fun _ _ _ h => h) (yielded_mk _ _ _ rfl _ rfl (by exact congrArg Value.bool (decide_eq_false hc2))) (fun w HS => r_ldAA (l := key) HS (i := 0) rfl rfl rt31 (show (key).length = 32 from hk)) HS ?_
    refine t_takeg 5 rfl (by kernel_rfl) (by kernel_rfl) (by kernel_rfl) (fun _ _ _ h => h) (yielded_mk _ _ _ rfl _ rfl (by exact congrArg Value.bool (decide_eq_false hc2))) (fun w HS => r_mv) HS ?_
    refine t_takeg 6 rfl (by kernel_rfl) (by kernel_rfl) (by kernel_rfl) (fun _ _ _ h => h) (yielded_mk _ _ _ rfl _ rfl (by exact congrArg Value.bool (decide_eq_false hc2))) (fun w HS => r_mv) HS ?_
    refine t_takeg 8 rfl (by kernel_rfl) (by kernel_rfl) (by kernel_rfl) (fun _ _ _ h => h) (yielded_mk _ _ _ rfl _ rfl (by exact congrArg Value.bool (decide_eq_false hc2))) (fun w HS => r_ldAA (l := key) HS (i := 0) rfl rfl rt31 (show (key).length = 32 from hk)) HS ?_
    refine t_takeg 9 rfl (by kernel_rfl) (by kernel_rfl) (by kernel_rfl) (fun _ _ _ h => h) (yielded_mk _ _ _ rfl _ rfl (by exact congrArg Value.bool (decide_eq_false hc2))) (fun w HS => r_mv) HS ?_
    refine t_takeg 10 rfl (by kernel_rfl) (by kernel_rfl) (by kernel_rfl) (fun _ _ _ h => h) (yielded_mk _ _ _ rfl _ rfl (by exact congrArg Value.bool (decide_eq_false hc2))) (fun w HS => r_mv) HS ?_
    refine t_stepg 7 rfl (by kernel_rfl) (yielded_mk _ _ _ rfl _ rfl (by exact congrArg Value.bool (decide_eq_false hc2))) (o_callR Try.func56 rfl rfl rfl (derive_ret _ (key) (show (key).length = 32 from hk) (l) (by omega) (y)) ?_)
    rintro _ w ⟨rfl, Hc⟩
    replace H : Hp w0 w [] ([.blk b1 ((key).map V8) 31]) := H.call Hc
    clear Hc
    refine ⟨H, ?_⟩
    replace HS := H
    refine t_stepg 11 rfl (by kernel_rfl) (yielded_mk _ _ _ rfl _ rfl (by exact congrArg Value.bool (decide_eq_false hc2))) (o_callR Try.func57 rfl rfl rfl (derive3_ret _ (key) (show (key).length = 32 from hk) (l) (by omega) (y)) ?_)
    rintro _ w ⟨rfl, Hc⟩
    replace H : Hp w0 w [] ([.blk b1 ((key).map V8) 31]) := H.call Hc
    clear Hc
    refine ⟨H, ?_⟩
    replace HS := H
    refine t_takeg 12 rfl (by kernel_rfl) (by kernel_rfl) (by kernel_rfl) (fun _ _ _ h => h) (yielded_mk _ _ _ rfl _ rfl (by exact congrArg Value.bool (decide_eq_false hc2))) (fun w HS => r_eqa (a := hmac (key) (framed [l, be (y).toNat 8])) (b := hmac (key) (framed [l, be (y).toNat 8])) Try.underlying31 Try.underlying5 cs5 rfl rfl (show (hmac (key) (framed [l, be (y).toNat 8])).length = 32 from hmac_len _ _) (show (hmac (key) (framed [l, be (y).toNat 8])).length = 32 from hmac_len _ _)) HS ?_
    have hk3 : (decide (hmac (key) (framed [l, be (y).toNat 8]) = hmac (key) (framed [l, be (y).toNat 8]))) = true := decide_eq_true rfl
    refine t_take 13 rfl (by kernel_rfl) (by kernel_rfl) (by kernel_rfl) (fun _ _ _ h => h) (fun w HS => r_pick (b := false) (congrArg Value.bool (decide_eq_false hc2))) HS ?_
    refine t_take 14 rfl (by kernel_rfl) (by kernel_rfl) (by kernel_rfl) (fun _ _ _ h => h) (fun w HS => r_as) HS ?_
    refine t_done (by kernel_rfl) ?_
    clear HS
    refine c_ret ?_
    try dsimp only [Exit.then, Exit.inBlock]
    refine e_ret1 (v := .bool (decide (hmac (key) (framed [l, be (y).toNat 8]) = hmac (key) (framed [l, be (y).toNat 8])))) Try.results13 rfl ?_
    refine ⟨_, rfl, ?_⟩
    exact ⟨congrArg Value.bool hk3, H.sub (List.nil_sublist _)⟩
end Go.Proofs.Ytjmbbhnpfmblpaa
