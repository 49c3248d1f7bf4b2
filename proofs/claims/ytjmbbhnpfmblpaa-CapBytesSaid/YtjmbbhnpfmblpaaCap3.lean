import Derived.Test.YtjmbbhnpfmblpaaCap2
/- cap: Issue, Less, Check. -/
namespace Go.Proofs.Ytjmbbhnpfmblpaa
open Go
set_option maxRecDepth 100000
theorem issue_ok (w0 : World) (key : List UInt8) (hk : key.length = 32) (t : Tok) (hc : t.cs.ok cavE 2 w0) (htag : t.tag.length = 32) (hn : t.tenant.length ≤ 65536) (hm : mayT t = true) (h0 : t.cs.len = 0) :
    Ret Try.prog 68 [.agg ((key).map V8).toArray, .agg ([V64 t.serial, .string ⟨(t.tenant).toArray⟩, V8 t.rights, VI t.from_, VI t.until_, t.cs.v] ++ (t.tag).map V8).toArray] w0 fun v w' => v = .tuple #[.agg ([V64 t.serial, .string ⟨(t.tenant).toArray⟩, V8 t.rights, VI t.from_, VI t.until_, .slice none 0 0] ++ (hmac key (framed [t.head])).map V8).toArray, VI 0] ∧ Hp w0 w' [] [] := by
  refine ret_mk Try.func68 rfl Try.ntmps68 (by simp) ?_
  have H := Hp.refl w0 []
  repeat refine c_seq ?_
  refine c_region ?_
  refine l_op (o_box (v := .agg ((key).map V8).toArray) H rfl (fun b1 w H hb1 => ?_))
  replace H : Hp w0 w [] ([.blk b1 ((key).map V8) 31]) := H
  refine l_op (o_box (v := .agg ([V64 t.serial, .string ⟨(t.tenant).toArray⟩, V8 t.rights, VI t.from_, VI t.until_, t.cs.v] ++ (t.tag).map V8).toArray) H rfl (fun b2 w H hb2 => ?_))
  replace H : Hp w0 w [] ([.blk b1 ((key).map V8) 31, .blk b2 ([V64 t.serial, .string ⟨(t.tenant).toArray⟩, V8 t.rights, VI t.from_, VI t.until_, t.cs.v] ++ (t.tag).map V8) 76]) := H
  refine l_op (o_alloc H zc76 (fun b3 w H hb3 => ?_))
  replace H : Hp w0 w [] ([.blk b1 ((key).map V8) 31, .blk b2 ([V64 t.serial, .string ⟨(t.tenant).toArray⟩, V8 t.rights, VI t.from_, VI t.until_, t.cs.v] ++ (t.tag).map V8) 76, .blk b3 ([V64 (0 : UInt64), .string ⟨(([] : List UInt8)).toArray⟩, V8 (0 : UInt8), VI 0, VI 0, .slice none 0 0] ++ (List.replicate 32 (0 : UInt8)).map V8) 76]) := H
  refine l_op (o_val (r_as) ?_)
  first | refine l_end ?_ | refine l_nil ?_
  repeat refine c_seq ?_
  refine c_region ?_
  refine l_op (o_val (r_ldA (C := [V64 t.serial, .string ⟨(t.tenant).toArray⟩, V8 t.rights, VI t.from_, VI t.until_, t.cs.v] ++ (t.tag).map V8) H (i := 1) rfl rfl rt76 (by rw [List.length_append, List.length_map, (show (t.tag).length = 32 from htag)]; rfl)) ?_)
  refine l_op (o_callR Try.func75 rfl rfl rfl (may_ret _ t (hc.up H) (show (t.tag).length = 32 from htag) (by first | omega | (dsimp only; omega) | simp)) ?_)
  rintro _ w ⟨rfl, Hc⟩
  replace H : Hp w0 w [] ([.blk b1 ((key).map V8) 31, .blk b2 ([V64 t.serial, .string ⟨(t.tenant).toArray⟩, V8 t.rights, VI t.from_, VI t.until_, t.cs.v] ++ (t.tag).map V8) 76, .blk b3 ([V64 (0 : UInt64), .string ⟨(([] : List UInt8)).toArray⟩, V8 (0 : UInt8), VI 0, VI 0, .slice none 0 0] ++ (List.replicate 32 (0 : UInt8)).map V8) 76]) := H.call Hc
  clear Hc
  have hk4 : (mayT t) = true := hm
  refine l_op (o_val (r_not rfl) ?_)
  refine l_op (o_val (r_mv) ?_)
  refine l_yes rfl rfl (by exact congrArg Value.bool (congrArg not hk4)) (o_val (r_fa rfl fo76_5) ?_)
  refine l_yes rfl rfl (by exact congrArg Value.bool (congrArg not hk4)) (o_val (r_ld (v := t.cs.v) H (i := 1) rfl rfl ct74 rfl) ?_)
  refine l_yes rfl rfl (by exact congrArg Value.bool (congrArg not hk4)) (o_val (r_lens el74 rfl) ?_)
  refine l_yes rfl rfl (by exact congrArg Value.bool (congrArg not hk4)) (o_val (r_bin (a := (t.cs.len : Int)) (b := 0) rfl rfl (fun _ => b_gtrB false (decide_eq_false (by omega)))) ?_)
  refine l_op (o_val (r_pick (b := false) (congrArg Value.bool (congrArg not hk4))) ?_)
  first | refine l_end ?_ | refine l_nil ?_
  repeat refine c_seq ?_
  refine c_no rfl ?_
  refine c_skip ?_
  repeat refine c_seq ?_
  refine wp_held (fun w => Hp w0 w [] [.blk b1 ((key).map V8) 31, .blk b3 ([V64 (0 : UInt64), .string ⟨(([] : List UInt8)).toArray⟩, V8 (0 : UInt8), VI 0, VI 0, .slice none 0 0] ++ (List.replicate 32 (0 : UInt8)).map V8) 76]) mixed ?_
  replace H := H.drew
  have HS := H.sub (.cons_cons _ (.cons _ (.cons_cons _ (List.nil_sublist _))))
  refine t_take 0 rfl (by kernel_rfl) (by kernel_rfl) (by kernel_rfl) (fun _ _ _ h => h) (fun w HS => r_slA (h := 32) (m := 32) (lv := none) (hv := none) (mv := none) rfl ar31 rfl rfl rfl (fun w => sbn w)) HS ?_
  refine t_step 1 rfl (by kernel_rfl) (o_val (r_ldA (C := [V64 t.serial, .string ⟨(t.tenant).toArray⟩, V8 t.rights, VI t.from_, VI t.until_, t.cs.v] ++ (t.tag).map V8) H (i := 1) rfl rfl rt76 (by rw [List.length_append, List.length_map, (show (t.tag).length = 32 from htag)]; rfl)) ?_)
  refine ⟨H.sub (.cons_cons _ (.cons _ (.cons_cons _ (List.nil_sublist _)))), ?_⟩
  replace HS := H.sub (.cons_cons _ (.cons _ (.cons_cons _ (List.nil_sublist _))))
  refine t_take 5 rfl (by kernel_rfl) (by kernel_rfl) (by kernel_rfl) (fun _ _ _ h => h) (fun w HS => r_fa rfl fo76_5) HS ?_
  refine t_step 2 rfl (by kernel_rfl) (o_callR Try.func115 rfl rfl rfl (head_ret _ t (hc.up H) (show (t.tag).length = 32 from htag) (by first | omega | (dsimp only; omega) | simp)) ?_)
  rintro _ w ⟨a5, n6, c7, rfl, hn8, hh9, Hc⟩
  replace H : Hp w0 w [] ([.blk b1 ((key).map V8) 31, .blk b2 ([V64 t.serial, .string ⟨(t.tenant).toArray⟩, V8 t.rights, VI t.from_, VI t.until_, t.cs.v] ++ (t.tag).map V8) 76, .blk b3 ([V64 (0 : UInt64), .string ⟨(([] : List UInt8)).toArray⟩, V8 (0 : UInt8), VI 0, VI 0, .slice none 0 0] ++ (List.replicate 32 (0 : UInt8)).map V8) 76, .own a5 n6 c7 ((t.head).map V8) 5 1]) := H.call Hc
  clear Hc
  try dsimp only at hn8
  refine ⟨H.sub (.cons_cons _ (.cons _ (.cons_cons _ (List.nil_sublist _)))), ?_⟩
  replace HS := H.sub (.cons_cons _ (.cons _ (.cons_cons _ (List.nil_sublist _))))
  refine t_step 3 rfl (by kernel_rfl) (o_bslV ([.slice (hd a5) n6 c7]) H sl22 zc29 rfl (by simp [Value.oneCell', Sl.v]) rfl (by decide) (fun b10 w H hb10 => ?_))
  replace H : Hp w0 w [] ([.blk b1 ((key).map V8) 31, .blk b2 ([V64 t.serial, .string ⟨(t.tenant).toArray⟩, V8 t.rights, VI t.from_, VI t.until_, t.cs.v] ++ (t.tag).map V8) 76, .blk b3 ([V64 (0 : UInt64), .string ⟨(([] : List UInt8)).toArray⟩, V8 (0 : UInt8), VI 0, VI 0, .slice none 0 0] ++ (List.replicate 32 (0 : UInt8)).map V8) 76, .own a5 n6 c7 ((t.head).map V8) 5 1, .own (some b10) 1 1 ([.slice (hd a5) n6 c7]) 29 1]) := H
  refine ⟨H.sub (.cons_cons _ (.cons _ (.cons_cons _ (List.nil_sublist _)))), ?_⟩
  replace HS := H.sub (.cons_cons _ (.cons _ (.cons_cons _ (List.nil_sublist _))))
  refine t_step 4 rfl (by kernel_rfl) (o_callR Try.func52 rfl rfl rfl (macOf_ret _ (⟨some ⟨b1, 0, none⟩, 32, 32, key⟩ : Sl) (H.slBlkA (i := 0) rfl 32 (show (key).length = 32 from hk) (by decide)) (hd (some b10)) 1 1 [⟨hd a5, n6, c7, t.head⟩] (H.own (i := 4) rfl) rfl (all1 (H.slOwn (i := 3) rfl)) (by omega) (by simp [framed, be_len]; omega)) ?_)
  rintro _ w ⟨rfl, Hc⟩
  replace H : Hp w0 w [] ([.blk b1 ((key).map V8) 31, .blk b2 ([V64 t.serial, .string ⟨(t.tenant).toArray⟩, V8 t.rights, VI t.from_, VI t.until_, t.cs.v] ++ (t.tag).map V8) 76, .blk b3 ([V64 (0 : UInt64), .string ⟨(([] : List UInt8)).toArray⟩, V8 (0 : UInt8), VI 0, VI 0, .slice none 0 0] ++ (List.replicate 32 (0 : UInt8)).map V8) 76, .own a5 n6 c7 ((t.head).map V8) 5 1, .own (some b10) 1 1 ([.slice (hd a5) n6 c7]) 29 1]) := H.call Hc
  clear Hc
  refine ⟨H.sub (.cons_cons _ (.cons _ (.cons_cons _ (List.nil_sublist _)))), ?_⟩
  replace HS := H.sub (.cons_cons _ (.cons _ (.cons_cons _ (List.nil_sublist _))))
  refine t_step 6 rfl (by kernel_rfl) (o_st (v := .slice none 0 0) H (i := 1) rfl rfl rfl cs74 rfl (by simp only [List.length_append, List.length_cons, List.length_nil]; omega) (fun w H => ?_))
  replace H : Hp w0 w [] ([.blk b1 ((key).map V8) 31, .blk b2 ([V64 t.serial, .string ⟨(t.tenant).toArray⟩, V8 t.rights, VI t.from_, VI t.until_, .slice none 0 0] ++ (t.tag).map V8) 76, .blk b3 ([V64 (0 : UInt64), .string ⟨(([] : List UInt8)).toArray⟩, V8 (0 : UInt8), VI 0, VI 0, .slice none 0 0] ++ (List.replicate 32 (0 : UInt8)).map V8) 76, .own a5 n6 c7 ((t.head).map V8) 5 1, .own (some b10) 1 1 ([.slice (hd a5) n6 c7]) 29 1]) := H
  refine ⟨H.sub (.cons_cons _ (.cons _ (.cons_cons _ (List.nil_sublist _)))), ?_⟩
  replace HS := H.sub (.cons_cons _ (.cons _ (.cons_cons _ (List.nil_sublist _))))
  refine t_take 7 rfl (by kernel_rfl) (by kernel_rfl) (by kernel_rfl) (fun _ _ _ h => h) (fun w HS => r_fa rfl fo76_6) HS ?_
  refine t_step 8 rfl (by kernel_rfl) (o_stT (pre := [V64 t.serial, .string ⟨(t.tenant).toArray⟩, V8 t.rights, VI t.from_, VI t.until_, .slice none 0 0]) (l := t.tag) (l' := hmac (key) (framed [t.head])) H (i := 1) rfl rfl rfl cs31 rfl (show (t.tag).length = 32 from htag) (show (hmac (key) (framed [t.head])).length = 32 from hmac_len _ _) (fun w H => ?_))
  replace H : Hp w0 w [] ([.blk b1 ((key).map V8) 31, .blk b2 ([V64 t.serial, .string ⟨(t.tenant).toArray⟩, V8 t.rights, VI t.from_, VI t.until_, .slice none 0 0] ++ (hmac (key) (framed [t.head])).map V8) 76, .blk b3 ([V64 (0 : UInt64), .string ⟨(([] : List UInt8)).toArray⟩, V8 (0 : UInt8), VI 0, VI 0, .slice none 0 0] ++ (List.replicate 32 (0 : UInt8)).map V8) 76, .own a5 n6 c7 ((t.head).map V8) 5 1, .own (some b10) 1 1 ([.slice (hd a5) n6 c7]) 29 1]) := H
  refine ⟨H.sub (.cons_cons _ (.cons _ (.cons_cons _ (List.nil_sublist _)))), ?_⟩
  replace HS := H.sub (.cons_cons _ (.cons _ (.cons_cons _ (List.nil_sublist _))))
  refine t_done (by kernel_rfl) ?_
  clear HS
  repeat refine c_seq ?_
  refine c_region ?_
  refine l_op (o_val (r_ldA (C := [V64 t.serial, .string ⟨(t.tenant).toArray⟩, V8 t.rights, VI t.from_, VI t.until_, .slice none 0 0] ++ (hmac (key) (framed [t.head])).map V8) H (i := 1) rfl rfl rt76 (by rw [List.length_append, List.length_map, (show (hmac (key) (framed [t.head])).length = 32 from hmac_len _ _)]; rfl)) ?_)
  refine l_op (o_stW (C' := [V64 t.serial, .string ⟨(t.tenant).toArray⟩, V8 t.rights, VI t.from_, VI t.until_, .slice none 0 0] ++ (hmac (key) (framed [t.head])).map V8) H (i := 2) rfl rfl rfl cs76 (by simp [Value.oneCell', Sl.v, Gl.v]) (by rw [List.length_append, List.length_map, (show (List.replicate 32 (0 : UInt8)).length = 32 from (List.length_replicate ..))]; rfl) (by rw [List.length_append, List.length_map, (show (hmac (key) (framed [t.head])).length = 32 from hmac_len _ _)]; rfl) (fun w H => ?_))
  replace H : Hp w0 w [] ([.blk b1 ((key).map V8) 31, .blk b2 ([V64 t.serial, .string ⟨(t.tenant).toArray⟩, V8 t.rights, VI t.from_, VI t.until_, .slice none 0 0] ++ (hmac (key) (framed [t.head])).map V8) 76, .blk b3 ([V64 t.serial, .string ⟨(t.tenant).toArray⟩, V8 t.rights, VI t.from_, VI t.until_, .slice none 0 0] ++ (hmac (key) (framed [t.head])).map V8) 76, .own a5 n6 c7 ((t.head).map V8) 5 1, .own (some b10) 1 1 ([.slice (hd a5) n6 c7]) 29 1]) := H
  refine l_op (o_val (r_as) ?_)
  first | refine l_end ?_ | refine l_nil ?_
  refine c_ret ?_
  try dsimp only [Exit.then, Exit.inBlock]
  refine e_retN (vs := [.agg ([V64 t.serial, .string ⟨(t.tenant).toArray⟩, V8 t.rights, VI t.from_, VI t.until_, .slice none 0 0] ++ (hmac (key) (framed [t.head])).map V8).toArray, VI 0]) _ Try.results68 rfl (H.resR (C := [V64 t.serial, .string ⟨(t.tenant).toArray⟩, V8 t.rights, VI t.from_, VI t.until_, .slice none 0 0] ++ (hmac (key) (framed [t.head])).map V8) (i := 2) rfl rfl rt76 (by rw [List.length_append, List.length_map, (show (hmac (key) (framed [t.head])).length = 32 from hmac_len _ _)]; rfl) (resT (v := VI 0) rfl (resZ))) ?_
  refine ⟨_, rfl, ?_⟩
  exact ⟨rfl, H.sub (List.nil_sublist _)⟩
theorem less_ok (w0 : World) (t : Tok) (c : Cav) (hc : t.cs.ok cavE 2 w0) (htag : t.tag.length = 32) (hn : t.tenant.length ≤ 65536) (hm : mayT t = true) (hr : rMay c.1 = true) (h8 : t.cs.len < 8) :
    Ret Try.prog 70 [.agg ([V64 t.serial, .string ⟨(t.tenant).toArray⟩, V8 t.rights, VI t.from_, VI t.until_, t.cs.v] ++ (t.tag).map V8).toArray, .agg ([V8 c.1, VI c.2]).toArray] w0 fun v w' => ∃ a k, v = .tuple #[.agg ([V64 t.serial, .string ⟨(t.tenant).toArray⟩, V8 t.rights, VI t.from_, VI t.until_, .slice (hd a) (t.cs.len + 1) k] ++ (onF t.tag [c]).map V8).toArray, VI 0] ∧ Hp w0 w' [] [.own a (t.cs.len + 1) k ((t.cs.l ++ [c]).flatMap cavE) 78 2] := by
  refine ret_mk Try.func70 rfl Try.ntmps70 (by simp) ?_
  have H := Hp.refl w0 []
  repeat refine c_seq ?_
  refine c_region ?_
  refine l_op (o_box (v := .agg ([V64 t.serial, .string ⟨(t.tenant).toArray⟩, V8 t.rights, VI t.from_, VI t.until_, t.cs.v] ++ (t.tag).map V8).toArray) H rfl (fun b1 w H hb1 => ?_))
  replace H : Hp w0 w [] ([.blk b1 ([V64 t.serial, .string ⟨(t.tenant).toArray⟩, V8 t.rights, VI t.from_, VI t.until_, t.cs.v] ++ (t.tag).map V8) 76]) := H
  refine l_op (o_box (v := .agg ([V8 c.1, VI c.2]).toArray) H rfl (fun b2 w H hb2 => ?_))
  replace H : Hp w0 w [] ([.blk b1 ([V64 t.serial, .string ⟨(t.tenant).toArray⟩, V8 t.rights, VI t.from_, VI t.until_, t.cs.v] ++ (t.tag).map V8) 76, .blk b2 ([V8 c.1, VI c.2]) 78]) := H
  refine l_op (o_alloc H zc76 (fun b3 w H hb3 => ?_))
  replace H : Hp w0 w [] ([.blk b1 ([V64 t.serial, .string ⟨(t.tenant).toArray⟩, V8 t.rights, VI t.from_, VI t.until_, t.cs.v] ++ (t.tag).map V8) 76, .blk b2 ([V8 c.1, VI c.2]) 78, .blk b3 ([V64 (0 : UInt64), .string ⟨(([] : List UInt8)).toArray⟩, V8 (0 : UInt8), VI 0, VI 0, .slice none 0 0] ++ (List.replicate 32 (0 : UInt8)).map V8) 76]) := H
  refine l_op (o_val (r_as) ?_)
  first | refine l_end ?_ | refine l_nil ?_
  repeat refine c_seq ?_
  refine c_block ?_
  repeat refine c_seq ?_
  refine c_region ?_
  refine l_op (o_val (r_ldA (C := [V64 t.serial, .string ⟨(t.tenant).toArray⟩, V8 t.rights, VI t.from_, VI t.until_, t.cs.v] ++ (t.tag).map V8) H (i := 0) rfl rfl rt76 (by rw [List.length_append, List.length_map, (show (t.tag).length = 32 from htag)]; rfl)) ?_)
  refine l_op (o_callR Try.func75 rfl rfl rfl (may_ret _ t (hc.up H) (show (t.tag).length = 32 from htag) (by first | omega | (dsimp only; omega) | simp)) ?_)
  rintro _ w ⟨rfl, Hc⟩
  replace H : Hp w0 w [] ([.blk b1 ([V64 t.serial, .string ⟨(t.tenant).toArray⟩, V8 t.rights, VI t.from_, VI t.until_, t.cs.v] ++ (t.tag).map V8) 76, .blk b2 ([V8 c.1, VI c.2]) 78, .blk b3 ([V64 (0 : UInt64), .string ⟨(([] : List UInt8)).toArray⟩, V8 (0 : UInt8), VI 0, VI 0, .slice none 0 0] ++ (List.replicate 32 (0 : UInt8)).map V8) 76]) := H.call Hc
  clear Hc
  have hk4 : (mayT t) = true := hm
  refine l_op (o_val (r_not rfl) ?_)
  refine l_op (o_val (r_mv) ?_)
  refine l_yes rfl rfl (by exact congrArg Value.bool (congrArg not hk4)) (o_val (r_fa rfl fo78_0) ?_)
  refine l_yes rfl rfl (by exact congrArg Value.bool (congrArg not hk4)) (o_val (r_ld (v := V8 c.1) H (i := 1) rfl rfl ct73 rfl) ?_)
  refine l_yes rfl rfl (by exact congrArg Value.bool (congrArg not hk4)) (o_callR Try.func117 rfl rfl rfl (rmay_ret _ (c.1)) ?_)
  rintro _ w' ⟨rfl, hw5⟩
  rw [hw5]; clear hw5 w'
  have hk6 : (rMay (c.1)) = true := hr
  refine l_yes rfl rfl (by exact congrArg Value.bool (congrArg not hk4)) (o_val (r_not rfl) ?_)
  refine l_op (o_val (r_pick (b := false) (congrArg Value.bool (congrArg not hk4))) ?_)
  refine l_op (o_val (r_as) ?_)
  first | refine l_end ?_ | refine l_nil ?_
  repeat refine c_seq ?_
  refine c_no (by exact congrArg Value.bool (congrArg not hk6)) ?_
  repeat refine c_seq ?_
  refine c_region ?_
  refine l_op (o_val (r_fa rfl fo76_5) ?_)
  refine l_op (o_val (r_ld (v := t.cs.v) H (i := 0) rfl rfl ct74 rfl) ?_)
  refine l_op (o_val (r_lens el74 rfl) ?_)
  refine l_op (o_val (r_bin (a := (t.cs.len : Int)) (b := 8) rfl rfl (fun _ => b_eqlB false (decide_eq_false (by omega)))) ?_)
  refine l_op (o_val (r_as) ?_)
  first | refine l_end ?_ | refine l_nil ?_
  repeat refine c_seq ?_
  refine c_no rfl ?_
  refine c_skip ?_
  repeat refine c_seq ?_
  refine c_region ?_
  refine l_op (o_val (r_fa rfl fo76_6) ?_)
  refine l_op (o_val (r_ldT (pre := [V64 t.serial, .string ⟨(t.tenant).toArray⟩, V8 t.rights, VI t.from_, VI t.until_, t.cs.v]) (l := t.tag) H (i := 0) rfl rfl rt31 rfl (show (t.tag).length = 32 from htag)) ?_)
  refine l_op (o_val (r_ldA (C := [V8 c.1, VI c.2]) H (i := 1) rfl rfl rt78 (by rfl)) ?_)
  refine l_op (o_bslG1 (enc := cavE) (c) H sl74 zc78 (by rfl) (by decide) (by decide) rfl rfl (fun b7 w H hb7 => ?_))
  replace H : Hp w0 w [] ([.blk b1 ([V64 t.serial, .string ⟨(t.tenant).toArray⟩, V8 t.rights, VI t.from_, VI t.until_, t.cs.v] ++ (t.tag).map V8) 76, .blk b2 ([V8 c.1, VI c.2]) 78, .blk b3 ([V64 (0 : UInt64), .string ⟨(([] : List UInt8)).toArray⟩, V8 (0 : UInt8), VI 0, VI 0, .slice none 0 0] ++ (List.replicate 32 (0 : UInt8)).map V8) 76, .own (some b7) 1 1 (([c]).flatMap cavE) 78 2]) := H
  refine l_op (o_callR Try.func118 rfl rfl rfl (on_ret _ (t.tag) (show (t.tag).length = 32 from htag) ⟨hd (some b7), 1, 1, [c]⟩ (H.glOwn (i := 3) rfl (by decide) (fun _ _ => rfl))) ?_)
  rintro _ w ⟨rfl, Hc⟩
  replace H : Hp w0 w [] ([.blk b1 ([V64 t.serial, .string ⟨(t.tenant).toArray⟩, V8 t.rights, VI t.from_, VI t.until_, t.cs.v] ++ (t.tag).map V8) 76, .blk b2 ([V8 c.1, VI c.2]) 78, .blk b3 ([V64 (0 : UInt64), .string ⟨(([] : List UInt8)).toArray⟩, V8 (0 : UInt8), VI 0, VI 0, .slice none 0 0] ++ (List.replicate 32 (0 : UInt8)).map V8) 76, .own (some b7) 1 1 (([c]).flatMap cavE) 78 2]) := H.call Hc
  clear Hc
  refine l_op (o_val (r_fa rfl fo76_6) ?_)
  refine l_op (o_stT (pre := [V64 t.serial, .string ⟨(t.tenant).toArray⟩, V8 t.rights, VI t.from_, VI t.until_, t.cs.v]) (l := t.tag) (l' := onF (t.tag) ([c])) H (i := 0) rfl rfl rfl cs31 rfl (show (t.tag).length = 32 from htag) (show (onF (t.tag) ([c])).length = 32 from onF_len _ (show (t.tag).length = 32 from htag) _) (fun w H => ?_))
  replace H : Hp w0 w [] ([.blk b1 ([V64 t.serial, .string ⟨(t.tenant).toArray⟩, V8 t.rights, VI t.from_, VI t.until_, t.cs.v] ++ (onF (t.tag) ([c])).map V8) 76, .blk b2 ([V8 c.1, VI c.2]) 78, .blk b3 ([V64 (0 : UInt64), .string ⟨(([] : List UInt8)).toArray⟩, V8 (0 : UInt8), VI 0, VI 0, .slice none 0 0] ++ (List.replicate 32 (0 : UInt8)).map V8) 76, .own (some b7) 1 1 (([c]).flatMap cavE) 78 2]) := H
  first | refine l_end ?_ | refine l_nil ?_
  repeat refine c_seq ?_
  refine c_region ?_
  refine l_op (o_val (r_ldA (C := [V64 t.serial, .string ⟨(t.tenant).toArray⟩, V8 t.rights, VI t.from_, VI t.until_, t.cs.v] ++ (onF (t.tag) ([c])).map V8) H (i := 0) rfl rfl rt76 (by rw [List.length_append, List.length_map, (show (onF (t.tag) ([c])).length = 32 from onF_len _ (show (t.tag).length = 32 from htag) _)]; rfl)) ?_)
  refine l_op (o_val (r_ldA (C := [V8 c.1, VI c.2]) H (i := 1) rfl rfl rt78 (by rfl)) ?_)
  refine l_op (o_bslG1 (enc := cavE) (c) H sl74 zc78 (by rfl) (by decide) (by decide) rfl rfl (fun b8 w H hb8 => ?_))
  replace H : Hp w0 w [] ([.blk b1 ([V64 t.serial, .string ⟨(t.tenant).toArray⟩, V8 t.rights, VI t.from_, VI t.until_, t.cs.v] ++ (onF (t.tag) ([c])).map V8) 76, .blk b2 ([V8 c.1, VI c.2]) 78, .blk b3 ([V64 (0 : UInt64), .string ⟨(([] : List UInt8)).toArray⟩, V8 (0 : UInt8), VI 0, VI 0, .slice none 0 0] ++ (List.replicate 32 (0 : UInt8)).map V8) 76, .own (some b7) 1 1 (([c]).flatMap cavE) 78 2, .own (some b8) 1 1 (([c]).flatMap cavE) 78 2]) := H
  refine l_op (o_callR Try.func119 rfl rfl rfl (capown_ret _ (⟨t.serial, t.tenant, t.rights, t.from_, t.until_, t.cs, onF (t.tag) ([c])⟩ : Tok) (hc.up H) (show (onF (t.tag) ([c])).length = 32 from onF_len _ (show (t.tag).length = 32 from htag) _) ⟨hd (some b8), 1, 1, [c]⟩ (H.glOwn (i := 4) rfl (by decide) (fun _ _ => rfl)) (by first | omega | (dsimp only; omega) | simp) (by first | omega | (dsimp only; omega) | simp)) ?_)
  rintro _ w ⟨a9, c10, rfl, Hc⟩
  replace H : Hp w0 w [] ([.blk b1 ([V64 t.serial, .string ⟨(t.tenant).toArray⟩, V8 t.rights, VI t.from_, VI t.until_, t.cs.v] ++ (onF (t.tag) ([c])).map V8) 76, .blk b2 ([V8 c.1, VI c.2]) 78, .blk b3 ([V64 (0 : UInt64), .string ⟨(([] : List UInt8)).toArray⟩, V8 (0 : UInt8), VI 0, VI 0, .slice none 0 0] ++ (List.replicate 32 (0 : UInt8)).map V8) 76, .own (some b7) 1 1 (([c]).flatMap cavE) 78 2, .own (some b8) 1 1 (([c]).flatMap cavE) 78 2, .own a9 (t.cs.len + 1) c10 ((t.cs.l ++ ([c])).flatMap cavE) 78 2]) := H.call Hc
  clear Hc
  refine l_op (o_stW (C' := [V64 t.serial, .string ⟨(t.tenant).toArray⟩, V8 t.rights, VI t.from_, VI t.until_, .slice (hd a9) (t.cs.len + 1) c10] ++ (onF (t.tag) ([c])).map V8) H (i := 2) rfl rfl rfl cs76 (by simp [Value.oneCell', Sl.v, Gl.v]) (by rw [List.length_append, List.length_map, (show (List.replicate 32 (0 : UInt8)).length = 32 from (List.length_replicate ..))]; rfl) (by rw [List.length_append, List.length_map, (show (onF (t.tag) ([c])).length = 32 from onF_len _ (show (t.tag).length = 32 from htag) _)]; rfl) (fun w H => ?_))
  replace H : Hp w0 w [] ([.blk b1 ([V64 t.serial, .string ⟨(t.tenant).toArray⟩, V8 t.rights, VI t.from_, VI t.until_, t.cs.v] ++ (onF (t.tag) ([c])).map V8) 76, .blk b2 ([V8 c.1, VI c.2]) 78, .blk b3 ([V64 t.serial, .string ⟨(t.tenant).toArray⟩, V8 t.rights, VI t.from_, VI t.until_, .slice (hd a9) (t.cs.len + 1) c10] ++ (onF (t.tag) ([c])).map V8) 76, .own (some b7) 1 1 (([c]).flatMap cavE) 78 2, .own (some b8) 1 1 (([c]).flatMap cavE) 78 2, .own a9 (t.cs.len + 1) c10 ((t.cs.l ++ ([c])).flatMap cavE) 78 2]) := H
  refine l_op (o_val (r_as) ?_)
  first | refine l_end ?_ | refine l_nil ?_
  refine c_ret ?_
  try dsimp only [Exit.then, Exit.inBlock]
  refine e_retN (vs := [.agg ([V64 t.serial, .string ⟨(t.tenant).toArray⟩, V8 t.rights, VI t.from_, VI t.until_, .slice (hd a9) (t.cs.len + 1) c10] ++ (onF (t.tag) ([c])).map V8).toArray, VI 0]) _ Try.results70 rfl (H.resR (C := [V64 t.serial, .string ⟨(t.tenant).toArray⟩, V8 t.rights, VI t.from_, VI t.until_, .slice (hd a9) (t.cs.len + 1) c10] ++ (onF (t.tag) ([c])).map V8) (i := 2) rfl rfl rt76 (by rw [List.length_append, List.length_map, (show (onF (t.tag) ([c])).length = 32 from onF_len _ (show (t.tag).length = 32 from htag) _)]; rfl) (resT (v := VI 0) rfl (resZ))) ?_
  refine ⟨_, rfl, ?_⟩
  exact ⟨_, _, rfl, H.sub (.cons _ (.cons _ (.cons _ (.cons _ (.cons _ (.cons_cons _ (List.nil_sublist _)))))))⟩
def checkT (key : List UInt8) (t : Tok) (now : Int) : Int :=
  if mayT t = false then 1
  else if ¬ onF (hmac key (framed [t.head])) t.cs.l = t.tag then 13
  else if now < t.from_ ∨ (effF t.rights t.until_ t.cs.l).2 ≤ now then 14
  else 0
theorem check14_ret (w0 : World) (key : List UInt8) (hk : key.length = 32) (t : Tok) (hc : t.cs.ok cavE 2 w0) (htag : t.tag.length = 32) (hn : t.tenant.length ≤ 65536) (now : Int) :
    Ret Try.prog 77 [.agg ((key).map V8).toArray, .agg ([V64 t.serial, .string ⟨(t.tenant).toArray⟩, V8 t.rights, VI t.from_, VI t.until_, t.cs.v] ++ (t.tag).map V8).toArray, VI now] w0 fun v w' => v = VI (checkT key t now) ∧ Hp w0 w' [] [] := by
  refine ret_mk Try.func77 rfl Try.ntmps77 (by simp) ?_
  have H := Hp.refl w0 []
  repeat refine c_seq ?_
  refine c_region ?_
  refine l_op (o_box (v := .agg ((key).map V8).toArray) H rfl (fun b1 w H hb1 => ?_))
  replace H : Hp w0 w [] ([.blk b1 ((key).map V8) 31]) := H
  refine l_op (o_box (v := .agg ([V64 t.serial, .string ⟨(t.tenant).toArray⟩, V8 t.rights, VI t.from_, VI t.until_, t.cs.v] ++ (t.tag).map V8).toArray) H rfl (fun b2 w H hb2 => ?_))
  replace H : Hp w0 w [] ([.blk b1 ((key).map V8) 31, .blk b2 ([V64 t.serial, .string ⟨(t.tenant).toArray⟩, V8 t.rights, VI t.from_, VI t.until_, t.cs.v] ++ (t.tag).map V8) 76]) := H
  refine l_op (o_val (r_as) ?_)
  first | refine l_end ?_ | refine l_nil ?_
  repeat refine c_seq ?_
  refine c_region ?_
  refine l_op (o_val (r_ldA (C := [V64 t.serial, .string ⟨(t.tenant).toArray⟩, V8 t.rights, VI t.from_, VI t.until_, t.cs.v] ++ (t.tag).map V8) H (i := 1) rfl rfl rt76 (by rw [List.length_append, List.length_map, (show (t.tag).length = 32 from htag)]; rfl)) ?_)
  refine l_op (o_callR Try.func75 rfl rfl rfl (may_ret _ t (hc.up H) (show (t.tag).length = 32 from htag) (by first | omega | (dsimp only; omega) | simp)) ?_)
  rintro _ w ⟨rfl, Hc⟩
  replace H : Hp w0 w [] ([.blk b1 ((key).map V8) 31, .blk b2 ([V64 t.serial, .string ⟨(t.tenant).toArray⟩, V8 t.rights, VI t.from_, VI t.until_, t.cs.v] ++ (t.tag).map V8) 76]) := H.call Hc
  clear Hc
  refine l_op (o_val (r_not rfl) ?_)
  first | refine l_end ?_ | refine l_nil ?_
  rcases Bool.eq_false_or_eq_true (mayT t) with hc3 | hc3
  · skip
    repeat refine c_seq ?_
    refine c_no (by exact congrArg Value.bool (congrArg not hc3)) ?_
    refine c_skip ?_
    repeat refine c_seq ?_
    refine wp_held (fun w => Hp w0 w [] [.blk b1 ((key).map V8) 31, .blk b2 ([V64 t.serial, .string ⟨(t.tenant).toArray⟩, V8 t.rights, VI t.from_, VI t.until_, t.cs.v] ++ (t.tag).map V8) 76]) mixed ?_
    replace H := H.drew
    have HS := H
    refine t_take 0 rfl (by kernel_rfl) (by kernel_rfl) (by kernel_rfl) (fun _ _ _ h => h) (fun w HS => r_slA (h := 32) (m := 32) (lv := none) (hv := none) (mv := none) rfl ar31 rfl rfl rfl (fun w => sbn w)) HS ?_
    refine t_take 1 rfl (by kernel_rfl) (by kernel_rfl) (by kernel_rfl) (fun _ _ _ h => h) (fun w HS => r_ldA (C := [V64 t.serial, .string ⟨(t.tenant).toArray⟩, V8 t.rights, VI t.from_, VI t.until_, t.cs.v] ++ (t.tag).map V8) HS (i := 1) rfl rfl rt76 (by rw [List.length_append, List.length_map, (show (t.tag).length = 32 from htag)]; rfl)) HS ?_
    refine t_take 5 rfl (by kernel_rfl) (by kernel_rfl) (by kernel_rfl) (fun _ _ _ h => h) (fun w HS => r_fa rfl fo76_5) HS ?_
    refine t_take 6 rfl (by kernel_rfl) (by kernel_rfl) (by kernel_rfl) (fun _ _ _ h => h) (fun w HS => r_ld (v := t.cs.v) HS (i := 1) rfl rfl ct74 rfl) HS ?_
    refine t_all [2, 8] (by kernel_rfl) (by simp) (all_cons (w_op 2 rfl ?_) (all_cons (w_op 8 rfl ?_) (all_nil)))
    · skip
      refine (o_callR Try.func115 rfl rfl rfl (head_ret _ t (hc.up H) (show (t.tag).length = 32 from htag) (by first | omega | (dsimp only; omega) | simp)) ?_)
      rintro _ w ⟨a4, n5, c6, rfl, hn7, hh8, Hc⟩
      replace H : Hp w0 w [] ([.blk b1 ((key).map V8) 31, .blk b2 ([V64 t.serial, .string ⟨(t.tenant).toArray⟩, V8 t.rights, VI t.from_, VI t.until_, t.cs.v] ++ (t.tag).map V8) 76, .own a4 n5 c6 ((t.head).map V8) 5 1]) := H.call Hc
      clear Hc
      try dsimp only at hn7
      refine ⟨H.sub (.cons_cons _ (.cons_cons _ (List.nil_sublist _))), ?_⟩
      replace HS := H.sub (.cons_cons _ (.cons_cons _ (List.nil_sublist _)))
      refine t_all [3, 8] (by kernel_rfl) (by simp) (all_cons (w_op 3 rfl ?_) (all_cons (w_op 8 rfl ?_) (all_nil)))
      · skip
        refine (o_bslV ([.slice (hd a4) n5 c6]) H sl22 zc29 rfl (by simp [Value.oneCell', Sl.v]) rfl (by decide) (fun b9 w H hb9 => ?_))
        replace H : Hp w0 w [] ([.blk b1 ((key).map V8) 31, .blk b2 ([V64 t.serial, .string ⟨(t.tenant).toArray⟩, V8 t.rights, VI t.from_, VI t.until_, t.cs.v] ++ (t.tag).map V8) 76, .own a4 n5 c6 ((t.head).map V8) 5 1, .own (some b9) 1 1 ([.slice (hd a4) n5 c6]) 29 1]) := H
        refine ⟨H.sub (.cons_cons _ (.cons_cons _ (List.nil_sublist _))), ?_⟩
        replace HS := H.sub (.cons_cons _ (.cons_cons _ (List.nil_sublist _)))
        refine t_all [4, 8] (by kernel_rfl) (by simp) (all_cons (w_op 4 rfl ?_) (all_cons (w_op 8 rfl ?_) (all_nil)))
        · skip
          refine (o_callR Try.func52 rfl rfl rfl (macOf_ret _ (⟨some ⟨b1, 0, none⟩, 32, 32, key⟩ : Sl) (H.slBlkA (i := 0) rfl 32 (show (key).length = 32 from hk) (by decide)) (hd (some b9)) 1 1 [⟨hd a4, n5, c6, t.head⟩] (H.own (i := 3) rfl) rfl (all1 (H.slOwn (i := 2) rfl)) (by omega) (by simp [framed, be_len]; omega)) ?_)
          rintro _ w ⟨rfl, Hc⟩
          replace H : Hp w0 w [] ([.blk b1 ((key).map V8) 31, .blk b2 ([V64 t.serial, .string ⟨(t.tenant).toArray⟩, V8 t.rights, VI t.from_, VI t.until_, t.cs.v] ++ (t.tag).map V8) 76, .own a4 n5 c6 ((t.head).map V8) 5 1, .own (some b9) 1 1 ([.slice (hd a4) n5 c6]) 29 1]) := H.call Hc
          clear Hc
          refine ⟨H.sub (.cons_cons _ (.cons_cons _ (List.nil_sublist _))), ?_⟩
          replace HS := H.sub (.cons_cons _ (.cons_cons _ (List.nil_sublist _)))
          refine t_all [7, 8] (by kernel_rfl) (by simp) (all_cons (w_op 7 rfl ?_) (all_cons (w_op 8 rfl ?_) (all_nil)))
          · skip
            refine (o_callR Try.func118 rfl rfl rfl (on_ret _ (hmac (key) (framed [t.head])) (show (hmac (key) (framed [t.head])).length = 32 from hmac_len _ _) t.cs (hc.up H)) ?_)
            rintro _ w ⟨rfl, Hc⟩
            replace H : Hp w0 w [] ([.blk b1 ((key).map V8) 31, .blk b2 ([V64 t.serial, .string ⟨(t.tenant).toArray⟩, V8 t.rights, VI t.from_, VI t.until_, t.cs.v] ++ (t.tag).map V8) 76, .own a4 n5 c6 ((t.head).map V8) 5 1, .own (some b9) 1 1 ([.slice (hd a4) n5 c6]) 29 1]) := H.call Hc
            clear Hc
            refine ⟨H.sub (.cons_cons _ (.cons_cons _ (List.nil_sublist _))), ?_⟩
            replace HS := H.sub (.cons_cons _ (.cons_cons _ (List.nil_sublist _)))
            refine t_step 8 rfl (by kernel_rfl) (o_alloc H zc31 (fun b10 w H hb10 => ?_))
            replace H : Hp w0 w [] ([.blk b1 ((key).map V8) 31, .blk b2 ([V64 t.serial, .string ⟨(t.tenant).toArray⟩, V8 t.rights, VI t.from_, VI t.until_, t.cs.v] ++ (t.tag).map V8) 76, .own a4 n5 c6 ((t.head).map V8) 5 1, .own (some b9) 1 1 ([.slice (hd a4) n5 c6]) 29 1, .blk b10 ((List.replicate 32 (0 : UInt8)).map V8) 31]) := H
            refine ⟨H.sub (.cons_cons _ (.cons_cons _ (List.nil_sublist _))), ?_⟩
            replace HS := H.sub (.cons_cons _ (.cons_cons _ (List.nil_sublist _)))
            refine t_step 9 rfl (by kernel_rfl) (o_stA (l' := onF (hmac (key) (framed [t.head])) (t.cs.l)) H (i := 4) rfl rfl rfl cs31 (show (List.replicate 32 (0 : UInt8)).length = 32 from (List.length_replicate ..)) (show (onF (hmac (key) (framed [t.head])) (t.cs.l)).length = 32 from onF_len _ (show (hmac (key) (framed [t.head])).length = 32 from hmac_len _ _) _) (fun w H => ?_))
            replace H : Hp w0 w [] ([.blk b1 ((key).map V8) 31, .blk b2 ([V64 t.serial, .string ⟨(t.tenant).toArray⟩, V8 t.rights, VI t.from_, VI t.until_, t.cs.v] ++ (t.tag).map V8) 76, .own a4 n5 c6 ((t.head).map V8) 5 1, .own (some b9) 1 1 ([.slice (hd a4) n5 c6]) 29 1, .blk b10 ((onF (hmac (key) (framed [t.head])) (t.cs.l)).map V8) 31]) := H
            refine ⟨H.sub (.cons_cons _ (.cons_cons _ (List.nil_sublist _))), ?_⟩
            replace HS := H.sub (.cons_cons _ (.cons_cons _ (List.nil_sublist _)))
            refine t_done (by kernel_rfl) ?_
            clear HS
            repeat refine c_seq ?_
            refine wp_held (fun w => Hp w0 w [] [.blk b1 ((key).map V8) 31, .blk b2 ([V64 t.serial, .string ⟨(t.tenant).toArray⟩, V8 t.rights, VI t.from_, VI t.until_, t.cs.v] ++ (t.tag).map V8) 76, .own a4 n5 c6 ((t.head).map V8) 5 1, .own (some b9) 1 1 ([.slice (hd a4) n5 c6]) 29 1, .blk b10 ((onF (hmac (key) (framed [t.head])) (t.cs.l)).map V8) 31]) mixed ?_
            replace H := H.drew
            have HS := H
            refine t_take 0 rfl (by kernel_rfl) (by kernel_rfl) (by kernel_rfl) (fun _ _ _ h => h) (fun w HS => r_slA (h := 32) (m := 32) (lv := none) (hv := none) (mv := none) rfl ar31 rfl rfl rfl (fun w => sbn w)) HS ?_
            refine t_take 1 rfl (by kernel_rfl) (by kernel_rfl) (by kernel_rfl) (fun _ _ _ h => h) (fun w HS => r_fa rfl fo76_6) HS ?_
            refine t_take 2 rfl (by kernel_rfl) (by kernel_rfl) (by kernel_rfl) (fun _ _ _ h => h) (fun w HS => r_slAo (o := 6) (h := 32) (m := 32) (lv := none) (hv := none) (mv := none) rfl ar31 rfl rfl rfl (fun w => sbn w)) HS ?_
            refine t_step 3 rfl (by kernel_rfl) (o_callR Try.func48 rfl rfl rfl (equal_ret _ (⟨some ⟨b10, 0, none⟩, 32, 32, onF (hmac (key) (framed [t.head])) (t.cs.l)⟩ : Sl) (⟨some ⟨b2, 6, none⟩, 32, 32, t.tag⟩ : Sl) (H.slBlkA (i := 4) rfl 32 (show (onF (hmac (key) (framed [t.head])) (t.cs.l)).length = 32 from onF_len _ (show (hmac (key) (framed [t.head])).length = 32 from hmac_len _ _) _) (by decide)) (H.slTail (i := 1) (o := 6) (pre := [V64 t.serial, .string ⟨(t.tenant).toArray⟩, V8 t.rights, VI t.from_, VI t.until_, t.cs.v]) rfl rfl (show (t.tag).length = 32 from htag) (by decide))) ?_)
            rintro _ w ⟨rfl, Hc⟩
            replace H : Hp w0 w [] ([.blk b1 ((key).map V8) 31, .blk b2 ([V64 t.serial, .string ⟨(t.tenant).toArray⟩, V8 t.rights, VI t.from_, VI t.until_, t.cs.v] ++ (t.tag).map V8) 76, .own a4 n5 c6 ((t.head).map V8) 5 1, .own (some b9) 1 1 ([.slice (hd a4) n5 c6]) 29 1, .blk b10 ((onF (hmac (key) (framed [t.head])) (t.cs.l)).map V8) 31]) := H.call Hc
            clear Hc
            refine ⟨H, ?_⟩
            replace HS := H
            refine t_take 4 rfl (by kernel_rfl) (by kernel_rfl) (by kernel_rfl) (fun _ _ _ h => h) (fun w HS => r_not rfl) HS ?_
            refine t_done (by kernel_rfl) ?_
            clear HS
            by_cases hc11 : onF (hmac (key) (framed [t.head])) (t.cs.l) = t.tag
            · skip
              repeat refine c_seq ?_
              refine c_no (by exact congrArg Value.bool (congrArg not (decide_eq_true hc11))) ?_
              refine c_skip ?_
              repeat refine c_seq ?_
              refine c_region ?_
              refine l_op (o_val (r_ldA (C := [V64 t.serial, .string ⟨(t.tenant).toArray⟩, V8 t.rights, VI t.from_, VI t.until_, t.cs.v] ++ (t.tag).map V8) H (i := 1) rfl rfl rt76 (by rw [List.length_append, List.length_map, (show (t.tag).length = 32 from htag)]; rfl)) ?_)
              refine l_op (o_callR Try.func72 rfl rfl rfl (effect_ret _ t (hc.up H) (show (t.tag).length = 32 from htag)) ?_)
              rintro _ w ⟨rfl, Hc⟩
              replace H : Hp w0 w [] ([.blk b1 ((key).map V8) 31, .blk b2 ([V64 t.serial, .string ⟨(t.tenant).toArray⟩, V8 t.rights, VI t.from_, VI t.until_, t.cs.v] ++ (t.tag).map V8) 76, .own a4 n5 c6 ((t.head).map V8) 5 1, .own (some b9) 1 1 ([.slice (hd a4) n5 c6]) 29 1, .blk b10 ((onF (hmac (key) (framed [t.head])) (t.cs.l)).map V8) 31]) := H.call Hc
              clear Hc
              refine l_op (o_val (r_mv) ?_)
              refine l_op (o_val (r_ext rfl rfl) ?_)
              refine l_op (o_val (r_ext rfl rfl) ?_)
              refine l_op (o_val (r_as) ?_)
              refine l_op (o_val (r_as) ?_)
              first | refine l_end ?_ | refine l_nil ?_
              repeat refine c_seq ?_
              refine c_region ?_
              refine l_op (o_val (r_mv) ?_)
              refine l_op (o_val (r_fa rfl fo76_3) ?_)
              refine l_op (o_val (r_ld (v := VI t.from_) H (i := 1) rfl rfl ct2 rfl) ?_)
              refine l_op (o_val (r_bin (a := now) (b := t.from_) rfl rfl (fun _ => b_lss)) ?_)
              refine l_op (o_val (r_mv) ?_)
              by_cases hc12 : now < t.from_
              · skip
                refine l_no rfl rfl (by exact congrArg Value.bool (decide_eq_true hc12)) rfl ?_
                refine l_no rfl rfl (by exact congrArg Value.bool (decide_eq_true hc12)) rfl ?_
                refine l_no rfl rfl (by exact congrArg Value.bool (decide_eq_true hc12)) rfl ?_
                refine l_op (o_val (r_pick (b := true) (congrArg Value.bool (decide_eq_true hc12))) ?_)
                first | refine l_end ?_ | refine l_nil ?_
                repeat refine c_seq ?_
                refine c_yes rfl ?_
                repeat refine c_seq ?_
                refine c_region ?_
                refine l_op (o_val (r_as) ?_)
                first | refine l_end ?_ | refine l_nil ?_
                refine c_ret ?_
                try dsimp only [Exit.then, Exit.inBlock]
                refine e_ret1 (v := VI 14) Try.results77 rfl ?_
                refine ⟨_, rfl, ?_⟩
                refine ⟨?_, H.sub (List.nil_sublist _)⟩
                rw [checkT, if_neg (by rw [hc3]; decide), if_neg (not_not_intro hc11), if_pos (by omega)]
              · skip
                refine l_yes rfl rfl (by exact congrArg Value.bool (decide_eq_false hc12)) (o_val (r_mv) ?_)
                refine l_yes rfl rfl (by exact congrArg Value.bool (decide_eq_false hc12)) (o_val (r_mv) ?_)
                refine l_yes rfl rfl (by exact congrArg Value.bool (decide_eq_false hc12)) (o_val (r_bin (a := now) (b := (effF (t.rights) (t.until_) t.cs.l).2) rfl rfl (fun _ => b_geq)) ?_)
                refine l_op (o_val (r_pick (b := false) (congrArg Value.bool (decide_eq_false hc12))) ?_)
                first | refine l_end ?_ | refine l_nil ?_
                by_cases hc13 : (effF (t.rights) (t.until_) t.cs.l).2 ≤ now
                · skip
                  repeat refine c_seq ?_
                  refine c_yes (by exact congrArg Value.bool (decide_eq_true hc13)) ?_
                  repeat refine c_seq ?_
                  refine c_region ?_
                  refine l_op (o_val (r_as) ?_)
                  first | refine l_end ?_ | refine l_nil ?_
                  refine c_ret ?_
                  try dsimp only [Exit.then, Exit.inBlock]
                  refine e_ret1 (v := VI 14) Try.results77 rfl ?_
                  refine ⟨_, rfl, ?_⟩
                  refine ⟨?_, H.sub (List.nil_sublist _)⟩
                  rw [checkT, if_neg (by rw [hc3]; decide), if_neg (not_not_intro hc11), if_pos (by omega)]
                · skip
                  repeat refine c_seq ?_
                  refine c_no (by exact congrArg Value.bool (decide_eq_false hc13)) ?_
                  refine c_skip ?_
                  repeat refine c_seq ?_
                  refine c_region ?_
                  refine l_op (o_val (r_as) ?_)
                  first | refine l_end ?_ | refine l_nil ?_
                  refine c_ret ?_
                  try dsimp only [Exit.then, Exit.inBlock]
                  refine e_ret1 (v := VI 0) Try.results77 rfl ?_
                  refine ⟨_, rfl, ?_⟩
                  refine ⟨?_, H.sub (List.nil_sublist _)⟩
                  rw [checkT, if_neg (by rw [hc3]; decide), if_neg (not_not_intro hc11), if_neg (by omega)]
            · skip
              repeat refine c_seq ?_
              refine c_yes (by exact congrArg Value.bool (congrArg not (decide_eq_false hc11))) ?_
              repeat refine c_seq ?_
              refine c_region ?_
              refine l_op (o_val (r_as) ?_)
              first | refine l_end ?_ | refine l_nil ?_
              refine c_ret ?_
              try dsimp only [Exit.then, Exit.inBlock]
              refine e_ret1 (v := VI 13) Try.results77 rfl ?_
              refine ⟨_, rfl, ?_⟩
              refine ⟨?_, H.sub (List.nil_sublist _)⟩
              rw [checkT, if_neg (by rw [hc3]; decide), if_pos hc11]
          · skip
            refine (o_alloc H zc31 (fun b14 w H hb14 => ?_))
            replace H : Hp w0 w [] ([.blk b1 ((key).map V8) 31, .blk b2 ([V64 t.serial, .string ⟨(t.tenant).toArray⟩, V8 t.rights, VI t.from_, VI t.until_, t.cs.v] ++ (t.tag).map V8) 76, .own a4 n5 c6 ((t.head).map V8) 5 1, .own (some b9) 1 1 ([.slice (hd a4) n5 c6]) 29 1, .blk b14 ((List.replicate 32 (0 : UInt8)).map V8) 31]) := H
            refine ⟨H.sub (.cons_cons _ (.cons_cons _ (List.nil_sublist _))), ?_⟩
            replace HS := H.sub (.cons_cons _ (.cons_cons _ (List.nil_sublist _)))
            refine t_step 7 rfl (by kernel_rfl) (o_callR Try.func118 rfl rfl rfl (on_ret _ (hmac (key) (framed [t.head])) (show (hmac (key) (framed [t.head])).length = 32 from hmac_len _ _) t.cs (hc.up H)) ?_)
            rintro _ w ⟨rfl, Hc⟩
            replace H : Hp w0 w [] ([.blk b1 ((key).map V8) 31, .blk b2 ([V64 t.serial, .string ⟨(t.tenant).toArray⟩, V8 t.rights, VI t.from_, VI t.until_, t.cs.v] ++ (t.tag).map V8) 76, .own a4 n5 c6 ((t.head).map V8) 5 1, .own (some b9) 1 1 ([.slice (hd a4) n5 c6]) 29 1, .blk b14 ((List.replicate 32 (0 : UInt8)).map V8) 31]) := H.call Hc
            clear Hc
            refine ⟨H.sub (.cons_cons _ (.cons_cons _ (List.nil_sublist _))), ?_⟩
            replace HS := H.sub (.cons_cons _ (.cons_cons _ (List.nil_sublist _)))
            refine t_step 9 rfl (by kernel_rfl) (o_stA (l' := onF (hmac (key) (framed [t.head])) (t.cs.l)) H (i := 4) rfl rfl rfl cs31 (show (List.replicate 32 (0 : UInt8)).length = 32 from (List.length_replicate ..)) (show (onF (hmac (key) (framed [t.head])) (t.cs.l)).length = 32 from onF_len _ (show (hmac (key) (framed [t.head])).length = 32 from hmac_len _ _) _) (fun w H => ?_))
            replace H : Hp w0 w [] ([.blk b1 ((key).map V8) 31, .blk b2 ([V64 t.serial, .string ⟨(t.tenant).toArray⟩, V8 t.rights, VI t.from_, VI t.until_, t.cs.v] ++ (t.tag).map V8) 76, .own a4 n5 c6 ((t.head).map V8) 5 1, .own (some b9) 1 1 ([.slice (hd a4) n5 c6]) 29 1, .blk b14 ((onF (hmac (key) (framed [t.head])) (t.cs.l)).map V8) 31]) := H
            refine ⟨H.sub (.cons_cons _ (.cons_cons _ (List.nil_sublist _))), ?_⟩
            replace HS := H.sub (.cons_cons _ (.cons_cons _ (List.nil_sublist _)))
            refine t_done (by kernel_rfl) ?_
            clear HS
            repeat refine c_seq ?_
            refine wp_held (fun w => Hp w0 w [] [.blk b1 ((key).map V8) 31, .blk b2 ([V64 t.serial, .string ⟨(t.tenant).toArray⟩, V8 t.rights, VI t.from_, VI t.until_, t.cs.v] ++ (t.tag).map V8) 76, .own a4 n5 c6 ((t.head).map V8) 5 1, .own (some b9) 1 1 ([.slice (hd a4) n5 c6]) 29 1, .blk b14 ((onF (hmac (key) (framed [t.head])) (t.cs.l)).map V8) 31]) mixed ?_
            replace H := H.drew
            have HS := H
            refine t_take 0 rfl (by kernel_rfl) (by kernel_rfl) (by kernel_rfl) (fun _ _ _ h => h) (fun w HS => r_slA (h := 32) (m := 32) (lv := none) (hv := none) (mv := none) rfl ar31 rfl rfl rfl (fun w => sbn w)) HS ?_
            refine t_take 1 rfl (by kernel_rfl) (by kernel_rfl) (by kernel_rfl) (fun _ _ _ h => h) (fun w HS => r_fa rfl fo76_6) HS ?_
            refine t_take 2 rfl (by kernel_rfl) (by kernel_rfl) (by kernel_rfl) (fun _ _ _ h => h) (fun w HS => r_slAo (o := 6) (h := 32) (m := 32) (lv := none) (hv := none) (mv := none) rfl ar31 rfl rfl rfl (fun w => sbn w)) HS ?_
            refine t_step 3 rfl (by kernel_rfl) (o_callR Try.func48 rfl rfl rfl (equal_ret _ (⟨some ⟨b14, 0, none⟩, 32, 32, onF (hmac (key) (framed [t.head])) (t.cs.l)⟩ : Sl) (⟨some ⟨b2, 6, none⟩, 32, 32, t.tag⟩ : Sl) (H.slBlkA (i := 4) rfl 32 (show (onF (hmac (key) (framed [t.head])) (t.cs.l)).length = 32 from onF_len _ (show (hmac (key) (framed [t.head])).length = 32 from hmac_len _ _) _) (by decide)) (H.slTail (i := 1) (o := 6) (pre := [V64 t.serial, .string ⟨(t.tenant).toArray⟩, V8 t.rights, VI t.from_, VI t.until_, t.cs.v]) rfl rfl (show (t.tag).length = 32 from htag) (by decide))) ?_)
            rintro _ w ⟨rfl, Hc⟩
            replace H : Hp w0 w [] ([.blk b1 ((key).map V8) 31, .blk b2 ([V64 t.serial, .string ⟨(t.tenant).toArray⟩, V8 t.rights, VI t.from_, VI t.until_, t.cs.v] ++ (t.tag).map V8) 76, .own a4 n5 c6 ((t.head).map V8) 5 1, .own (some b9) 1 1 ([.slice (hd a4) n5 c6]) 29 1, .blk b14 ((onF (hmac (key) (framed [t.head])) (t.cs.l)).map V8) 31]) := H.call Hc
            clear Hc
            refine ⟨H, ?_⟩
            replace HS := H
            refine t_take 4 rfl (by kernel_rfl) (by kernel_rfl) (by kernel_rfl) (fun _ _ _ h => h) (fun w HS => r_not rfl) HS ?_
            refine t_done (by kernel_rfl) ?_
            clear HS
            by_cases hc15 : onF (hmac (key) (framed [t.head])) (t.cs.l) = t.tag
            · skip
              repeat refine c_seq ?_
              refine c_no (by exact congrArg Value.bool (congrArg not (decide_eq_true hc15))) ?_
              refine c_skip ?_
              repeat refine c_seq ?_
              refine c_region ?_
              refine l_op (o_val (r_ldA (C := [V64 t.serial, .string ⟨(t.tenant).toArray⟩, V8 t.rights, VI t.from_, VI t.until_, t.cs.v] ++ (t.tag).map V8) H (i := 1) rfl rfl rt76 (by rw [List.length_append, List.length_map, (show (t.tag).length = 32 from htag)]; rfl)) ?_)
              refine l_op (o_callR Try.func72 rfl rfl rfl (effect_ret _ t (hc.up H) (show (t.tag).length = 32 from htag)) ?_)
              rintro _ w ⟨rfl, Hc⟩
              replace H : Hp w0 w [] ([.blk b1 ((key).map V8) 31, .blk b2 ([V64 t.serial, .string ⟨(t.tenant).toArray⟩, V8 t.rights, VI t.from_, VI t.until_, t.cs.v] ++ (t.tag).map V8) 76, .own a4 n5 c6 ((t.head).map V8) 5 1, .own (some b9) 1 1 ([.slice (hd a4) n5 c6]) 29 1, .blk b14 ((onF (hmac (key) (framed [t.head])) (t.cs.l)).map V8) 31]) := H.call Hc
              clear Hc
              refine l_op (o_val (r_mv) ?_)
              refine l_op (o_val (r_ext rfl rfl) ?_)
              refine l_op (o_val (r_ext rfl rfl) ?_)
              refine l_op (o_val (r_as) ?_)
              refine l_op (o_val (r_as) ?_)
              first | refine l_end ?_ | refine l_nil ?_
              repeat refine c_seq ?_
              refine c_region ?_
              refine l_op (o_val (r_mv) ?_)
              refine l_op (o_val (r_fa rfl fo76_3) ?_)
              refine l_op (o_val (r_ld (v := VI t.from_) H (i := 1) rfl rfl ct2 rfl) ?_)
              refine l_op (o_val (r_bin (a := now) (b := t.from_) rfl rfl (fun _ => b_lss)) ?_)
              refine l_op (o_val (r_mv) ?_)
              by_cases hc16 : now < t.from_
              · skip
                refine l_no rfl rfl (by exact congrArg Value.bool (decide_eq_true hc16)) rfl ?_
                refine l_no rfl rfl (by exact congrArg Value.bool (decide_eq_true hc16)) rfl ?_
                refine l_no rfl rfl (by exact congrArg Value.bool (decide_eq_true hc16)) rfl ?_
                refine l_op (o_val (r_pick (b := true) (congrArg Value.bool (decide_eq_true hc16))) ?_)
                first | refine l_end ?_ | refine l_nil ?_
                repeat refine c_seq ?_
                refine c_yes rfl ?_
                repeat refine c_seq ?_
                refine c_region ?_
                refine l_op (o_val (r_as) ?_)
                first | refine l_end ?_ | refine l_nil ?_
                refine c_ret ?_
                try dsimp only [Exit.then, Exit.inBlock]
                refine e_ret1 (v := VI 14) Try.results77 rfl ?_
                refine ⟨_, rfl, ?_⟩
                refine ⟨?_, H.sub (List.nil_sublist _)⟩
                rw [checkT, if_neg (by rw [hc3]; decide), if_neg (not_not_intro hc15), if_pos (by omega)]
              · skip
                refine l_yes rfl rfl (by exact congrArg Value.bool (decide_eq_false hc16)) (o_val (r_mv) ?_)
                refine l_yes rfl rfl (by exact congrArg Value.bool (decide_eq_false hc16)) (o_val (r_mv) ?_)
                refine l_yes rfl rfl (by exact congrArg Value.bool (decide_eq_false hc16)) (o_val (r_bin (a := now) (b := (effF (t.rights) (t.until_) t.cs.l).2) rfl rfl (fun _ => b_geq)) ?_)
                refine l_op (o_val (r_pick (b := false) (congrArg Value.bool (decide_eq_false hc16))) ?_)
                first | refine l_end ?_ | refine l_nil ?_
                by_cases hc17 : (effF (t.rights) (t.until_) t.cs.l).2 ≤ now
                · skip
                  repeat refine c_seq ?_
                  refine c_yes (by exact congrArg Value.bool (decide_eq_true hc17)) ?_
                  repeat refine c_seq ?_
                  refine c_region ?_
                  refine l_op (o_val (r_as) ?_)
                  first | refine l_end ?_ | refine l_nil ?_
                  refine c_ret ?_
                  try dsimp only [Exit.then, Exit.inBlock]
                  refine e_ret1 (v := VI 14) Try.results77 rfl ?_
                  refine ⟨_, rfl, ?_⟩
                  refine ⟨?_, H.sub (List.nil_sublist _)⟩
                  rw [checkT, if_neg (by rw [hc3]; decide), if_neg (not_not_intro hc15), if_pos (by omega)]
                · skip
                  repeat refine c_seq ?_
                  refine c_no (by exact congrArg Value.bool (decide_eq_false hc17)) ?_
                  refine c_skip ?_
                  repeat refine c_seq ?_
                  refine c_region ?_
                  refine l_op (o_val (r_as) ?_)
                  first | refine l_end ?_ | refine l_nil ?_
                  refine c_ret ?_
                  try dsimp only [Exit.then, Exit.inBlock]
                  refine e_ret1 (v := VI 0) Try.results77 rfl ?_
                  refine ⟨_, rfl, ?_⟩
                  refine ⟨?_, H.sub (List.nil_sublist _)⟩
                  rw [checkT, if_neg (by rw [hc3]; decide), if_neg (not_not_intro hc15), if_neg (by omega)]
            · skip
              repeat refine c_seq ?_
              refine c_yes (by exact congrArg Value.bool (congrArg not (decide_eq_false hc15))) ?_
              repeat refine c_seq ?_
              refine c_region ?_
              refine l_op (o_val (r_as) ?_)
              first | refine l_end ?_ | refine l_nil ?_
              refine c_ret ?_
              try dsimp only [Exit.then, Exit.inBlock]
              refine e_ret1 (v := VI 13) Try.results77 rfl ?_
              refine ⟨_, rfl, ?_⟩
              refine ⟨?_, H.sub (List.nil_sublist _)⟩
              rw [checkT, if_neg (by rw [hc3]; decide), if_pos hc15]
        · skip
          refine (o_alloc H zc31 (fun b18 w H hb18 => ?_))
          replace H : Hp w0 w [] ([.blk b1 ((key).map V8) 31, .blk b2 ([V64 t.serial, .string ⟨(t.tenant).toArray⟩, V8 t.rights, VI t.from_, VI t.until_, t.cs.v] ++ (t.tag).map V8) 76, .own a4 n5 c6 ((t.head).map V8) 5 1, .own (some b9) 1 1 ([.slice (hd a4) n5 c6]) 29 1, .blk b18 ((List.replicate 32 (0 : UInt8)).map V8) 31]) := H
          refine ⟨H.sub (.cons_cons _ (.cons_cons _ (List.nil_sublist _))), ?_⟩
          replace HS := H.sub (.cons_cons _ (.cons_cons _ (List.nil_sublist _)))
          refine t_step 4 rfl (by kernel_rfl) (o_callR Try.func52 rfl rfl rfl (macOf_ret _ (⟨some ⟨b1, 0, none⟩, 32, 32, key⟩ : Sl) (H.slBlkA (i := 0) rfl 32 (show (key).length = 32 from hk) (by decide)) (hd (some b9)) 1 1 [⟨hd a4, n5, c6, t.head⟩] (H.own (i := 3) rfl) rfl (all1 (H.slOwn (i := 2) rfl)) (by omega) (by simp [framed, be_len]; omega)) ?_)
          rintro _ w ⟨rfl, Hc⟩
          replace H : Hp w0 w [] ([.blk b1 ((key).map V8) 31, .blk b2 ([V64 t.serial, .string ⟨(t.tenant).toArray⟩, V8 t.rights, VI t.from_, VI t.until_, t.cs.v] ++ (t.tag).map V8) 76, .own a4 n5 c6 ((t.head).map V8) 5 1, .own (some b9) 1 1 ([.slice (hd a4) n5 c6]) 29 1, .blk b18 ((List.replicate 32 (0 : UInt8)).map V8) 31]) := H.call Hc
          clear Hc
          refine ⟨H.sub (.cons_cons _ (.cons_cons _ (List.nil_sublist _))), ?_⟩
          replace HS := H.sub (.cons_cons _ (.cons_cons _ (List.nil_sublist _)))
          refine t_step 7 rfl (by kernel_rfl) (o_callR Try.func118 rfl rfl rfl (on_ret _ (hmac (key) (framed [t.head])) (show (hmac (key) (framed [t.head])).length = 32 from hmac_len _ _) t.cs (hc.up H)) ?_)
          rintro _ w ⟨rfl, Hc⟩
          replace H : Hp w0 w [] ([.blk b1 ((key).map V8) 31, .blk b2 ([V64 t.serial, .string ⟨(t.tenant).toArray⟩, V8 t.rights, VI t.from_, VI t.until_, t.cs.v] ++ (t.tag).map V8) 76, .own a4 n5 c6 ((t.head).map V8) 5 1, .own (some b9) 1 1 ([.slice (hd a4) n5 c6]) 29 1, .blk b18 ((List.replicate 32 (0 : UInt8)).map V8) 31]) := H.call Hc
          clear Hc
          refine ⟨H.sub (.cons_cons _ (.cons_cons _ (List.nil_sublist _))), ?_⟩
          replace HS := H.sub (.cons_cons _ (.cons_cons _ (List.nil_sublist _)))
          refine t_step 9 rfl (by kernel_rfl) (o_stA (l' := onF (hmac (key) (framed [t.head])) (t.cs.l)) H (i := 4) rfl rfl rfl cs31 (show (List.replicate 32 (0 : UInt8)).length = 32 from (List.length_replicate ..)) (show (onF (hmac (key) (framed [t.head])) (t.cs.l)).length = 32 from onF_len _ (show (hmac (key) (framed [t.head])).length = 32 from hmac_len _ _) _) (fun w H => ?_))
          replace H : Hp w0 w [] ([.blk b1 ((key).map V8) 31, .blk b2 ([V64 t.serial, .string ⟨(t.tenant).toArray⟩, V8 t.rights, VI t.from_, VI t.until_, t.cs.v] ++ (t.tag).map V8) 76, .own a4 n5 c6 ((t.head).map V8) 5 1, .own (some b9) 1 1 ([.slice (hd a4) n5 c6]) 29 1, .blk b18 ((onF (hmac (key) (framed [t.head])) (t.cs.l)).map V8) 31]) := H
          refine ⟨H.sub (.cons_cons _ (.cons_cons _ (List.nil_sublist _))), ?_⟩
          replace HS := H.sub (.cons_cons _ (.cons_cons _ (List.nil_sublist _)))
          refine t_done (by kernel_rfl) ?_
          clear HS
          repeat refine c_seq ?_
          refine wp_held (fun w => Hp w0 w [] [.blk b1 ((key).map V8) 31, .blk b2 ([V64 t.serial, .string ⟨(t.tenant).toArray⟩, V8 t.rights, VI t.from_, VI t.until_, t.cs.v] ++ (t.tag).map V8) 76, .own a4 n5 c6 ((t.head).map V8) 5 1, .own (some b9) 1 1 ([.slice (hd a4) n5 c6]) 29 1, .blk b18 ((onF (hmac (key) (framed [t.head])) (t.cs.l)).map V8) 31]) mixed ?_
          replace H := H.drew
          have HS := H
          refine t_take 0 rfl (by kernel_rfl) (by kernel_rfl) (by kernel_rfl) (fun _ _ _ h => h) (fun w HS => r_slA (h := 32) (m := 32) (lv := none) (hv := none) (mv := none) rfl ar31 rfl rfl rfl (fun w => sbn w)) HS ?_
          refine t_take 1 rfl (by kernel_rfl) (by kernel_rfl) (by kernel_rfl) (fun _ _ _ h => h) (fun w HS => r_fa rfl fo76_6) HS ?_
          refine t_take 2 rfl (by kernel_rfl) (by kernel_rfl) (by kernel_rfl) (fun _ _ _ h => h) (fun w HS => r_slAo (o := 6) (h := 32) (m := 32) (lv := none) (hv := none) (mv := none) rfl ar31 rfl rfl rfl (fun w => sbn w)) HS ?_
          refine t_step 3 rfl (by kernel_rfl) (o_callR Try.func48 rfl rfl rfl (equal_ret _ (⟨some ⟨b18, 0, none⟩, 32, 32, onF (hmac (key) (framed [t.head])) (t.cs.l)⟩ : Sl) (⟨some ⟨b2, 6, none⟩, 32, 32, t.tag⟩ : Sl) (H.slBlkA (i := 4) rfl 32 (show (onF (hmac (key) (framed [t.head])) (t.cs.l)).length = 32 from onF_len _ (show (hmac (key) (framed [t.head])).length = 32 from hmac_len _ _) _) (by decide)) (H.slTail (i := 1) (o := 6) (pre := [V64 t.serial, .string ⟨(t.tenant).toArray⟩, V8 t.rights, VI t.from_, VI t.until_, t.cs.v]) rfl rfl (show (t.tag).length = 32 from htag) (by decide))) ?_)
          rintro _ w ⟨rfl, Hc⟩
          replace H : Hp w0 w [] ([.blk b1 ((key).map V8) 31, .blk b2 ([V64 t.serial, .string ⟨(t.tenant).toArray⟩, V8 t.rights, VI t.from_, VI t.until_, t.cs.v] ++ (t.tag).map V8) 76, .own a4 n5 c6 ((t.head).map V8) 5 1, .own (some b9) 1 1 ([.slice (hd a4) n5 c6]) 29 1, .blk b18 ((onF (hmac (key) (framed [t.head])) (t.cs.l)).map V8) 31]) := H.call Hc
          clear Hc
          refine ⟨H, ?_⟩
          replace HS := H
          refine t_take 4 rfl (by kernel_rfl) (by kernel_rfl) (by kernel_rfl) (fun _ _ _ h => h) (fun w HS => r_not rfl) HS ?_
          refine t_done (by kernel_rfl) ?_
          clear HS
          by_cases hc19 : onF (hmac (key) (framed [t.head])) (t.cs.l) = t.tag
          · skip
            repeat refine c_seq ?_
            refine c_no (by exact congrArg Value.bool (congrArg not (decide_eq_true hc19))) ?_
            refine c_skip ?_
            repeat refine c_seq ?_
            refine c_region ?_
            refine l_op (o_val (r_ldA (C := [V64 t.serial, .string ⟨(t.tenant).toArray⟩, V8 t.rights, VI t.from_, VI t.until_, t.cs.v] ++ (t.tag).map V8) H (i := 1) rfl rfl rt76 (by rw [List.length_append, List.length_map, (show (t.tag).length = 32 from htag)]; rfl)) ?_)
            refine l_op (o_callR Try.func72 rfl rfl rfl (effect_ret _ t (hc.up H) (show (t.tag).length = 32 from htag)) ?_)
            rintro _ w ⟨rfl, Hc⟩
            replace H : Hp w0 w [] ([.blk b1 ((key).map V8) 31, .blk b2 ([V64 t.serial, .string ⟨(t.tenant).toArray⟩, V8 t.rights, VI t.from_, VI t.until_, t.cs.v] ++ (t.tag).map V8) 76, .own a4 n5 c6 ((t.head).map V8) 5 1, .own (some b9) 1 1 ([.slice (hd a4) n5 c6]) 29 1, .blk b18 ((onF (hmac (key) (framed [t.head])) (t.cs.l)).map V8) 31]) := H.call Hc
            clear Hc
            refine l_op (o_val (r_mv) ?_)
            refine l_op (o_val (r_ext rfl rfl) ?_)
            refine l_op (o_val (r_ext rfl rfl) ?_)
            refine l_op (o_val (r_as) ?_)
            refine l_op (o_val (r_as) ?_)
            first | refine l_end ?_ | refine l_nil ?_
            repeat refine c_seq ?_
            refine c_region ?_
            refine l_op (o_val (r_mv) ?_)
            refine l_op (o_val (r_fa rfl fo76_3) ?_)
            refine l_op (o_val (r_ld (v := VI t.from_) H (i := 1) rfl rfl ct2 rfl) ?_)
            refine l_op (o_val (r_bin (a := now) (b := t.from_) rfl rfl (fun _ => b_lss)) ?_)
            refine l_op (o_val (r_mv) ?_)
            by_cases hc20 : now < t.from_
            · skip
              refine l_no rfl rfl (by exact congrArg Value.bool (decide_eq_true hc20)) rfl ?_
              refine l_no rfl rfl (by exact congrArg Value.bool (decide_eq_true hc20)) rfl ?_
              refine l_no rfl rfl (by exact congrArg Value.bool (decide_eq_true hc20)) rfl ?_
              refine l_op (o_val (r_pick (b := true) (congrArg Value.bool (decide_eq_true hc20))) ?_)
              first | refine l_end ?_ | refine l_nil ?_
              repeat refine c_seq ?_
              refine c_yes rfl ?_
              repeat refine c_seq ?_
              refine c_region ?_
              refine l_op (o_val (r_as) ?_)
              first | refine l_end ?_ | refine l_nil ?_
              refine c_ret ?_
              try dsimp only [Exit.then, Exit.inBlock]
              refine e_ret1 (v := VI 14) Try.results77 rfl ?_
              refine ⟨_, rfl, ?_⟩
              refine ⟨?_, H.sub (List.nil_sublist _)⟩
              rw [checkT, if_neg (by rw [hc3]; decide), if_neg (not_not_intro hc19), if_pos (by omega)]
            · skip
              refine l_yes rfl rfl (by exact congrArg Value.bool (decide_eq_false hc20)) (o_val (r_mv) ?_)
              refine l_yes rfl rfl (by exact congrArg Value.bool (decide_eq_false hc20)) (o_val (r_mv) ?_)
              refine l_yes rfl rfl (by exact congrArg Value.bool (decide_eq_false hc20)) (o_val (r_bin (a := now) (b := (effF (t.rights) (t.until_) t.cs.l).2) rfl rfl (fun _ => b_geq)) ?_)
              refine l_op (o_val (r_pick (b := false) (congrArg Value.bool (decide_eq_false hc20))) ?_)
              first | refine l_end ?_ | refine l_nil ?_
              by_cases hc21 : (effF (t.rights) (t.until_) t.cs.l).2 ≤ now
              · skip
                repeat refine c_seq ?_
                refine c_yes (by exact congrArg Value.bool (decide_eq_true hc21)) ?_
                repeat refine c_seq ?_
                refine c_region ?_
                refine l_op (o_val (r_as) ?_)
                first | refine l_end ?_ | refine l_nil ?_
                refine c_ret ?_
                try dsimp only [Exit.then, Exit.inBlock]
                refine e_ret1 (v := VI 14) Try.results77 rfl ?_
                refine ⟨_, rfl, ?_⟩
                refine ⟨?_, H.sub (List.nil_sublist _)⟩
                rw [checkT, if_neg (by rw [hc3]; decide), if_neg (not_not_intro hc19), if_pos (by omega)]
              · skip
                repeat refine c_seq ?_
                refine c_no (by exact congrArg Value.bool (decide_eq_false hc21)) ?_
                refine c_skip ?_
                repeat refine c_seq ?_
                refine c_region ?_
                refine l_op (o_val (r_as) ?_)
                first | refine l_end ?_ | refine l_nil ?_
                refine c_ret ?_
                try dsimp only [Exit.then, Exit.inBlock]
                refine e_ret1 (v := VI 0) Try.results77 rfl ?_
                refine ⟨_, rfl, ?_⟩
                refine ⟨?_, H.sub (List.nil_sublist _)⟩
                rw [checkT, if_neg (by rw [hc3]; decide), if_neg (not_not_intro hc19), if_neg (by omega)]
          · skip
            repeat refine c_seq ?_
            refine c_yes (by exact congrArg Value.bool (congrArg not (decide_eq_false hc19))) ?_
            repeat refine c_seq ?_
            refine c_region ?_
            refine l_op (o_val (r_as) ?_)
            first | refine l_end ?_ | refine l_nil ?_
            refine c_ret ?_
            try dsimp only [Exit.then, Exit.inBlock]
            refine e_ret1 (v := VI 13) Try.results77 rfl ?_
            refine ⟨_, rfl, ?_⟩
            refine ⟨?_, H.sub (List.nil_sublist _)⟩
            rw [checkT, if_neg (by rw [hc3]; decide), if_pos hc19]
      · skip
        refine (o_alloc H zc31 (fun b22 w H hb22 => ?_))
        replace H : Hp w0 w [] ([.blk b1 ((key).map V8) 31, .blk b2 ([V64 t.serial, .string ⟨(t.tenant).toArray⟩, V8 t.rights, VI t.from_, VI t.until_, t.cs.v] ++ (t.tag).map V8) 76, .own a4 n5 c6 ((t.head).map V8) 5 1, .blk b22 ((List.replicate 32 (0 : UInt8)).map V8) 31]) := H
        refine ⟨H.sub (.cons_cons _ (.cons_cons _ (List.nil_sublist _))), ?_⟩
        replace HS := H.sub (.cons_cons _ (.cons_cons _ (List.nil_sublist _)))
        refine t_step 3 rfl (by kernel_rfl) (o_bslV ([.slice (hd a4) n5 c6]) H sl22 zc29 rfl (by simp [Value.oneCell', Sl.v]) rfl (by decide) (fun b23 w H hb23 => ?_))
        replace H : Hp w0 w [] ([.blk b1 ((key).map V8) 31, .blk b2 ([V64 t.serial, .string ⟨(t.tenant).toArray⟩, V8 t.rights, VI t.from_, VI t.until_, t.cs.v] ++ (t.tag).map V8) 76, .own a4 n5 c6 ((t.head).map V8) 5 1, .blk b22 ((List.replicate 32 (0 : UInt8)).map V8) 31, .own (some b23) 1 1 ([.slice (hd a4) n5 c6]) 29 1]) := H
        refine ⟨H.sub (.cons_cons _ (.cons_cons _ (List.nil_sublist _))), ?_⟩
        replace HS := H.sub (.cons_cons _ (.cons_cons _ (List.nil_sublist _)))
        refine t_step 4 rfl (by kernel_rfl) (o_callR Try.func52 rfl rfl rfl (macOf_ret _ (⟨some ⟨b1, 0, none⟩, 32, 32, key⟩ : Sl) (H.slBlkA (i := 0) rfl 32 (show (key).length = 32 from hk) (by decide)) (hd (some b23)) 1 1 [⟨hd a4, n5, c6, t.head⟩] (H.own (i := 4) rfl) rfl (all1 (H.slOwn (i := 2) rfl)) (by omega) (by simp [framed, be_len]; omega)) ?_)
        rintro _ w ⟨rfl, Hc⟩
        replace H : Hp w0 w [] ([.blk b1 ((key).map V8) 31, .blk b2 ([V64 t.serial, .string ⟨(t.tenant).toArray⟩, V8 t.rights, VI t.from_, VI t.until_, t.cs.v] ++ (t.tag).map V8) 76, .own a4 n5 c6 ((t.head).map V8) 5 1, .blk b22 ((List.replicate 32 (0 : UInt8)).map V8) 31, .own (some b23) 1 1 ([.slice (hd a4) n5 c6]) 29 1]) := H.call Hc
        clear Hc
        refine ⟨H.sub (.cons_cons _ (.cons_cons _ (List.nil_sublist _))), ?_⟩
        replace HS := H.sub (.cons_cons _ (.cons_cons _ (List.nil_sublist _)))
        refine t_step 7 rfl (by kernel_rfl) (o_callR Try.func118 rfl rfl rfl (on_ret _ (hmac (key) (framed [t.head])) (show (hmac (key) (framed [t.head])).length = 32 from hmac_len _ _) t.cs (hc.up H)) ?_)
        rintro _ w ⟨rfl, Hc⟩
        replace H : Hp w0 w [] ([.blk b1 ((key).map V8) 31, .blk b2 ([V64 t.serial, .string ⟨(t.tenant).toArray⟩, V8 t.rights, VI t.from_, VI t.until_, t.cs.v] ++ (t.tag).map V8) 76, .own a4 n5 c6 ((t.head).map V8) 5 1, .blk b22 ((List.replicate 32 (0 : UInt8)).map V8) 31, .own (some b23) 1 1 ([.slice (hd a4) n5 c6]) 29 1]) := H.call Hc
        clear Hc
        refine ⟨H.sub (.cons_cons _ (.cons_cons _ (List.nil_sublist _))), ?_⟩
        replace HS := H.sub (.cons_cons _ (.cons_cons _ (List.nil_sublist _)))
        refine t_step 9 rfl (by kernel_rfl) (o_stA (l' := onF (hmac (key) (framed [t.head])) (t.cs.l)) H (i := 3) rfl rfl rfl cs31 (show (List.replicate 32 (0 : UInt8)).length = 32 from (List.length_replicate ..)) (show (onF (hmac (key) (framed [t.head])) (t.cs.l)).length = 32 from onF_len _ (show (hmac (key) (framed [t.head])).length = 32 from hmac_len _ _) _) (fun w H => ?_))
        replace H : Hp w0 w [] ([.blk b1 ((key).map V8) 31, .blk b2 ([V64 t.serial, .string ⟨(t.tenant).toArray⟩, V8 t.rights, VI t.from_, VI t.until_, t.cs.v] ++ (t.tag).map V8) 76, .own a4 n5 c6 ((t.head).map V8) 5 1, .blk b22 ((onF (hmac (key) (framed [t.head])) (t.cs.l)).map V8) 31, .own (some b23) 1 1 ([.slice (hd a4) n5 c6]) 29 1]) := H
        refine ⟨H.sub (.cons_cons _ (.cons_cons _ (List.nil_sublist _))), ?_⟩
        replace HS := H.sub (.cons_cons _ (.cons_cons _ (List.nil_sublist _)))
        refine t_done (by kernel_rfl) ?_
        clear HS
        repeat refine c_seq ?_
        refine wp_held (fun w => Hp w0 w [] [.blk b1 ((key).map V8) 31, .blk b2 ([V64 t.serial, .string ⟨(t.tenant).toArray⟩, V8 t.rights, VI t.from_, VI t.until_, t.cs.v] ++ (t.tag).map V8) 76, .own a4 n5 c6 ((t.head).map V8) 5 1, .blk b22 ((onF (hmac (key) (framed [t.head])) (t.cs.l)).map V8) 31, .own (some b23) 1 1 ([.slice (hd a4) n5 c6]) 29 1]) mixed ?_
        replace H := H.drew
        have HS := H
        refine t_take 0 rfl (by kernel_rfl) (by kernel_rfl) (by kernel_rfl) (fun _ _ _ h => h) (fun w HS => r_slA (h := 32) (m := 32) (lv := none) (hv := none) (mv := none) rfl ar31 rfl rfl rfl (fun w => sbn w)) HS ?_
        refine t_take 1 rfl (by kernel_rfl) (by kernel_rfl) (by kernel_rfl) (fun _ _ _ h => h) (fun w HS => r_fa rfl fo76_6) HS ?_
        refine t_take 2 rfl (by kernel_rfl) (by kernel_rfl) (by kernel_rfl) (fun _ _ _ h => h) (fun w HS => r_slAo (o := 6) (h := 32) (m := 32) (lv := none) (hv := none) (mv := none) rfl ar31 rfl rfl rfl (fun w => sbn w)) HS ?_
        refine t_step 3 rfl (by kernel_rfl) (o_callR Try.func48 rfl rfl rfl (equal_ret _ (⟨some ⟨b22, 0, none⟩, 32, 32, onF (hmac (key) (framed [t.head])) (t.cs.l)⟩ : Sl) (⟨some ⟨b2, 6, none⟩, 32, 32, t.tag⟩ : Sl) (H.slBlkA (i := 3) rfl 32 (show (onF (hmac (key) (framed [t.head])) (t.cs.l)).length = 32 from onF_len _ (show (hmac (key) (framed [t.head])).length = 32 from hmac_len _ _) _) (by decide)) (H.slTail (i := 1) (o := 6) (pre := [V64 t.serial, .string ⟨(t.tenant).toArray⟩, V8 t.rights, VI t.from_, VI t.until_, t.cs.v]) rfl rfl (show (t.tag).length = 32 from htag) (by decide))) ?_)
        rintro _ w ⟨rfl, Hc⟩
        replace H : Hp w0 w [] ([.blk b1 ((key).map V8) 31, .blk b2 ([V64 t.serial, .string ⟨(t.tenant).toArray⟩, V8 t.rights, VI t.from_, VI t.until_, t.cs.v] ++ (t.tag).map V8) 76, .own a4 n5 c6 ((t.head).map V8) 5 1, .blk b22 ((onF (hmac (key) (framed [t.head])) (t.cs.l)).map V8) 31, .own (some b23) 1 1 ([.slice (hd a4) n5 c6]) 29 1]) := H.call Hc
        clear Hc
        refine ⟨H, ?_⟩
        replace HS := H
        refine t_take 4 rfl (by kernel_rfl) (by kernel_rfl) (by kernel_rfl) (fun _ _ _ h => h) (fun w HS => r_not rfl) HS ?_
        refine t_done (by kernel_rfl) ?_
        clear HS
        by_cases hc24 : onF (hmac (key) (framed [t.head])) (t.cs.l) = t.tag
        · skip
          repeat refine c_seq ?_
          refine c_no (by exact congrArg Value.bool (congrArg not (decide_eq_true hc24))) ?_
          refine c_skip ?_
          repeat refine c_seq ?_
          refine c_region ?_
          refine l_op (o_val (r_ldA (C := [V64 t.serial, .string ⟨(t.tenant).toArray⟩, V8 t.rights, VI t.from_, VI t.until_, t.cs.v] ++ (t.tag).map V8) H (i := 1) rfl rfl rt76 (by rw [List.length_append, List.length_map, (show (t.tag).length = 32 from htag)]; rfl)) ?_)
          refine l_op (o_callR Try.func72 rfl rfl rfl (effect_ret _ t (hc.up H) (show (t.tag).length = 32 from htag)) ?_)
          rintro _ w ⟨rfl, Hc⟩
          replace H : Hp w0 w [] ([.blk b1 ((key).map V8) 31, .blk b2 ([V64 t.serial, .string ⟨(t.tenant).toArray⟩, V8 t.rights, VI t.from_, VI t.until_, t.cs.v] ++ (t.tag).map V8) 76, .own a4 n5 c6 ((t.head).map V8) 5 1, .blk b22 ((onF (hmac (key) (framed [t.head])) (t.cs.l)).map V8) 31, .own (some b23) 1 1 ([.slice (hd a4) n5 c6]) 29 1]) := H.call Hc
          clear Hc
          refine l_op (o_val (r_mv) ?_)
          refine l_op (o_val (r_ext rfl rfl) ?_)
          refine l_op (o_val (r_ext rfl rfl) ?_)
          refine l_op (o_val (r_as) ?_)
          refine l_op (o_val (r_as) ?_)
          first | refine l_end ?_ | refine l_nil ?_
          repeat refine c_seq ?_
          refine c_region ?_
          refine l_op (o_val (r_mv) ?_)
          refine l_op (o_val (r_fa rfl fo76_3) ?_)
          refine l_op (o_val (r_ld (v := VI t.from_) H (i := 1) rfl rfl ct2 rfl) ?_)
          refine l_op (o_val (r_bin (a := now) (b := t.from_) rfl rfl (fun _ => b_lss)) ?_)
          refine l_op (o_val (r_mv) ?_)
          by_cases hc25 : now < t.from_
          · skip
            refine l_no rfl rfl (by exact congrArg Value.bool (decide_eq_true hc25)) rfl ?_
            refine l_no rfl rfl (by exact congrArg Value.bool (decide_eq_true hc25)) rfl ?_
            refine l_no rfl rfl (by exact congrArg Value.bool (decide_eq_true hc25)) rfl ?_
            refine l_op (o_val (r_pick (b := true) (congrArg Value.bool (decide_eq_true hc25))) ?_)
            first | refine l_end ?_ | refine l_nil ?_
            repeat refine c_seq ?_
            refine c_yes rfl ?_
            repeat refine c_seq ?_
            refine c_region ?_
            refine l_op (o_val (r_as) ?_)
            first | refine l_end ?_ | refine l_nil ?_
            refine c_ret ?_
            try dsimp only [Exit.then, Exit.inBlock]
            refine e_ret1 (v := VI 14) Try.results77 rfl ?_
            refine ⟨_, rfl, ?_⟩
            refine ⟨?_, H.sub (List.nil_sublist _)⟩
            rw [checkT, if_neg (by rw [hc3]; decide), if_neg (not_not_intro hc24), if_pos (by omega)]
          · skip
            refine l_yes rfl rfl (by exact congrArg Value.bool (decide_eq_false hc25)) (o_val (r_mv) ?_)
            refine l_yes rfl rfl (by exact congrArg Value.bool (decide_eq_false hc25)) (o_val (r_mv) ?_)
            refine l_yes rfl rfl (by exact congrArg Value.bool (decide_eq_false hc25)) (o_val (r_bin (a := now) (b := (effF (t.rights) (t.until_) t.cs.l).2) rfl rfl (fun _ => b_geq)) ?_)
            refine l_op (o_val (r_pick (b := false) (congrArg Value.bool (decide_eq_false hc25))) ?_)
            first | refine l_end ?_ | refine l_nil ?_
            by_cases hc26 : (effF (t.rights) (t.until_) t.cs.l).2 ≤ now
            · skip
              repeat refine c_seq ?_
              refine c_yes (by exact congrArg Value.bool (decide_eq_true hc26)) ?_
              repeat refine c_seq ?_
              refine c_region ?_
              refine l_op (o_val (r_as) ?_)
              first | refine l_end ?_ | refine l_nil ?_
              refine c_ret ?_
              try dsimp only [Exit.then, Exit.inBlock]
              refine e_ret1 (v := VI 14) Try.results77 rfl ?_
              refine ⟨_, rfl, ?_⟩
              refine ⟨?_, H.sub (List.nil_sublist _)⟩
              rw [checkT, if_neg (by rw [hc3]; decide), if_neg (not_not_intro hc24), if_pos (by omega)]
            · skip
              repeat refine c_seq ?_
              refine c_no (by exact congrArg Value.bool (decide_eq_false hc26)) ?_
              refine c_skip ?_
              repeat refine c_seq ?_
              refine c_region ?_
              refine l_op (o_val (r_as) ?_)
              first | refine l_end ?_ | refine l_nil ?_
              refine c_ret ?_
              try dsimp only [Exit.then, Exit.inBlock]
              refine e_ret1 (v := VI 0) Try.results77 rfl ?_
              refine ⟨_, rfl, ?_⟩
              refine ⟨?_, H.sub (List.nil_sublist _)⟩
              rw [checkT, if_neg (by rw [hc3]; decide), if_neg (not_not_intro hc24), if_neg (by omega)]
        · skip
          repeat refine c_seq ?_
          refine c_yes (by exact congrArg Value.bool (congrArg not (decide_eq_false hc24))) ?_
          repeat refine c_seq ?_
          refine c_region ?_
          refine l_op (o_val (r_as) ?_)
          first | refine l_end ?_ | refine l_nil ?_
          refine c_ret ?_
          try dsimp only [Exit.then, Exit.inBlock]
          refine e_ret1 (v := VI 13) Try.results77 rfl ?_
          refine ⟨_, rfl, ?_⟩
          refine ⟨?_, H.sub (List.nil_sublist _)⟩
          rw [checkT, if_neg (by rw [hc3]; decide), if_pos hc24]
    · skip
      refine (o_alloc H zc31 (fun b27 w H hb27 => ?_))
      replace H : Hp w0 w [] ([.blk b1 ((key).map V8) 31, .blk b2 ([V64 t.serial, .string ⟨(t.tenant).toArray⟩, V8 t.rights, VI t.from_, VI t.until_, t.cs.v] ++ (t.tag).map V8) 76, .blk b27 ((List.replicate 32 (0 : UInt8)).map V8) 31]) := H
      refine ⟨H.sub (.cons_cons _ (.cons_cons _ (List.nil_sublist _))), ?_⟩
      replace HS := H.sub (.cons_cons _ (.cons_cons _ (List.nil_sublist _)))
      refine t_step 2 rfl (by kernel_rfl) (o_callR Try.func115 rfl rfl rfl (head_ret _ t (hc.up H) (show (t.tag).length = 32 from htag) (by first | omega | (dsimp only; omega) | simp)) ?_)
      rintro _ w ⟨a28, n29, c30, rfl, hn31, hh32, Hc⟩
      replace H : Hp w0 w [] ([.blk b1 ((key).map V8) 31, .blk b2 ([V64 t.serial, .string ⟨(t.tenant).toArray⟩, V8 t.rights, VI t.from_, VI t.until_, t.cs.v] ++ (t.tag).map V8) 76, .blk b27 ((List.replicate 32 (0 : UInt8)).map V8) 31, .own a28 n29 c30 ((t.head).map V8) 5 1]) := H.call Hc
      clear Hc
      try dsimp only at hn31
      refine ⟨H.sub (.cons_cons _ (.cons_cons _ (List.nil_sublist _))), ?_⟩
      replace HS := H.sub (.cons_cons _ (.cons_cons _ (List.nil_sublist _)))
      refine t_step 3 rfl (by kernel_rfl) (o_bslV ([.slice (hd a28) n29 c30]) H sl22 zc29 rfl (by simp [Value.oneCell', Sl.v]) rfl (by decide) (fun b33 w H hb33 => ?_))
      replace H : Hp w0 w [] ([.blk b1 ((key).map V8) 31, .blk b2 ([V64 t.serial, .string ⟨(t.tenant).toArray⟩, V8 t.rights, VI t.from_, VI t.until_, t.cs.v] ++ (t.tag).map V8) 76, .blk b27 ((List.replicate 32 (0 : UInt8)).map V8) 31, .own a28 n29 c30 ((t.head).map V8) 5 1, .own (some b33) 1 1 ([.slice (hd a28) n29 c30]) 29 1]) := H
      refine ⟨H.sub (.cons_cons _ (.cons_cons _ (List.nil_sublist _))), ?_⟩
      replace HS := H.sub (.cons_cons _ (.cons_cons _ (List.nil_sublist _)))
      refine t_step 4 rfl (by kernel_rfl) (o_callR Try.func52 rfl rfl rfl (macOf_ret _ (⟨some ⟨b1, 0, none⟩, 32, 32, key⟩ : Sl) (H.slBlkA (i := 0) rfl 32 (show (key).length = 32 from hk) (by decide)) (hd (some b33)) 1 1 [⟨hd a28, n29, c30, t.head⟩] (H.own (i := 4) rfl) rfl (all1 (H.slOwn (i := 3) rfl)) (by omega) (by simp [framed, be_len]; omega)) ?_)
      rintro _ w ⟨rfl, Hc⟩
      replace H : Hp w0 w [] ([.blk b1 ((key).map V8) 31, .blk b2 ([V64 t.serial, .string ⟨(t.tenant).toArray⟩, V8 t.rights, VI t.from_, VI t.until_, t.cs.v] ++ (t.tag).map V8) 76, .blk b27 ((List.replicate 32 (0 : UInt8)).map V8) 31, .own a28 n29 c30 ((t.head).map V8) 5 1, .own (some b33) 1 1 ([.slice (hd a28) n29 c30]) 29 1]) := H.call Hc
      clear Hc
      refine ⟨H.sub (.cons_cons _ (.cons_cons _ (List.nil_sublist _))), ?_⟩
      replace HS := H.sub (.cons_cons _ (.cons_cons _ (List.nil_sublist _)))
      refine t_step 7 rfl (by kernel_rfl) (o_callR Try.func118 rfl rfl rfl (on_ret _ (hmac (key) (framed [t.head])) (show (hmac (key) (framed [t.head])).length = 32 from hmac_len _ _) t.cs (hc.up H)) ?_)
      rintro _ w ⟨rfl, Hc⟩
      replace H : Hp w0 w [] ([.blk b1 ((key).map V8) 31, .blk b2 ([V64 t.serial, .string ⟨(t.tenant).toArray⟩, V8 t.rights, VI t.from_, VI t.until_, t.cs.v] ++ (t.tag).map V8) 76, .blk b27 ((List.replicate 32 (0 : UInt8)).map V8) 31, .own a28 n29 c30 ((t.head).map V8) 5 1, .own (some b33) 1 1 ([.slice (hd a28) n29 c30]) 29 1]) := H.call Hc
      clear Hc
      refine ⟨H.sub (.cons_cons _ (.cons_cons _ (List.nil_sublist _))), ?_⟩
      replace HS := H.sub (.cons_cons _ (.cons_cons _ (List.nil_sublist _)))
      refine t_step 9 rfl (by kernel_rfl) (o_stA (l' := onF (hmac (key) (framed [t.head])) (t.cs.l)) H (i := 2) rfl rfl rfl cs31 (show (List.replicate 32 (0 : UInt8)).length = 32 from (List.length_replicate ..)) (show (onF (hmac (key) (framed [t.head])) (t.cs.l)).length = 32 from onF_len _ (show (hmac (key) (framed [t.head])).length = 32 from hmac_len _ _) _) (fun w H => ?_))
      replace H : Hp w0 w [] ([.blk b1 ((key).map V8) 31, .blk b2 ([V64 t.serial, .string ⟨(t.tenant).toArray⟩, V8 t.rights, VI t.from_, VI t.until_, t.cs.v] ++ (t.tag).map V8) 76, .blk b27 ((onF (hmac (key) (framed [t.head])) (t.cs.l)).map V8) 31, .own a28 n29 c30 ((t.head).map V8) 5 1, .own (some b33) 1 1 ([.slice (hd a28) n29 c30]) 29 1]) := H
      refine ⟨H.sub (.cons_cons _ (.cons_cons _ (List.nil_sublist _))), ?_⟩
      replace HS := H.sub (.cons_cons _ (.cons_cons _ (List.nil_sublist _)))
      refine t_done (by kernel_rfl) ?_
      clear HS
      repeat refine c_seq ?_
      refine wp_held (fun w => Hp w0 w [] [.blk b1 ((key).map V8) 31, .blk b2 ([V64 t.serial, .string ⟨(t.tenant).toArray⟩, V8 t.rights, VI t.from_, VI t.until_, t.cs.v] ++ (t.tag).map V8) 76, .blk b27 ((onF (hmac (key) (framed [t.head])) (t.cs.l)).map V8) 31, .own a28 n29 c30 ((t.head).map V8) 5 1, .own (some b33) 1 1 ([.slice (hd a28) n29 c30]) 29 1]) mixed ?_
      replace H := H.drew
      have HS := H
      refine t_take 0 rfl (by kernel_rfl) (by kernel_rfl) (by kernel_rfl) (fun _ _ _ h => h) (fun w HS => r_slA (h := 32) (m := 32) (lv := none) (hv := none) (mv := none) rfl ar31 rfl rfl rfl (fun w => sbn w)) HS ?_
      refine t_take 1 rfl (by kernel_rfl) (by kernel_rfl) (by kernel_rfl) (fun _ _ _ h => h) (fun w HS => r_fa rfl fo76_6) HS ?_
      refine t_take 2 rfl (by kernel_rfl) (by kernel_rfl) (by kernel_rfl) (fun _ _ _ h => h) (fun w HS => r_slAo (o := 6) (h := 32) (m := 32) (lv := none) (hv := none) (mv := none) rfl ar31 rfl rfl rfl (fun w => sbn w)) HS ?_
      refine t_step 3 rfl (by kernel_rfl) (o_callR Try.func48 rfl rfl rfl (equal_ret _ (⟨some ⟨b27, 0, none⟩, 32, 32, onF (hmac (key) (framed [t.head])) (t.cs.l)⟩ : Sl) (⟨some ⟨b2, 6, none⟩, 32, 32, t.tag⟩ : Sl) (H.slBlkA (i := 2) rfl 32 (show (onF (hmac (key) (framed [t.head])) (t.cs.l)).length = 32 from onF_len _ (show (hmac (key) (framed [t.head])).length = 32 from hmac_len _ _) _) (by decide)) (H.slTail (i := 1) (o := 6) (pre := [V64 t.serial, .string ⟨(t.tenant).toArray⟩, V8 t.rights, VI t.from_, VI t.until_, t.cs.v]) rfl rfl (show (t.tag).length = 32 from htag) (by decide))) ?_)
      rintro _ w ⟨rfl, Hc⟩
      replace H : Hp w0 w [] ([.blk b1 ((key).map V8) 31, .blk b2 ([V64 t.serial, .string ⟨(t.tenant).toArray⟩, V8 t.rights, VI t.from_, VI t.until_, t.cs.v] ++ (t.tag).map V8) 76, .blk b27 ((onF (hmac (key) (framed [t.head])) (t.cs.l)).map V8) 31, .own a28 n29 c30 ((t.head).map V8) 5 1, .own (some b33) 1 1 ([.slice (hd a28) n29 c30]) 29 1]) := H.call Hc
      clear Hc
      refine ⟨H, ?_⟩
      replace HS := H
      refine t_take 4 rfl (by kernel_rfl) (by kernel_rfl) (by kernel_rfl) (fun _ _ _ h => h) (fun w HS => r_not rfl) HS ?_
      refine t_done (by kernel_rfl) ?_
      clear HS
      by_cases hc34 : onF (hmac (key) (framed [t.head])) (t.cs.l) = t.tag
      · skip
        repeat refine c_seq ?_
        refine c_no (by exact congrArg Value.bool (congrArg not (decide_eq_true hc34))) ?_
        refine c_skip ?_
        repeat refine c_seq ?_
        refine c_region ?_
        refine l_op (o_val (r_ldA (C := [V64 t.serial, .string ⟨(t.tenant).toArray⟩, V8 t.rights, VI t.from_, VI t.until_, t.cs.v] ++ (t.tag).map V8) H (i := 1) rfl rfl rt76 (by rw [List.length_append, List.length_map, (show (t.tag).length = 32 from htag)]; rfl)) ?_)
        refine l_op (o_callR Try.func72 rfl rfl rfl (effect_ret _ t (hc.up H) (show (t.tag).length = 32 from htag)) ?_)
        rintro _ w ⟨rfl, Hc⟩
        replace H : Hp w0 w [] ([.blk b1 ((key).map V8) 31, .blk b2 ([V64 t.serial, .string ⟨(t.tenant).toArray⟩, V8 t.rights, VI t.from_, VI t.until_, t.cs.v] ++ (t.tag).map V8) 76, .blk b27 ((onF (hmac (key) (framed [t.head])) (t.cs.l)).map V8) 31, .own a28 n29 c30 ((t.head).map V8) 5 1, .own (some b33) 1 1 ([.slice (hd a28) n29 c30]) 29 1]) := H.call Hc
        clear Hc
        refine l_op (o_val (r_mv) ?_)
        refine l_op (o_val (r_ext rfl rfl) ?_)
        refine l_op (o_val (r_ext rfl rfl) ?_)
        refine l_op (o_val (r_as) ?_)
        refine l_op (o_val (r_as) ?_)
        first | refine l_end ?_ | refine l_nil ?_
        repeat refine c_seq ?_
        refine c_region ?_
        refine l_op (o_val (r_mv) ?_)
        refine l_op (o_val (r_fa rfl fo76_3) ?_)
        refine l_op (o_val (r_ld (v := VI t.from_) H (i := 1) rfl rfl ct2 rfl) ?_)
        refine l_op (o_val (r_bin (a := now) (b := t.from_) rfl rfl (fun _ => b_lss)) ?_)
        refine l_op (o_val (r_mv) ?_)
        by_cases hc35 : now < t.from_
        · skip
          refine l_no rfl rfl (by exact congrArg Value.bool (decide_eq_true hc35)) rfl ?_
          refine l_no rfl rfl (by exact congrArg Value.bool (decide_eq_true hc35)) rfl ?_
          refine l_no rfl rfl (by exact congrArg Value.bool (decide_eq_true hc35)) rfl ?_
          refine l_op (o_val (r_pick (b := true) (congrArg Value.bool (decide_eq_true hc35))) ?_)
          first | refine l_end ?_ | refine l_nil ?_
          repeat refine c_seq ?_
          refine c_yes rfl ?_
          repeat refine c_seq ?_
          refine c_region ?_
          refine l_op (o_val (r_as) ?_)
          first | refine l_end ?_ | refine l_nil ?_
          refine c_ret ?_
          try dsimp only [Exit.then, Exit.inBlock]
          refine e_ret1 (v := VI 14) Try.results77 rfl ?_
          refine ⟨_, rfl, ?_⟩
          refine ⟨?_, H.sub (List.nil_sublist _)⟩
          rw [checkT, if_neg (by rw [hc3]; decide), if_neg (not_not_intro hc34), if_pos (by omega)]
        · skip
          refine l_yes rfl rfl (by exact congrArg Value.bool (decide_eq_false hc35)) (o_val (r_mv) ?_)
          refine l_yes rfl rfl (by exact congrArg Value.bool (decide_eq_false hc35)) (o_val (r_mv) ?_)
          refine l_yes rfl rfl (by exact congrArg Value.bool (decide_eq_false hc35)) (o_val (r_bin (a := now) (b := (effF (t.rights) (t.until_) t.cs.l).2) rfl rfl (fun _ => b_geq)) ?_)
          refine l_op (o_val (r_pick (b := false) (congrArg Value.bool (decide_eq_false hc35))) ?_)
          first | refine l_end ?_ | refine l_nil ?_
          by_cases hc36 : (effF (t.rights) (t.until_) t.cs.l).2 ≤ now
          · skip
            repeat refine c_seq ?_
            refine c_yes (by exact congrArg Value.bool (decide_eq_true hc36)) ?_
            repeat refine c_seq ?_
            refine c_region ?_
            refine l_op (o_val (r_as) ?_)
            first | refine l_end ?_ | refine l_nil ?_
            refine c_ret ?_
            try dsimp only [Exit.then, Exit.inBlock]
            refine e_ret1 (v := VI 14) Try.results77 rfl ?_
            refine ⟨_, rfl, ?_⟩
            refine ⟨?_, H.sub (List.nil_sublist _)⟩
            rw [checkT, if_neg (by rw [hc3]; decide), if_neg (not_not_intro hc34), if_pos (by omega)]
          · skip
            repeat refine c_seq ?_
            refine c_no (by exact congrArg Value.bool (decide_eq_false hc36)) ?_
            refine c_skip ?_
            repeat refine c_seq ?_
            refine c_region ?_
            refine l_op (o_val (r_as) ?_)
            first | refine l_end ?_ | refine l_nil ?_
            refine c_ret ?_
            try dsimp only [Exit.then, Exit.inBlock]
            refine e_ret1 (v := VI 0) Try.results77 rfl ?_
            refine ⟨_, rfl, ?_⟩
            refine ⟨?_, H.sub (List.nil_sublist _)⟩
            rw [checkT, if_neg (by rw [hc3]; decide), if_neg (not_not_intro hc34), if_neg (by omega)]
      · skip
        repeat refine c_seq ?_
        refine c_yes (by exact congrArg Value.bool (congrArg not (decide_eq_false hc34))) ?_
        repeat refine c_seq ?_
        refine c_region ?_
        refine l_op (o_val (r_as) ?_)
        first | refine l_end ?_ | refine l_nil ?_
        refine c_ret ?_
        try dsimp only [Exit.then, Exit.inBlock]
        refine e_ret1 (v := VI 13) Try.results77 rfl ?_
        refine ⟨_, rfl, ?_⟩
        refine ⟨?_, H.sub (List.nil_sublist _)⟩
        rw [checkT, if_neg (by rw [hc3]; decide), if_pos hc34]
  · skip
    repeat refine c_seq ?_
    refine c_yes (by exact congrArg Value.bool (congrArg not hc3)) ?_
    repeat refine c_seq ?_
    refine c_region ?_
    refine l_op (o_val (r_as) ?_)
    first | refine l_end ?_ | refine l_nil ?_
    refine c_ret ?_
    try dsimp only [Exit.then, Exit.inBlock]
    refine e_ret1 (v := VI 1) Try.results77 rfl ?_
    refine ⟨_, rfl, ?_⟩
    refine ⟨?_, H.sub (List.nil_sublist _)⟩
    rw [checkT, if_pos hc3]
end Go.Proofs.Ytjmbbhnpfmblpaa
