/- Lemmas for the statement ModelNames, part 4: rules of operations, walks through functions, plain laws. -/
import Derived.Test.YtiepekfcegdkoaaGreatDoorModelNamesG3
namespace Go.Proofs.YtiepekfcegdkoaaGreatDoor
open Go
set_option maxRecDepth 100000
theorem issue_ok (w0 : World) (key : List UInt8) (hk : key.length = 32) (t : Tok) (hc : t.cs.ok cavE 2 w0) (htag : t.tag.length = 32) (hn : t.tenant.length ≤ 65536) (hm : mayT t = true) (h0 : t.cs.len = 0) :
    Ret Tryz.prog 16 [.agg ((key).map V8).toArray, .agg ([V64 t.serial, .string ⟨(t.tenant).toArray⟩, V8 t.rights, VI t.from_, VI t.until_, t.cs.v] ++ (t.tag).map V8).toArray] w0 fun v w' => v = .tuple #[.agg ([V64 t.serial, .string ⟨(t.tenant).toArray⟩, V8 t.rights, VI t.from_, VI t.until_, .slice none 0 0] ++ (hmac key (framed [t.head])).map V8).toArray, VI 0] ∧ Hp w0 w' [] [] := by
  refine ret_mk Tryz.func16 rfl Tryz.ntmps16 (by simp) ?_
  have H := Hp.refl w0 []
  repeat refine c_seq ?_
  refine c_region ?_; refine l_op (o_box (v := .agg ((key).map V8).toArray) H rfl (fun b1 w H hb1 => ?_)); replace H : Hp _ w _ ([.blk b1 ((key).map V8) 23]) := H
  refine l_op (o_box (v := .agg ([V64 t.serial, .string ⟨(t.tenant).toArray⟩, V8 t.rights, VI t.from_, VI t.until_, t.cs.v] ++ (t.tag).map V8).toArray) H rfl (fun b2 w H hb2 => ?_)); replace H : Hp _ w _ ([_, .blk b2 ([V64 t.serial, .string ⟨(t.tenant).toArray⟩, V8 t.rights, VI t.from_, VI t.until_, t.cs.v] ++ (t.tag).map V8) 46]) := H
  refine l_op (o_alloc H zc46 (fun b3 w H hb3 => ?_)); replace H : Hp _ w _ ([_, _, .blk b3 ([V64 (0 : UInt64), .string ⟨(([] : List UInt8)).toArray⟩, V8 (0 : UInt8), VI 0, VI 0, .slice none 0 0] ++ (List.replicate 32 (0 : UInt8)).map V8) 46]) := H
  refine l_op (o_val r_as ?_); first | refine l_end ?_ | refine l_nil ?_
  repeat refine c_seq ?_
  refine c_region ?_; refine l_op (o_val (r_ldA (C := [V64 t.serial, .string ⟨(t.tenant).toArray⟩, V8 t.rights, VI t.from_, VI t.until_, t.cs.v] ++ (t.tag).map V8) H (i := 1) rfl rfl rt46 (by rw [List.length_append, List.length_map, (show (t.tag).length = 32 from htag)]; rfl)) ?_); refine l_op (o_callR Tryz.func30 rfl rfl rfl (may_ret _ t (hc.up H) (show (t.tag).length = 32 from htag) (by first | omega | (dsimp only; omega) | simp)) ?_); rintro _ w ⟨rfl, Hc⟩
  replace H : Hp _ w _ ([_, _, _]) := H.call Hc
  clear Hc
  have hk4 : (mayT t) = true := hm
  refine l_op (o_val (r_not rfl) ?_); refine l_op (o_val r_mv ?_); refine l_yes rfl rfl (by exact congrArg Value.bool (congrArg not hk4)) (o_val (r_fa rfl fo46_5) ?_); refine l_yes rfl rfl (by exact congrArg Value.bool (congrArg not hk4)) (o_val (r_ld (v := t.cs.v) H (i := 1) rfl rfl ct44 rfl) ?_); refine l_yes rfl rfl (by exact congrArg Value.bool (congrArg not hk4)) (o_val (r_lens el44 rfl) ?_); refine l_yes rfl rfl (by exact congrArg Value.bool (congrArg not hk4)) (o_val (r_bin (a := (t.cs.len : Int)) (b := 0) rfl rfl (fun _ => b_gtrB false (decide_eq_false (by omega)))) ?_); refine l_op (o_val (r_pick (b := false) (congrArg Value.bool (congrArg not hk4))) ?_); first | refine l_end ?_ | refine l_nil ?_
  repeat refine c_seq ?_
  refine c_no rfl ?_; refine c_skip ?_; repeat refine c_seq ?_
  refine wp_held (fun w => Hp w0 w [] [.blk b1 ((key).map V8) 23, .blk b3 ([V64 (0 : UInt64), .string ⟨(([] : List UInt8)).toArray⟩, V8 (0 : UInt8), VI 0, VI 0, .slice none 0 0] ++ (List.replicate 32 (0 : UInt8)).map V8) 46]) mixed ?_; replace H := H.drew
  have HS := H.sub (.cons_cons _ (.cons _ (.cons_cons _ (List.nil_sublist _))))
  refine t_take 0 rfl (by kernel_rfl) (by kernel_rfl) (by kernel_rfl) (fun _ _ _ h => h) (fun w HS => r_slA (h := 32) (m := 32) (lv := none) (hv := none) (mv := none) rfl ar23 rfl rfl rfl (fun w => sbn w)) HS ?_; refine t_step 1 rfl (by kernel_rfl) (o_val (r_ldA (C := [V64 t.serial, .string ⟨(t.tenant).toArray⟩, V8 t.rights, VI t.from_, VI t.until_, t.cs.v] ++ (t.tag).map V8) H (i := 1) rfl rfl rt46 (by rw [List.length_append, List.length_map, (show (t.tag).length = 32 from htag)]; rfl)) ?_); refine ⟨H.sub (.cons_cons _ (.cons _ (.cons_cons _ (List.nil_sublist _)))), ?_⟩
  replace HS := H.sub (.cons_cons _ (.cons _ (.cons_cons _ (List.nil_sublist _))))
  refine t_take 5 rfl (by kernel_rfl) (by kernel_rfl) (by kernel_rfl) (fun _ _ _ h => h) (fun w HS => r_fa rfl fo46_5) HS ?_; refine t_step 2 rfl (by kernel_rfl) (o_callR Tryz.func31 rfl rfl rfl (head_ret _ t (hc.up H) (show (t.tag).length = 32 from htag) (by first | omega | (dsimp only; omega) | simp)) ?_); rintro _ w ⟨a5, n6, c7, rfl, hn8, hh9, Hc⟩
  replace H : Hp _ w _ ([_, _, _, .own a5 n6 c7 ((t.head).map V8) 5 1]) := H.call Hc
  clear Hc
  try dsimp only at hn8
  refine ⟨H.sub (.cons_cons _ (.cons _ (.cons_cons _ (List.nil_sublist _)))), ?_⟩
  replace HS := H.sub (.cons_cons _ (.cons _ (.cons_cons _ (List.nil_sublist _))))
  refine t_step 3 rfl (by kernel_rfl) (o_bslV ([.slice (hd a5) n6 c7]) H sl58 zc24 rfl (by simp [Value.oneCell']) rfl (by decide) (fun b10 w H hb10 => ?_)); replace H : Hp _ w _ ([_, _, _, _, .own (some b10) 1 1 ([.slice (hd a5) n6 c7]) 24 1]) := H
  refine ⟨H.sub (.cons_cons _ (.cons _ (.cons_cons _ (List.nil_sublist _)))), ?_⟩
  replace HS := H.sub (.cons_cons _ (.cons _ (.cons_cons _ (List.nil_sublist _))))
  refine t_step 4 rfl (by kernel_rfl) (o_callR Tryz.func11 rfl rfl rfl (macOf_ret _ (⟨some ⟨b1, 0, none⟩, 32, 32, key⟩ : Sl) (H.slBlkA (i := 0) rfl 32 (show (key).length = 32 from hk) (by decide)) (hd (some b10)) 1 1 [⟨hd a5, n6, c7, t.head⟩] (H.own (i := 4) rfl) rfl (all1 (H.slOwn (i := 3) rfl)) (by omega) (by simp [framed, be_len]; omega)) ?_); rintro _ w ⟨rfl, Hc⟩
  replace H : Hp _ w _ ([_, _, _, _, _]) := H.call Hc
  clear Hc
  refine ⟨H.sub (.cons_cons _ (.cons _ (.cons_cons _ (List.nil_sublist _)))), ?_⟩
  replace HS := H.sub (.cons_cons _ (.cons _ (.cons_cons _ (List.nil_sublist _))))
  refine t_step 6 rfl (by kernel_rfl) (o_st (v := .slice none 0 0) H (i := 1) rfl rfl rfl cs44 rfl (by simp only [List.length_append, List.length_cons, List.length_nil]; omega) (fun w H => ?_)); replace H : Hp _ w _ ([_, .blk b2 ([V64 t.serial, .string ⟨(t.tenant).toArray⟩, V8 t.rights, VI t.from_, VI t.until_, .slice none 0 0] ++ (t.tag).map V8) 46, _, _, _]) := H
  refine ⟨H.sub (.cons_cons _ (.cons _ (.cons_cons _ (List.nil_sublist _)))), ?_⟩
  replace HS := H.sub (.cons_cons _ (.cons _ (.cons_cons _ (List.nil_sublist _))))
  refine t_take 7 rfl (by kernel_rfl) (by kernel_rfl) (by kernel_rfl) (fun _ _ _ h => h) (fun w HS => r_fa rfl fo46_6) HS ?_; refine t_step 8 rfl (by kernel_rfl) (o_stT (pre := [V64 t.serial, .string ⟨(t.tenant).toArray⟩, V8 t.rights, VI t.from_, VI t.until_, .slice none 0 0]) (l := t.tag) (l' := hmac (key) (framed [t.head])) H (i := 1) rfl rfl rfl cs23 rfl (show (t.tag).length = 32 from htag) (show (hmac (key) (framed [t.head])).length = 32 from hmac_len _ _) (fun w H => ?_)); replace H : Hp _ w _ ([_, .blk b2 ([V64 t.serial, .string ⟨(t.tenant).toArray⟩, V8 t.rights, VI t.from_, VI t.until_, .slice none 0 0] ++ (hmac (key) (framed [t.head])).map V8) 46, _, _, _]) := H
  refine ⟨H.sub (.cons_cons _ (.cons _ (.cons_cons _ (List.nil_sublist _)))), ?_⟩
  replace HS := H.sub (.cons_cons _ (.cons _ (.cons_cons _ (List.nil_sublist _))))
  refine t_done (by kernel_rfl) ?_
  clear HS
  repeat refine c_seq ?_
  refine c_region ?_; refine l_op (o_val (r_ldA (C := [V64 t.serial, .string ⟨(t.tenant).toArray⟩, V8 t.rights, VI t.from_, VI t.until_, .slice none 0 0] ++ (hmac (key) (framed [t.head])).map V8) H (i := 1) rfl rfl rt46 (by rw [List.length_append, List.length_map, (show (hmac (key) (framed [t.head])).length = 32 from hmac_len _ _)]; rfl)) ?_); refine l_op (o_stW (C' := [V64 t.serial, .string ⟨(t.tenant).toArray⟩, V8 t.rights, VI t.from_, VI t.until_, .slice none 0 0] ++ (hmac (key) (framed [t.head])).map V8) H (i := 2) rfl rfl rfl cs46 (by simp [Value.oneCell']) (by rw [List.length_append, List.length_map, (show (List.replicate 32 (0 : UInt8)).length = 32 from (List.length_replicate ..))]; rfl) (by rw [List.length_append, List.length_map, (show (hmac (key) (framed [t.head])).length = 32 from hmac_len _ _)]; rfl) (fun w H => ?_)); replace H : Hp _ w _ ([_, _, .blk b3 ([V64 t.serial, .string ⟨(t.tenant).toArray⟩, V8 t.rights, VI t.from_, VI t.until_, .slice none 0 0] ++ (hmac (key) (framed [t.head])).map V8) 46, _, _]) := H
  refine l_op (o_val r_as ?_); first | refine l_end ?_ | refine l_nil ?_
  refine c_ret ?_; try dsimp only [Exit.then, Exit.inBlock]
  refine e_retN (vs := [.agg ([V64 t.serial, .string ⟨(t.tenant).toArray⟩, V8 t.rights, VI t.from_, VI t.until_, .slice none 0 0] ++ (hmac (key) (framed [t.head])).map V8).toArray, VI 0]) _ Tryz.results16 rfl (H.resR (C := [V64 t.serial, .string ⟨(t.tenant).toArray⟩, V8 t.rights, VI t.from_, VI t.until_, .slice none 0 0] ++ (hmac (key) (framed [t.head])).map V8) (i := 2) rfl rfl rt46 (by rw [List.length_append, List.length_map, (show (hmac (key) (framed [t.head])).length = 32 from hmac_len _ _)]; rfl) (resT (v := VI 0) rfl (resZ))) ?_
  refine ⟨_, rfl, ?_⟩
  exact ⟨rfl, H.sub (List.nil_sublist _)⟩
def checkT (key : List UInt8) (t : Tok) (now : Int) : Int :=
  if mayT t = false then 1
  else if ¬ onF (hmac key (framed [t.head])) t.cs.l = t.tag then 13
  else if now < t.from_ ∨ (effF t.rights t.until_ t.cs.l).2 ≤ now then 14
  else 0
theorem check14_ret (w0 : World) (key : List UInt8) (hk : key.length = 32) (t : Tok) (hc : t.cs.ok cavE 2 w0) (htag : t.tag.length = 32) (hn : t.tenant.length ≤ 65536) (now : Int) :
    Ret Tryz.prog 42 [.agg ((key).map V8).toArray, .agg ([V64 t.serial, .string ⟨(t.tenant).toArray⟩, V8 t.rights, VI t.from_, VI t.until_, t.cs.v] ++ (t.tag).map V8).toArray, VI now] w0 fun v w' => v = VI (checkT key t now) ∧ Hp w0 w' [] [] := by
  refine ret_mk Tryz.func42 rfl Tryz.ntmps42 (by simp) ?_
  have H := Hp.refl w0 []
  repeat refine c_seq ?_
  refine c_region ?_; refine l_op (o_box (v := .agg ((key).map V8).toArray) H rfl (fun b1 w H hb1 => ?_)); replace H : Hp _ w _ ([.blk b1 ((key).map V8) 23]) := H
  refine l_op (o_box (v := .agg ([V64 t.serial, .string ⟨(t.tenant).toArray⟩, V8 t.rights, VI t.from_, VI t.until_, t.cs.v] ++ (t.tag).map V8).toArray) H rfl (fun b2 w H hb2 => ?_)); replace H : Hp _ w _ ([_, .blk b2 ([V64 t.serial, .string ⟨(t.tenant).toArray⟩, V8 t.rights, VI t.from_, VI t.until_, t.cs.v] ++ (t.tag).map V8) 46]) := H
  refine l_op (o_val r_as ?_); first | refine l_end ?_ | refine l_nil ?_
  repeat refine c_seq ?_
  refine c_region ?_; refine l_op (o_val (r_ldA (C := [V64 t.serial, .string ⟨(t.tenant).toArray⟩, V8 t.rights, VI t.from_, VI t.until_, t.cs.v] ++ (t.tag).map V8) H (i := 1) rfl rfl rt46 (by rw [List.length_append, List.length_map, (show (t.tag).length = 32 from htag)]; rfl)) ?_); refine l_op (o_callR Tryz.func30 rfl rfl rfl (may_ret _ t (hc.up H) (show (t.tag).length = 32 from htag) (by first | omega | (dsimp only; omega) | simp)) ?_); rintro _ w ⟨rfl, Hc⟩
  replace H : Hp _ w _ ([_, _]) := H.call Hc
  clear Hc
  refine l_op (o_val (r_not rfl) ?_); first | refine l_end ?_ | refine l_nil ?_
  rcases Bool.eq_false_or_eq_true (mayT t) with hc3 | hc3
  ·
   repeat refine c_seq ?_
   refine c_no (by exact congrArg Value.bool (congrArg not hc3)) ?_; refine c_skip ?_; repeat refine c_seq ?_
   refine wp_held (fun w => Hp w0 w [] [.blk b1 ((key).map V8) 23, .blk b2 ([V64 t.serial, .string ⟨(t.tenant).toArray⟩, V8 t.rights, VI t.from_, VI t.until_, t.cs.v] ++ (t.tag).map V8) 46]) mixed ?_; replace H := H.drew
   have HS := H
   refine t_take 0 rfl (by kernel_rfl) (by kernel_rfl) (by kernel_rfl) (fun _ _ _ h => h) (fun w HS => r_slA (h := 32) (m := 32) (lv := none) (hv := none) (mv := none) rfl ar23 rfl rfl rfl (fun w => sbn w)) HS ?_; refine t_take 1 rfl (by kernel_rfl) (by kernel_rfl) (by kernel_rfl) (fun _ _ _ h => h) (fun w HS => r_ldA (C := [V64 t.serial, .string ⟨(t.tenant).toArray⟩, V8 t.rights, VI t.from_, VI t.until_, t.cs.v] ++ (t.tag).map V8) HS (i := 1) rfl rfl rt46 (by rw [List.length_append, List.length_map, (show (t.tag).length = 32 from htag)]; rfl)) HS ?_; refine t_take 5 rfl (by kernel_rfl) (by kernel_rfl) (by kernel_rfl) (fun _ _ _ h => h) (fun w HS => r_fa rfl fo46_5) HS ?_; refine t_take 6 rfl (by kernel_rfl) (by kernel_rfl) (by kernel_rfl) (fun _ _ _ h => h) (fun w HS => r_ld (v := t.cs.v) HS (i := 1) rfl rfl ct44 rfl) HS ?_; refine t_all [2, 8] (by kernel_rfl) (by simp) (all_cons (w_op 2 rfl ?_) (all_cons (w_op 8 rfl ?_) (all_nil)))
   ·
    refine (o_callR Tryz.func31 rfl rfl rfl (head_ret _ t (hc.up H) (show (t.tag).length = 32 from htag) (by first | omega | (dsimp only; omega) | simp)) ?_)
    rintro _ w ⟨a4, n5, c6, rfl, hn7, hh8, Hc⟩
    replace H : Hp _ w _ ([_, _, .own a4 n5 c6 ((t.head).map V8) 5 1]) := H.call Hc
    clear Hc
    try dsimp only at hn7
    refine ⟨H.sub (.cons_cons _ (.cons_cons _ (List.nil_sublist _))), ?_⟩
    replace HS := H.sub (.cons_cons _ (.cons_cons _ (List.nil_sublist _)))
    refine t_all [3, 8] (by kernel_rfl) (by simp) (all_cons (w_op 3 rfl ?_) (all_cons (w_op 8 rfl ?_) (all_nil)))
    ·
     refine (o_bslV ([.slice (hd a4) n5 c6]) H sl58 zc24 rfl (by simp [Value.oneCell']) rfl (by decide) (fun b9 w H hb9 => ?_))
     replace H : Hp _ w _ ([_, _, _, .own (some b9) 1 1 ([.slice (hd a4) n5 c6]) 24 1]) := H
     refine ⟨H.sub (.cons_cons _ (.cons_cons _ (List.nil_sublist _))), ?_⟩
     replace HS := H.sub (.cons_cons _ (.cons_cons _ (List.nil_sublist _)))
     refine t_all [4, 8] (by kernel_rfl) (by simp) (all_cons (w_op 4 rfl ?_) (all_cons (w_op 8 rfl ?_) (all_nil)))
     ·
      refine (o_callR Tryz.func11 rfl rfl rfl (macOf_ret _ (⟨some ⟨b1, 0, none⟩, 32, 32, key⟩ : Sl) (H.slBlkA (i := 0) rfl 32 (show (key).length = 32 from hk) (by decide)) (hd (some b9)) 1 1 [⟨hd a4, n5, c6, t.head⟩] (H.own (i := 3) rfl) rfl (all1 (H.slOwn (i := 2) rfl)) (by omega) (by simp [framed, be_len]; omega)) ?_)
      rintro _ w ⟨rfl, Hc⟩
      replace H : Hp _ w _ ([_, _, _, _]) := H.call Hc
      clear Hc
      refine ⟨H.sub (.cons_cons _ (.cons_cons _ (List.nil_sublist _))), ?_⟩
      replace HS := H.sub (.cons_cons _ (.cons_cons _ (List.nil_sublist _)))
      refine t_all [7, 8] (by kernel_rfl) (by simp) (all_cons (w_op 7 rfl ?_) (all_cons (w_op 8 rfl ?_) (all_nil)))
      ·
       refine (o_callR Tryz.func77 rfl rfl rfl (on_ret _ (hmac (key) (framed [t.head])) (show (hmac (key) (framed [t.head])).length = 32 from hmac_len _ _) t.cs (hc.up H)) ?_)
       rintro _ w ⟨rfl, Hc⟩
       replace H : Hp _ w _ ([_, _, _, _]) := H.call Hc
       clear Hc
       refine ⟨H.sub (.cons_cons _ (.cons_cons _ (List.nil_sublist _))), ?_⟩
       replace HS := H.sub (.cons_cons _ (.cons_cons _ (List.nil_sublist _)))
       refine t_step 8 rfl (by kernel_rfl) (o_alloc H zc23 (fun b10 w H hb10 => ?_)); replace H : Hp _ w _ ([_, _, _, _, .blk b10 ((List.replicate 32 (0 : UInt8)).map V8) 23]) := H
       refine ⟨H.sub (.cons_cons _ (.cons_cons _ (List.nil_sublist _))), ?_⟩
       replace HS := H.sub (.cons_cons _ (.cons_cons _ (List.nil_sublist _)))
       refine t_step 9 rfl (by kernel_rfl) (o_stA (l' := onF (hmac (key) (framed [t.head])) (t.cs.l)) H (i := 4) rfl rfl rfl cs23 (show (List.replicate 32 (0 : UInt8)).length = 32 from (List.length_replicate ..)) (show (onF (hmac (key) (framed [t.head])) (t.cs.l)).length = 32 from onF_len _ (show (hmac (key) (framed [t.head])).length = 32 from hmac_len _ _) _) (fun w H => ?_)); replace H : Hp _ w _ ([_, _, _, _, .blk b10 ((onF (hmac (key) (framed [t.head])) (t.cs.l)).map V8) 23]) := H
       refine ⟨H.sub (.cons_cons _ (.cons_cons _ (List.nil_sublist _))), ?_⟩
       replace HS := H.sub (.cons_cons _ (.cons_cons _ (List.nil_sublist _)))
       refine t_done (by kernel_rfl) ?_
       clear HS
       repeat refine c_seq ?_
       refine wp_held (fun w => Hp w0 w [] [.blk b1 ((key).map V8) 23, .blk b2 ([V64 t.serial, .string ⟨(t.tenant).toArray⟩, V8 t.rights, VI t.from_, VI t.until_, t.cs.v] ++ (t.tag).map V8) 46, .own a4 n5 c6 ((t.head).map V8) 5 1, .own (some b9) 1 1 ([.slice (hd a4) n5 c6]) 24 1, .blk b10 ((onF (hmac (key) (framed [t.head])) (t.cs.l)).map V8) 23]) mixed ?_; replace H := H.drew
       have HS := H
       refine t_take 0 rfl (by kernel_rfl) (by kernel_rfl) (by kernel_rfl) (fun _ _ _ h => h) (fun w HS => r_slA (h := 32) (m := 32) (lv := none) (hv := none) (mv := none) rfl ar23 rfl rfl rfl (fun w => sbn w)) HS ?_; refine t_take 1 rfl (by kernel_rfl) (by kernel_rfl) (by kernel_rfl) (fun _ _ _ h => h) (fun w HS => r_fa rfl fo46_6) HS ?_; refine t_take 2 rfl (by kernel_rfl) (by kernel_rfl) (by kernel_rfl) (fun _ _ _ h => h) (fun w HS => r_slAo (o := 6) (h := 32) (m := 32) (lv := none) (hv := none) (mv := none) rfl ar23 rfl rfl rfl (fun w => sbn w)) HS ?_; refine t_step 3 rfl (by kernel_rfl) (o_callR Tryz.func78 rfl rfl rfl (equal_ret _ (⟨some ⟨b10, 0, none⟩, 32, 32, onF (hmac (key) (framed [t.head])) (t.cs.l)⟩ : Sl) (⟨some ⟨b2, 6, none⟩, 32, 32, t.tag⟩ : Sl) (H.slBlkA (i := 4) rfl 32 (show (onF (hmac (key) (framed [t.head])) (t.cs.l)).length = 32 from onF_len _ (show (hmac (key) (framed [t.head])).length = 32 from hmac_len _ _) _) (by decide)) (H.slTail (i := 1) (o := 6) (pre := [V64 t.serial, .string ⟨(t.tenant).toArray⟩, V8 t.rights, VI t.from_, VI t.until_, t.cs.v]) rfl rfl (show (t.tag).length = 32 from htag) (by decide))) ?_); rintro _ w ⟨rfl, Hc⟩
       replace H : Hp _ w _ ([_, _, _, _, _]) := H.call Hc
       clear Hc
       refine ⟨H, ?_⟩
       replace HS := H
       refine t_take 4 rfl (by kernel_rfl) (by kernel_rfl) (by kernel_rfl) (fun _ _ _ h => h) (fun w HS => r_not rfl) HS ?_; refine t_done (by kernel_rfl) ?_
       clear HS
       by_cases hc11 : onF (hmac (key) (framed [t.head])) (t.cs.l) = t.tag
       ·
        repeat refine c_seq ?_
        refine c_no (by exact congrArg Value.bool (congrArg not (decide_eq_true hc11))) ?_; refine c_skip ?_; repeat refine c_seq ?_
        refine c_region ?_; refine l_op (o_val (r_ldA (C := [V64 t.serial, .string ⟨(t.tenant).toArray⟩, V8 t.rights, VI t.from_, VI t.until_, t.cs.v] ++ (t.tag).map V8) H (i := 1) rfl rfl rt46 (by rw [List.length_append, List.length_map, (show (t.tag).length = 32 from htag)]; rfl)) ?_); refine l_op (o_callR Tryz.func45 rfl rfl rfl (effect_ret _ t (hc.up H) (show (t.tag).length = 32 from htag)) ?_); rintro _ w ⟨rfl, Hc⟩
        replace H : Hp _ w _ ([_, _, _, _, _]) := H.call Hc
        clear Hc
        refine l_op (o_val r_mv ?_); refine l_op (o_val (r_ext rfl rfl) ?_); refine l_op (o_val (r_ext rfl rfl) ?_); refine l_op (o_val r_as ?_); refine l_op (o_val r_as ?_); first | refine l_end ?_ | refine l_nil ?_
        repeat refine c_seq ?_
        refine c_region ?_; refine l_op (o_val r_mv ?_); refine l_op (o_val (r_fa rfl fo46_3) ?_); refine l_op (o_val (r_ld (v := VI t.from_) H (i := 1) rfl rfl ct2 rfl) ?_); refine l_op (o_val (r_bin (a := now) (b := t.from_) rfl rfl (fun _ => b_lss)) ?_); refine l_op (o_val r_mv ?_)
        by_cases hc12 : now < t.from_
        ·
         refine l_no rfl rfl (by exact congrArg Value.bool (decide_eq_true hc12)) rfl ?_; refine l_no rfl rfl (by exact congrArg Value.bool (decide_eq_true hc12)) rfl ?_; refine l_no rfl rfl (by exact congrArg Value.bool (decide_eq_true hc12)) rfl ?_; refine l_op (o_val (r_pick (b := true) (congrArg Value.bool (decide_eq_true hc12))) ?_); first | refine l_end ?_ | refine l_nil ?_
         repeat refine c_seq ?_
         refine c_yes rfl ?_; repeat refine c_seq ?_
         refine c_region ?_; refine l_op (o_val r_as ?_); first | refine l_end ?_ | refine l_nil ?_
         refine c_ret ?_; try dsimp only [Exit.then, Exit.inBlock]
         refine e_ret1 (v := VI 14) Tryz.results42 rfl ?_
         refine ⟨_, rfl, ?_⟩
         refine ⟨?_, H.sub (List.nil_sublist _)⟩
         rw [checkT, if_neg (by rw [hc3]; decide), if_neg (not_not_intro hc11), if_pos (by omega)]
        ·
         refine l_yes rfl rfl (by exact congrArg Value.bool (decide_eq_false hc12)) (o_val r_mv ?_); refine l_yes rfl rfl (by exact congrArg Value.bool (decide_eq_false hc12)) (o_val r_mv ?_); refine l_yes rfl rfl (by exact congrArg Value.bool (decide_eq_false hc12)) (o_val (r_bin (a := now) (b := (effF (t.rights) (t.until_) t.cs.l).2) rfl rfl (fun _ => b_geq)) ?_); refine l_op (o_val (r_pick (b := false) (congrArg Value.bool (decide_eq_false hc12))) ?_); first | refine l_end ?_ | refine l_nil ?_
         by_cases hc13 : (effF (t.rights) (t.until_) t.cs.l).2 ≤ now
         ·
          repeat refine c_seq ?_
          refine c_yes (by exact congrArg Value.bool (decide_eq_true hc13)) ?_; repeat refine c_seq ?_
          refine c_region ?_; refine l_op (o_val r_as ?_); first | refine l_end ?_ | refine l_nil ?_
          refine c_ret ?_; try dsimp only [Exit.then, Exit.inBlock]
          refine e_ret1 (v := VI 14) Tryz.results42 rfl ?_
          refine ⟨_, rfl, ?_⟩
          refine ⟨?_, H.sub (List.nil_sublist _)⟩
          rw [checkT, if_neg (by rw [hc3]; decide), if_neg (not_not_intro hc11), if_pos (by omega)]
         ·
          repeat refine c_seq ?_
          refine c_no (by exact congrArg Value.bool (decide_eq_false hc13)) ?_; refine c_skip ?_; repeat refine c_seq ?_
          refine c_region ?_; refine l_op (o_val r_as ?_); first | refine l_end ?_ | refine l_nil ?_
          refine c_ret ?_; try dsimp only [Exit.then, Exit.inBlock]
          refine e_ret1 (v := VI 0) Tryz.results42 rfl ?_
          refine ⟨_, rfl, ?_⟩
          refine ⟨?_, H.sub (List.nil_sublist _)⟩
          rw [checkT, if_neg (by rw [hc3]; decide), if_neg (not_not_intro hc11), if_neg (by omega)]
       ·
        repeat refine c_seq ?_
        refine c_yes (by exact congrArg Value.bool (congrArg not (decide_eq_false hc11))) ?_; repeat refine c_seq ?_
        refine c_region ?_; refine l_op (o_val r_as ?_); first | refine l_end ?_ | refine l_nil ?_
        refine c_ret ?_; try dsimp only [Exit.then, Exit.inBlock]
        refine e_ret1 (v := VI 13) Tryz.results42 rfl ?_
        refine ⟨_, rfl, ?_⟩
        refine ⟨?_, H.sub (List.nil_sublist _)⟩
        rw [checkT, if_neg (by rw [hc3]; decide), if_pos hc11]
      ·
       refine (o_alloc H zc23 (fun b14 w H hb14 => ?_))
       replace H : Hp _ w _ ([_, _, _, _, .blk b14 ((List.replicate 32 (0 : UInt8)).map V8) 23]) := H
       refine ⟨H.sub (.cons_cons _ (.cons_cons _ (List.nil_sublist _))), ?_⟩
       replace HS := H.sub (.cons_cons _ (.cons_cons _ (List.nil_sublist _)))
       refine t_step 7 rfl (by kernel_rfl) (o_callR Tryz.func77 rfl rfl rfl (on_ret _ (hmac (key) (framed [t.head])) (show (hmac (key) (framed [t.head])).length = 32 from hmac_len _ _) t.cs (hc.up H)) ?_); rintro _ w ⟨rfl, Hc⟩
       replace H : Hp _ w _ ([_, _, _, _, _]) := H.call Hc
       clear Hc
       refine ⟨H.sub (.cons_cons _ (.cons_cons _ (List.nil_sublist _))), ?_⟩
       replace HS := H.sub (.cons_cons _ (.cons_cons _ (List.nil_sublist _)))
       refine t_step 9 rfl (by kernel_rfl) (o_stA (l' := onF (hmac (key) (framed [t.head])) (t.cs.l)) H (i := 4) rfl rfl rfl cs23 (show (List.replicate 32 (0 : UInt8)).length = 32 from (List.length_replicate ..)) (show (onF (hmac (key) (framed [t.head])) (t.cs.l)).length = 32 from onF_len _ (show (hmac (key) (framed [t.head])).length = 32 from hmac_len _ _) _) (fun w H => ?_)); replace H : Hp _ w _ ([_, _, _, _, .blk b14 ((onF (hmac (key) (framed [t.head])) (t.cs.l)).map V8) 23]) := H
       refine ⟨H.sub (.cons_cons _ (.cons_cons _ (List.nil_sublist _))), ?_⟩
       replace HS := H.sub (.cons_cons _ (.cons_cons _ (List.nil_sublist _)))
       refine t_done (by kernel_rfl) ?_
       clear HS
       repeat refine c_seq ?_
       refine wp_held (fun w => Hp w0 w [] [.blk b1 ((key).map V8) 23, .blk b2 ([V64 t.serial, .string ⟨(t.tenant).toArray⟩, V8 t.rights, VI t.from_, VI t.until_, t.cs.v] ++ (t.tag).map V8) 46, .own a4 n5 c6 ((t.head).map V8) 5 1, .own (some b9) 1 1 ([.slice (hd a4) n5 c6]) 24 1, .blk b14 ((onF (hmac (key) (framed [t.head])) (t.cs.l)).map V8) 23]) mixed ?_; replace H := H.drew
       have HS := H
       refine t_take 0 rfl (by kernel_rfl) (by kernel_rfl) (by kernel_rfl) (fun _ _ _ h => h) (fun w HS => r_slA (h := 32) (m := 32) (lv := none) (hv := none) (mv := none) rfl ar23 rfl rfl rfl (fun w => sbn w)) HS ?_; refine t_take 1 rfl (by kernel_rfl) (by kernel_rfl) (by kernel_rfl) (fun _ _ _ h => h) (fun w HS => r_fa rfl fo46_6) HS ?_; refine t_take 2 rfl (by kernel_rfl) (by kernel_rfl) (by kernel_rfl) (fun _ _ _ h => h) (fun w HS => r_slAo (o := 6) (h := 32) (m := 32) (lv := none) (hv := none) (mv := none) rfl ar23 rfl rfl rfl (fun w => sbn w)) HS ?_; refine t_step 3 rfl (by kernel_rfl) (o_callR Tryz.func78 rfl rfl rfl (equal_ret _ (⟨some ⟨b14, 0, none⟩, 32, 32, onF (hmac (key) (framed [t.head])) (t.cs.l)⟩ : Sl) (⟨some ⟨b2, 6, none⟩, 32, 32, t.tag⟩ : Sl) (H.slBlkA (i := 4) rfl 32 (show (onF (hmac (key) (framed [t.head])) (t.cs.l)).length = 32 from onF_len _ (show (hmac (key) (framed [t.head])).length = 32 from hmac_len _ _) _) (by decide)) (H.slTail (i := 1) (o := 6) (pre := [V64 t.serial, .string ⟨(t.tenant).toArray⟩, V8 t.rights, VI t.from_, VI t.until_, t.cs.v]) rfl rfl (show (t.tag).length = 32 from htag) (by decide))) ?_); rintro _ w ⟨rfl, Hc⟩
       replace H : Hp _ w _ ([_, _, _, _, _]) := H.call Hc
       clear Hc
       refine ⟨H, ?_⟩
       replace HS := H
       refine t_take 4 rfl (by kernel_rfl) (by kernel_rfl) (by kernel_rfl) (fun _ _ _ h => h) (fun w HS => r_not rfl) HS ?_; refine t_done (by kernel_rfl) ?_
       clear HS
       by_cases hc15 : onF (hmac (key) (framed [t.head])) (t.cs.l) = t.tag
       ·
        repeat refine c_seq ?_
        refine c_no (by exact congrArg Value.bool (congrArg not (decide_eq_true hc15))) ?_; refine c_skip ?_; repeat refine c_seq ?_
        refine c_region ?_; refine l_op (o_val (r_ldA (C := [V64 t.serial, .string ⟨(t.tenant).toArray⟩, V8 t.rights, VI t.from_, VI t.until_, t.cs.v] ++ (t.tag).map V8) H (i := 1) rfl rfl rt46 (by rw [List.length_append, List.length_map, (show (t.tag).length = 32 from htag)]; rfl)) ?_); refine l_op (o_callR Tryz.func45 rfl rfl rfl (effect_ret _ t (hc.up H) (show (t.tag).length = 32 from htag)) ?_); rintro _ w ⟨rfl, Hc⟩
        replace H : Hp _ w _ ([_, _, _, _, _]) := H.call Hc
        clear Hc
        refine l_op (o_val r_mv ?_); refine l_op (o_val (r_ext rfl rfl) ?_); refine l_op (o_val (r_ext rfl rfl) ?_); refine l_op (o_val r_as ?_); refine l_op (o_val r_as ?_); first | refine l_end ?_ | refine l_nil ?_
        repeat refine c_seq ?_
        refine c_region ?_; refine l_op (o_val r_mv ?_); refine l_op (o_val (r_fa rfl fo46_3) ?_); refine l_op (o_val (r_ld (v := VI t.from_) H (i := 1) rfl rfl ct2 rfl) ?_); refine l_op (o_val (r_bin (a := now) (b := t.from_) rfl rfl (fun _ => b_lss)) ?_); refine l_op (o_val r_mv ?_)
        by_cases hc16 : now < t.from_
        ·
         refine l_no rfl rfl (by exact congrArg Value.bool (decide_eq_true hc16)) rfl ?_; refine l_no rfl rfl (by exact congrArg Value.bool (decide_eq_true hc16)) rfl ?_; refine l_no rfl rfl (by exact congrArg Value.bool (decide_eq_true hc16)) rfl ?_; refine l_op (o_val (r_pick (b := true) (congrArg Value.bool (decide_eq_true hc16))) ?_); first | refine l_end ?_ | refine l_nil ?_
         repeat refine c_seq ?_
         refine c_yes rfl ?_; repeat refine c_seq ?_
         refine c_region ?_; refine l_op (o_val r_as ?_); first | refine l_end ?_ | refine l_nil ?_
         refine c_ret ?_; try dsimp only [Exit.then, Exit.inBlock]
         refine e_ret1 (v := VI 14) Tryz.results42 rfl ?_
         refine ⟨_, rfl, ?_⟩
         refine ⟨?_, H.sub (List.nil_sublist _)⟩
         rw [checkT, if_neg (by rw [hc3]; decide), if_neg (not_not_intro hc15), if_pos (by omega)]
        ·
         refine l_yes rfl rfl (by exact congrArg Value.bool (decide_eq_false hc16)) (o_val r_mv ?_); refine l_yes rfl rfl (by exact congrArg Value.bool (decide_eq_false hc16)) (o_val r_mv ?_); refine l_yes rfl rfl (by exact congrArg Value.bool (decide_eq_false hc16)) (o_val (r_bin (a := now) (b := (effF (t.rights) (t.until_) t.cs.l).2) rfl rfl (fun _ => b_geq)) ?_); refine l_op (o_val (r_pick (b := false) (congrArg Value.bool (decide_eq_false hc16))) ?_); first | refine l_end ?_ | refine l_nil ?_
         by_cases hc17 : (effF (t.rights) (t.until_) t.cs.l).2 ≤ now
         ·
          repeat refine c_seq ?_
          refine c_yes (by exact congrArg Value.bool (decide_eq_true hc17)) ?_; repeat refine c_seq ?_
          refine c_region ?_; refine l_op (o_val r_as ?_); first | refine l_end ?_ | refine l_nil ?_
          refine c_ret ?_; try dsimp only [Exit.then, Exit.inBlock]
          refine e_ret1 (v := VI 14) Tryz.results42 rfl ?_
          refine ⟨_, rfl, ?_⟩
          refine ⟨?_, H.sub (List.nil_sublist _)⟩
          rw [checkT, if_neg (by rw [hc3]; decide), if_neg (not_not_intro hc15), if_pos (by omega)]
         ·
          repeat refine c_seq ?_
          refine c_no (by exact congrArg Value.bool (decide_eq_false hc17)) ?_; refine c_skip ?_; repeat refine c_seq ?_
          refine c_region ?_; refine l_op (o_val r_as ?_); first | refine l_end ?_ | refine l_nil ?_
          refine c_ret ?_; try dsimp only [Exit.then, Exit.inBlock]
          refine e_ret1 (v := VI 0) Tryz.results42 rfl ?_
          refine ⟨_, rfl, ?_⟩
          refine ⟨?_, H.sub (List.nil_sublist _)⟩
          rw [checkT, if_neg (by rw [hc3]; decide), if_neg (not_not_intro hc15), if_neg (by omega)]
       ·
        repeat refine c_seq ?_
        refine c_yes (by exact congrArg Value.bool (congrArg not (decide_eq_false hc15))) ?_; repeat refine c_seq ?_
        refine c_region ?_; refine l_op (o_val r_as ?_); first | refine l_end ?_ | refine l_nil ?_
        refine c_ret ?_; try dsimp only [Exit.then, Exit.inBlock]
        refine e_ret1 (v := VI 13) Tryz.results42 rfl ?_
        refine ⟨_, rfl, ?_⟩
        refine ⟨?_, H.sub (List.nil_sublist _)⟩
        rw [checkT, if_neg (by rw [hc3]; decide), if_pos hc15]
     ·
      refine (o_alloc H zc23 (fun b18 w H hb18 => ?_))
      replace H : Hp _ w _ ([_, _, _, _, .blk b18 ((List.replicate 32 (0 : UInt8)).map V8) 23]) := H
      refine ⟨H.sub (.cons_cons _ (.cons_cons _ (List.nil_sublist _))), ?_⟩
      replace HS := H.sub (.cons_cons _ (.cons_cons _ (List.nil_sublist _)))
      refine t_step 4 rfl (by kernel_rfl) (o_callR Tryz.func11 rfl rfl rfl (macOf_ret _ (⟨some ⟨b1, 0, none⟩, 32, 32, key⟩ : Sl) (H.slBlkA (i := 0) rfl 32 (show (key).length = 32 from hk) (by decide)) (hd (some b9)) 1 1 [⟨hd a4, n5, c6, t.head⟩] (H.own (i := 3) rfl) rfl (all1 (H.slOwn (i := 2) rfl)) (by omega) (by simp [framed, be_len]; omega)) ?_); rintro _ w ⟨rfl, Hc⟩
      replace H : Hp _ w _ ([_, _, _, _, _]) := H.call Hc
      clear Hc
      refine ⟨H.sub (.cons_cons _ (.cons_cons _ (List.nil_sublist _))), ?_⟩
      replace HS := H.sub (.cons_cons _ (.cons_cons _ (List.nil_sublist _)))
      refine t_step 7 rfl (by kernel_rfl) (o_callR Tryz.func77 rfl rfl rfl (on_ret _ (hmac (key) (framed [t.head])) (show (hmac (key) (framed [t.head])).length = 32 from hmac_len _ _) t.cs (hc.up H)) ?_); rintro _ w ⟨rfl, Hc⟩
      replace H : Hp _ w _ ([_, _, _, _, _]) := H.call Hc
      clear Hc
      refine ⟨H.sub (.cons_cons _ (.cons_cons _ (List.nil_sublist _))), ?_⟩
      replace HS := H.sub (.cons_cons _ (.cons_cons _ (List.nil_sublist _)))
      refine t_step 9 rfl (by kernel_rfl) (o_stA (l' := onF (hmac (key) (framed [t.head])) (t.cs.l)) H (i := 4) rfl rfl rfl cs23 (show (List.replicate 32 (0 : UInt8)).length = 32 from (List.length_replicate ..)) (show (onF (hmac (key) (framed [t.head])) (t.cs.l)).length = 32 from onF_len _ (show (hmac (key) (framed [t.head])).length = 32 from hmac_len _ _) _) (fun w H => ?_)); replace H : Hp _ w _ ([_, _, _, _, .blk b18 ((onF (hmac (key) (framed [t.head])) (t.cs.l)).map V8) 23]) := H
      refine ⟨H.sub (.cons_cons _ (.cons_cons _ (List.nil_sublist _))), ?_⟩
      replace HS := H.sub (.cons_cons _ (.cons_cons _ (List.nil_sublist _)))
      refine t_done (by kernel_rfl) ?_
      clear HS
      repeat refine c_seq ?_
      refine wp_held (fun w => Hp w0 w [] [.blk b1 ((key).map V8) 23, .blk b2 ([V64 t.serial, .string ⟨(t.tenant).toArray⟩, V8 t.rights, VI t.from_, VI t.until_, t.cs.v] ++ (t.tag).map V8) 46, .own a4 n5 c6 ((t.head).map V8) 5 1, .own (some b9) 1 1 ([.slice (hd a4) n5 c6]) 24 1, .blk b18 ((onF (hmac (key) (framed [t.head])) (t.cs.l)).map V8) 23]) mixed ?_; replace H := H.drew
      have HS := H
      refine t_take 0 rfl (by kernel_rfl) (by kernel_rfl) (by kernel_rfl) (fun _ _ _ h => h) (fun w HS => r_slA (h := 32) (m := 32) (lv := none) (hv := none) (mv := none) rfl ar23 rfl rfl rfl (fun w => sbn w)) HS ?_; refine t_take 1 rfl (by kernel_rfl) (by kernel_rfl) (by kernel_rfl) (fun _ _ _ h => h) (fun w HS => r_fa rfl fo46_6) HS ?_; refine t_take 2 rfl (by kernel_rfl) (by kernel_rfl) (by kernel_rfl) (fun _ _ _ h => h) (fun w HS => r_slAo (o := 6) (h := 32) (m := 32) (lv := none) (hv := none) (mv := none) rfl ar23 rfl rfl rfl (fun w => sbn w)) HS ?_; refine t_step 3 rfl (by kernel_rfl) (o_callR Tryz.func78 rfl rfl rfl (equal_ret _ (⟨some ⟨b18, 0, none⟩, 32, 32, onF (hmac (key) (framed [t.head])) (t.cs.l)⟩ : Sl) (⟨some ⟨b2, 6, none⟩, 32, 32, t.tag⟩ : Sl) (H.slBlkA (i := 4) rfl 32 (show (onF (hmac (key) (framed [t.head])) (t.cs.l)).length = 32 from onF_len _ (show (hmac (key) (framed [t.head])).length = 32 from hmac_len _ _) _) (by decide)) (H.slTail (i := 1) (o := 6) (pre := [V64 t.serial, .string ⟨(t.tenant).toArray⟩, V8 t.rights, VI t.from_, VI t.until_, t.cs.v]) rfl rfl (show (t.tag).length = 32 from htag) (by decide))) ?_); rintro _ w ⟨rfl, Hc⟩
      replace H : Hp _ w _ ([_, _, _, _, _]) := H.call Hc
      clear Hc
      refine ⟨H, ?_⟩
      replace HS := H
      refine t_take 4 rfl (by kernel_rfl) (by kernel_rfl) (by kernel_rfl) (fun _ _ _ h => h) (fun w HS => r_not rfl) HS ?_; refine t_done (by kernel_rfl) ?_
      clear HS
      by_cases hc19 : onF (hmac (key) (framed [t.head])) (t.cs.l) = t.tag
      ·
       repeat refine c_seq ?_
       refine c_no (by exact congrArg Value.bool (congrArg not (decide_eq_true hc19))) ?_; refine c_skip ?_; repeat refine c_seq ?_
       refine c_region ?_; refine l_op (o_val (r_ldA (C := [V64 t.serial, .string ⟨(t.tenant).toArray⟩, V8 t.rights, VI t.from_, VI t.until_, t.cs.v] ++ (t.tag).map V8) H (i := 1) rfl rfl rt46 (by rw [List.length_append, List.length_map, (show (t.tag).length = 32 from htag)]; rfl)) ?_); refine l_op (o_callR Tryz.func45 rfl rfl rfl (effect_ret _ t (hc.up H) (show (t.tag).length = 32 from htag)) ?_); rintro _ w ⟨rfl, Hc⟩
       replace H : Hp _ w _ ([_, _, _, _, _]) := H.call Hc
       clear Hc
       refine l_op (o_val r_mv ?_); refine l_op (o_val (r_ext rfl rfl) ?_); refine l_op (o_val (r_ext rfl rfl) ?_); refine l_op (o_val r_as ?_); refine l_op (o_val r_as ?_); first | refine l_end ?_ | refine l_nil ?_
       repeat refine c_seq ?_
       refine c_region ?_; refine l_op (o_val r_mv ?_); refine l_op (o_val (r_fa rfl fo46_3) ?_); refine l_op (o_val (r_ld (v := VI t.from_) H (i := 1) rfl rfl ct2 rfl) ?_); refine l_op (o_val (r_bin (a := now) (b := t.from_) rfl rfl (fun _ => b_lss)) ?_); refine l_op (o_val r_mv ?_)
       by_cases hc20 : now < t.from_
       ·
        refine l_no rfl rfl (by exact congrArg Value.bool (decide_eq_true hc20)) rfl ?_; refine l_no rfl rfl (by exact congrArg Value.bool (decide_eq_true hc20)) rfl ?_; refine l_no rfl rfl (by exact congrArg Value.bool (decide_eq_true hc20)) rfl ?_; refine l_op (o_val (r_pick (b := true) (congrArg Value.bool (decide_eq_true hc20))) ?_); first | refine l_end ?_ | refine l_nil ?_
        repeat refine c_seq ?_
        refine c_yes rfl ?_; repeat refine c_seq ?_
        refine c_region ?_; refine l_op (o_val r_as ?_); first | refine l_end ?_ | refine l_nil ?_
        refine c_ret ?_; try dsimp only [Exit.then, Exit.inBlock]
        refine e_ret1 (v := VI 14) Tryz.results42 rfl ?_
        refine ⟨_, rfl, ?_⟩
        refine ⟨?_, H.sub (List.nil_sublist _)⟩
        rw [checkT, if_neg (by rw [hc3]; decide), if_neg (not_not_intro hc19), if_pos (by omega)]
       ·
        refine l_yes rfl rfl (by exact congrArg Value.bool (decide_eq_false hc20)) (o_val r_mv ?_); refine l_yes rfl rfl (by exact congrArg Value.bool (decide_eq_false hc20)) (o_val r_mv ?_); refine l_yes rfl rfl (by exact congrArg Value.bool (decide_eq_false hc20)) (o_val (r_bin (a := now) (b := (effF (t.rights) (t.until_) t.cs.l).2) rfl rfl (fun _ => b_geq)) ?_); refine l_op (o_val (r_pick (b := false) (congrArg Value.bool (decide_eq_false hc20))) ?_); first | refine l_end ?_ | refine l_nil ?_
        by_cases hc21 : (effF (t.rights) (t.until_) t.cs.l).2 ≤ now
        ·
         repeat refine c_seq ?_
         refine c_yes (by exact congrArg Value.bool (decide_eq_true hc21)) ?_; repeat refine c_seq ?_
         refine c_region ?_; refine l_op (o_val r_as ?_); first | refine l_end ?_ | refine l_nil ?_
         refine c_ret ?_; try dsimp only [Exit.then, Exit.inBlock]
         refine e_ret1 (v := VI 14) Tryz.results42 rfl ?_
         refine ⟨_, rfl, ?_⟩
         refine ⟨?_, H.sub (List.nil_sublist _)⟩
         rw [checkT, if_neg (by rw [hc3]; decide), if_neg (not_not_intro hc19), if_pos (by omega)]
        ·
         repeat refine c_seq ?_
         refine c_no (by exact congrArg Value.bool (decide_eq_false hc21)) ?_; refine c_skip ?_; repeat refine c_seq ?_
         refine c_region ?_; refine l_op (o_val r_as ?_); first | refine l_end ?_ | refine l_nil ?_
         refine c_ret ?_; try dsimp only [Exit.then, Exit.inBlock]
         refine e_ret1 (v := VI 0) Tryz.results42 rfl ?_
         refine ⟨_, rfl, ?_⟩
         refine ⟨?_, H.sub (List.nil_sublist _)⟩
         rw [checkT, if_neg (by rw [hc3]; decide), if_neg (not_not_intro hc19), if_neg (by omega)]
      ·
       repeat refine c_seq ?_
       refine c_yes (by exact congrArg Value.bool (congrArg not (decide_eq_false hc19))) ?_; repeat refine c_seq ?_
       refine c_region ?_; refine l_op (o_val r_as ?_); first | refine l_end ?_ | refine l_nil ?_
       refine c_ret ?_; try dsimp only [Exit.then, Exit.inBlock]
       refine e_ret1 (v := VI 13) Tryz.results42 rfl ?_
       refine ⟨_, rfl, ?_⟩
       refine ⟨?_, H.sub (List.nil_sublist _)⟩
       rw [checkT, if_neg (by rw [hc3]; decide), if_pos hc19]
    ·
     refine (o_alloc H zc23 (fun b22 w H hb22 => ?_))
     replace H : Hp _ w _ ([_, _, _, .blk b22 ((List.replicate 32 (0 : UInt8)).map V8) 23]) := H
     refine ⟨H.sub (.cons_cons _ (.cons_cons _ (List.nil_sublist _))), ?_⟩
     replace HS := H.sub (.cons_cons _ (.cons_cons _ (List.nil_sublist _)))
     refine t_step 3 rfl (by kernel_rfl) (o_bslV ([.slice (hd a4) n5 c6]) H sl58 zc24 rfl (by simp [Value.oneCell']) rfl (by decide) (fun b23 w H hb23 => ?_)); replace H : Hp _ w _ ([_, _, _, _, .own (some b23) 1 1 ([.slice (hd a4) n5 c6]) 24 1]) := H
     refine ⟨H.sub (.cons_cons _ (.cons_cons _ (List.nil_sublist _))), ?_⟩
     replace HS := H.sub (.cons_cons _ (.cons_cons _ (List.nil_sublist _)))
     refine t_step 4 rfl (by kernel_rfl) (o_callR Tryz.func11 rfl rfl rfl (macOf_ret _ (⟨some ⟨b1, 0, none⟩, 32, 32, key⟩ : Sl) (H.slBlkA (i := 0) rfl 32 (show (key).length = 32 from hk) (by decide)) (hd (some b23)) 1 1 [⟨hd a4, n5, c6, t.head⟩] (H.own (i := 4) rfl) rfl (all1 (H.slOwn (i := 2) rfl)) (by omega) (by simp [framed, be_len]; omega)) ?_); rintro _ w ⟨rfl, Hc⟩
     replace H : Hp _ w _ ([_, _, _, _, _]) := H.call Hc
     clear Hc
     refine ⟨H.sub (.cons_cons _ (.cons_cons _ (List.nil_sublist _))), ?_⟩
     replace HS := H.sub (.cons_cons _ (.cons_cons _ (List.nil_sublist _)))
     refine t_step 7 rfl (by kernel_rfl) (o_callR Tryz.func77 rfl rfl rfl (on_ret _ (hmac (key) (framed [t.head])) (show (hmac (key) (framed [t.head])).length = 32 from hmac_len _ _) t.cs (hc.up H)) ?_); rintro _ w ⟨rfl, Hc⟩
     replace H : Hp _ w _ ([_, _, _, _, _]) := H.call Hc
     clear Hc
     refine ⟨H.sub (.cons_cons _ (.cons_cons _ (List.nil_sublist _))), ?_⟩
     replace HS := H.sub (.cons_cons _ (.cons_cons _ (List.nil_sublist _)))
     refine t_step 9 rfl (by kernel_rfl) (o_stA (l' := onF (hmac (key) (framed [t.head])) (t.cs.l)) H (i := 3) rfl rfl rfl cs23 (show (List.replicate 32 (0 : UInt8)).length = 32 from (List.length_replicate ..)) (show (onF (hmac (key) (framed [t.head])) (t.cs.l)).length = 32 from onF_len _ (show (hmac (key) (framed [t.head])).length = 32 from hmac_len _ _) _) (fun w H => ?_)); replace H : Hp _ w _ ([_, _, _, .blk b22 ((onF (hmac (key) (framed [t.head])) (t.cs.l)).map V8) 23, _]) := H
     refine ⟨H.sub (.cons_cons _ (.cons_cons _ (List.nil_sublist _))), ?_⟩
     replace HS := H.sub (.cons_cons _ (.cons_cons _ (List.nil_sublist _)))
     refine t_done (by kernel_rfl) ?_
     clear HS
     repeat refine c_seq ?_
     refine wp_held (fun w => Hp w0 w [] [.blk b1 ((key).map V8) 23, .blk b2 ([V64 t.serial, .string ⟨(t.tenant).toArray⟩, V8 t.rights, VI t.from_, VI t.until_, t.cs.v] ++ (t.tag).map V8) 46, .own a4 n5 c6 ((t.head).map V8) 5 1, .blk b22 ((onF (hmac (key) (framed [t.head])) (t.cs.l)).map V8) 23, .own (some b23) 1 1 ([.slice (hd a4) n5 c6]) 24 1]) mixed ?_; replace H := H.drew
     have HS := H
     refine t_take 0 rfl (by kernel_rfl) (by kernel_rfl) (by kernel_rfl) (fun _ _ _ h => h) (fun w HS => r_slA (h := 32) (m := 32) (lv := none) (hv := none) (mv := none) rfl ar23 rfl rfl rfl (fun w => sbn w)) HS ?_; refine t_take 1 rfl (by kernel_rfl) (by kernel_rfl) (by kernel_rfl) (fun _ _ _ h => h) (fun w HS => r_fa rfl fo46_6) HS ?_; refine t_take 2 rfl (by kernel_rfl) (by kernel_rfl) (by kernel_rfl) (fun _ _ _ h => h) (fun w HS => r_slAo (o := 6) (h := 32) (m := 32) (lv := none) (hv := none) (mv := none) rfl ar23 rfl rfl rfl (fun w => sbn w)) HS ?_; refine t_step 3 rfl (by kernel_rfl) (o_callR Tryz.func78 rfl rfl rfl (equal_ret _ (⟨some ⟨b22, 0, none⟩, 32, 32, onF (hmac (key) (framed [t.head])) (t.cs.l)⟩ : Sl) (⟨some ⟨b2, 6, none⟩, 32, 32, t.tag⟩ : Sl) (H.slBlkA (i := 3) rfl 32 (show (onF (hmac (key) (framed [t.head])) (t.cs.l)).length = 32 from onF_len _ (show (hmac (key) (framed [t.head])).length = 32 from hmac_len _ _) _) (by decide)) (H.slTail (i := 1) (o := 6) (pre := [V64 t.serial, .string ⟨(t.tenant).toArray⟩, V8 t.rights, VI t.from_, VI t.until_, t.cs.v]) rfl rfl (show (t.tag).length = 32 from htag) (by decide))) ?_); rintro _ w ⟨rfl, Hc⟩
     replace H : Hp _ w _ ([_, _, _, _, _]) := H.call Hc
     clear Hc
     refine ⟨H, ?_⟩
     replace HS := H
     refine t_take 4 rfl (by kernel_rfl) (by kernel_rfl) (by kernel_rfl) (fun _ _ _ h => h) (fun w HS => r_not rfl) HS ?_; refine t_done (by kernel_rfl) ?_
     clear HS
     by_cases hc24 : onF (hmac (key) (framed [t.head])) (t.cs.l) = t.tag
     ·
      repeat refine c_seq ?_
      refine c_no (by exact congrArg Value.bool (congrArg not (decide_eq_true hc24))) ?_; refine c_skip ?_; repeat refine c_seq ?_
      refine c_region ?_; refine l_op (o_val (r_ldA (C := [V64 t.serial, .string ⟨(t.tenant).toArray⟩, V8 t.rights, VI t.from_, VI t.until_, t.cs.v] ++ (t.tag).map V8) H (i := 1) rfl rfl rt46 (by rw [List.length_append, List.length_map, (show (t.tag).length = 32 from htag)]; rfl)) ?_); refine l_op (o_callR Tryz.func45 rfl rfl rfl (effect_ret _ t (hc.up H) (show (t.tag).length = 32 from htag)) ?_); rintro _ w ⟨rfl, Hc⟩
      replace H : Hp _ w _ ([_, _, _, _, _]) := H.call Hc
      clear Hc
      refine l_op (o_val r_mv ?_); refine l_op (o_val (r_ext rfl rfl) ?_); refine l_op (o_val (r_ext rfl rfl) ?_); refine l_op (o_val r_as ?_); refine l_op (o_val r_as ?_); first | refine l_end ?_ | refine l_nil ?_
      repeat refine c_seq ?_
      refine c_region ?_; refine l_op (o_val r_mv ?_); refine l_op (o_val (r_fa rfl fo46_3) ?_); refine l_op (o_val (r_ld (v := VI t.from_) H (i := 1) rfl rfl ct2 rfl) ?_); refine l_op (o_val (r_bin (a := now) (b := t.from_) rfl rfl (fun _ => b_lss)) ?_); refine l_op (o_val r_mv ?_)
      by_cases hc25 : now < t.from_
      ·
       refine l_no rfl rfl (by exact congrArg Value.bool (decide_eq_true hc25)) rfl ?_; refine l_no rfl rfl (by exact congrArg Value.bool (decide_eq_true hc25)) rfl ?_; refine l_no rfl rfl (by exact congrArg Value.bool (decide_eq_true hc25)) rfl ?_; refine l_op (o_val (r_pick (b := true) (congrArg Value.bool (decide_eq_true hc25))) ?_); first | refine l_end ?_ | refine l_nil ?_
       repeat refine c_seq ?_
       refine c_yes rfl ?_; repeat refine c_seq ?_
       refine c_region ?_; refine l_op (o_val r_as ?_); first | refine l_end ?_ | refine l_nil ?_
       refine c_ret ?_; try dsimp only [Exit.then, Exit.inBlock]
       refine e_ret1 (v := VI 14) Tryz.results42 rfl ?_
       refine ⟨_, rfl, ?_⟩
       refine ⟨?_, H.sub (List.nil_sublist _)⟩
       rw [checkT, if_neg (by rw [hc3]; decide), if_neg (not_not_intro hc24), if_pos (by omega)]
      ·
       refine l_yes rfl rfl (by exact congrArg Value.bool (decide_eq_false hc25)) (o_val r_mv ?_); refine l_yes rfl rfl (by exact congrArg Value.bool (decide_eq_false hc25)) (o_val r_mv ?_); refine l_yes rfl rfl (by exact congrArg Value.bool (decide_eq_false hc25)) (o_val (r_bin (a := now) (b := (effF (t.rights) (t.until_) t.cs.l).2) rfl rfl (fun _ => b_geq)) ?_); refine l_op (o_val (r_pick (b := false) (congrArg Value.bool (decide_eq_false hc25))) ?_); first | refine l_end ?_ | refine l_nil ?_
       by_cases hc26 : (effF (t.rights) (t.until_) t.cs.l).2 ≤ now
       ·
        repeat refine c_seq ?_
        refine c_yes (by exact congrArg Value.bool (decide_eq_true hc26)) ?_; repeat refine c_seq ?_
        refine c_region ?_; refine l_op (o_val r_as ?_); first | refine l_end ?_ | refine l_nil ?_
        refine c_ret ?_; try dsimp only [Exit.then, Exit.inBlock]
        refine e_ret1 (v := VI 14) Tryz.results42 rfl ?_
        refine ⟨_, rfl, ?_⟩
        refine ⟨?_, H.sub (List.nil_sublist _)⟩
        rw [checkT, if_neg (by rw [hc3]; decide), if_neg (not_not_intro hc24), if_pos (by omega)]
       ·
        repeat refine c_seq ?_
        refine c_no (by exact congrArg Value.bool (decide_eq_false hc26)) ?_; refine c_skip ?_; repeat refine c_seq ?_
        refine c_region ?_; refine l_op (o_val r_as ?_); first | refine l_end ?_ | refine l_nil ?_
        refine c_ret ?_; try dsimp only [Exit.then, Exit.inBlock]
        refine e_ret1 (v := VI 0) Tryz.results42 rfl ?_
        refine ⟨_, rfl, ?_⟩
        refine ⟨?_, H.sub (List.nil_sublist _)⟩
        rw [checkT, if_neg (by rw [hc3]; decide), if_neg (not_not_intro hc24), if_neg (by omega)]
     ·
      repeat refine c_seq ?_
      refine c_yes (by exact congrArg Value.bool (congrArg not (decide_eq_false hc24))) ?_; repeat refine c_seq ?_
      refine c_region ?_; refine l_op (o_val r_as ?_); first | refine l_end ?_ | refine l_nil ?_
      refine c_ret ?_; try dsimp only [Exit.then, Exit.inBlock]
      refine e_ret1 (v := VI 13) Tryz.results42 rfl ?_
      refine ⟨_, rfl, ?_⟩
      refine ⟨?_, H.sub (List.nil_sublist _)⟩
      rw [checkT, if_neg (by rw [hc3]; decide), if_pos hc24]
   ·
    refine (o_alloc H zc23 (fun b27 w H hb27 => ?_))
    replace H : Hp _ w _ ([_, _, .blk b27 ((List.replicate 32 (0 : UInt8)).map V8) 23]) := H
    refine ⟨H.sub (.cons_cons _ (.cons_cons _ (List.nil_sublist _))), ?_⟩
    replace HS := H.sub (.cons_cons _ (.cons_cons _ (List.nil_sublist _)))
    refine t_step 2 rfl (by kernel_rfl) (o_callR Tryz.func31 rfl rfl rfl (head_ret _ t (hc.up H) (show (t.tag).length = 32 from htag) (by first | omega | (dsimp only; omega) | simp)) ?_); rintro _ w ⟨a28, n29, c30, rfl, hn31, hh32, Hc⟩
    replace H : Hp _ w _ ([_, _, _, .own a28 n29 c30 ((t.head).map V8) 5 1]) := H.call Hc
    clear Hc
    try dsimp only at hn31
    refine ⟨H.sub (.cons_cons _ (.cons_cons _ (List.nil_sublist _))), ?_⟩
    replace HS := H.sub (.cons_cons _ (.cons_cons _ (List.nil_sublist _)))
    refine t_step 3 rfl (by kernel_rfl) (o_bslV ([.slice (hd a28) n29 c30]) H sl58 zc24 rfl (by simp [Value.oneCell']) rfl (by decide) (fun b33 w H hb33 => ?_)); replace H : Hp _ w _ ([_, _, _, _, .own (some b33) 1 1 ([.slice (hd a28) n29 c30]) 24 1]) := H
    refine ⟨H.sub (.cons_cons _ (.cons_cons _ (List.nil_sublist _))), ?_⟩
    replace HS := H.sub (.cons_cons _ (.cons_cons _ (List.nil_sublist _)))
    refine t_step 4 rfl (by kernel_rfl) (o_callR Tryz.func11 rfl rfl rfl (macOf_ret _ (⟨some ⟨b1, 0, none⟩, 32, 32, key⟩ : Sl) (H.slBlkA (i := 0) rfl 32 (show (key).length = 32 from hk) (by decide)) (hd (some b33)) 1 1 [⟨hd a28, n29, c30, t.head⟩] (H.own (i := 4) rfl) rfl (all1 (H.slOwn (i := 3) rfl)) (by omega) (by simp [framed, be_len]; omega)) ?_); rintro _ w ⟨rfl, Hc⟩
    replace H : Hp _ w _ ([_, _, _, _, _]) := H.call Hc
    clear Hc
    refine ⟨H.sub (.cons_cons _ (.cons_cons _ (List.nil_sublist _))), ?_⟩
    replace HS := H.sub (.cons_cons _ (.cons_cons _ (List.nil_sublist _)))
    refine t_step 7 rfl (by kernel_rfl) (o_callR Tryz.func77 rfl rfl rfl (on_ret _ (hmac (key) (framed [t.head])) (show (hmac (key) (framed [t.head])).length = 32 from hmac_len _ _) t.cs (hc.up H)) ?_); rintro _ w ⟨rfl, Hc⟩
    replace H : Hp _ w _ ([_, _, _, _, _]) := H.call Hc
    clear Hc
    refine ⟨H.sub (.cons_cons _ (.cons_cons _ (List.nil_sublist _))), ?_⟩
    replace HS := H.sub (.cons_cons _ (.cons_cons _ (List.nil_sublist _)))
    refine t_step 9 rfl (by kernel_rfl) (o_stA (l' := onF (hmac (key) (framed [t.head])) (t.cs.l)) H (i := 2) rfl rfl rfl cs23 (show (List.replicate 32 (0 : UInt8)).length = 32 from (List.length_replicate ..)) (show (onF (hmac (key) (framed [t.head])) (t.cs.l)).length = 32 from onF_len _ (show (hmac (key) (framed [t.head])).length = 32 from hmac_len _ _) _) (fun w H => ?_)); replace H : Hp _ w _ ([_, _, .blk b27 ((onF (hmac (key) (framed [t.head])) (t.cs.l)).map V8) 23, _, _]) := H
    refine ⟨H.sub (.cons_cons _ (.cons_cons _ (List.nil_sublist _))), ?_⟩
    replace HS := H.sub (.cons_cons _ (.cons_cons _ (List.nil_sublist _)))
    refine t_done (by kernel_rfl) ?_
    clear HS
    repeat refine c_seq ?_
    refine wp_held (fun w => Hp w0 w [] [.blk b1 ((key).map V8) 23, .blk b2 ([V64 t.serial, .string ⟨(t.tenant).toArray⟩, V8 t.rights, VI t.from_, VI t.until_, t.cs.v] ++ (t.tag).map V8) 46, .blk b27 ((onF (hmac (key) (framed [t.head])) (t.cs.l)).map V8) 23, .own a28 n29 c30 ((t.head).map V8) 5 1, .own (some b33) 1 1 ([.slice (hd a28) n29 c30]) 24 1]) mixed ?_; replace H := H.drew
    have HS := H
    refine t_take 0 rfl (by kernel_rfl) (by kernel_rfl) (by kernel_rfl) (fun _ _ _ h => h) (fun w HS => r_slA (h := 32) (m := 32) (lv := none) (hv := none) (mv := none) rfl ar23 rfl rfl rfl (fun w => sbn w)) HS ?_; refine t_take 1 rfl (by kernel_rfl) (by kernel_rfl) (by kernel_rfl) (fun _ _ _ h => h) (fun w HS => r_fa rfl fo46_6) HS ?_; refine t_take 2 rfl (by kernel_rfl) (by kernel_rfl) (by kernel_rfl) (fun _ _ _ h => h) (fun w HS => r_slAo (o := 6) (h := 32) (m := 32) (lv := none) (hv := none) (mv := none) rfl ar23 rfl rfl rfl (fun w => sbn w)) HS ?_; refine t_step 3 rfl (by kernel_rfl) (o_callR Tryz.func78 rfl rfl rfl (equal_ret _ (⟨some ⟨b27, 0, none⟩, 32, 32, onF (hmac (key) (framed [t.head])) (t.cs.l)⟩ : Sl) (⟨some ⟨b2, 6, none⟩, 32, 32, t.tag⟩ : Sl) (H.slBlkA (i := 2) rfl 32 (show (onF (hmac (key) (framed [t.head])) (t.cs.l)).length = 32 from onF_len _ (show (hmac (key) (framed [t.head])).length = 32 from hmac_len _ _) _) (by decide)) (H.slTail (i := 1) (o := 6) (pre := [V64 t.serial, .string ⟨(t.tenant).toArray⟩, V8 t.rights, VI t.from_, VI t.until_, t.cs.v]) rfl rfl (show (t.tag).length = 32 from htag) (by decide))) ?_); rintro _ w ⟨rfl, Hc⟩
    replace H : Hp _ w _ ([_, _, _, _, _]) := H.call Hc
    clear Hc
    refine ⟨H, ?_⟩
    replace HS := H
    refine t_take 4 rfl (by kernel_rfl) (by kernel_rfl) (by kernel_rfl) (fun _ _ _ h => h) (fun w HS => r_not rfl) HS ?_; refine t_done (by kernel_rfl) ?_
    clear HS
    by_cases hc34 : onF (hmac (key) (framed [t.head])) (t.cs.l) = t.tag
    ·
     repeat refine c_seq ?_
     refine c_no (by exact congrArg Value.bool (congrArg not (decide_eq_true hc34))) ?_; refine c_skip ?_; repeat refine c_seq ?_
     refine c_region ?_; refine l_op (o_val (r_ldA (C := [V64 t.serial, .string ⟨(t.tenant).toArray⟩, V8 t.rights, VI t.from_, VI t.until_, t.cs.v] ++ (t.tag).map V8) H (i := 1) rfl rfl rt46 (by rw [List.length_append, List.length_map, (show (t.tag).length = 32 from htag)]; rfl)) ?_); refine l_op (o_callR Tryz.func45 rfl rfl rfl (effect_ret _ t (hc.up H) (show (t.tag).length = 32 from htag)) ?_); rintro _ w ⟨rfl, Hc⟩
     replace H : Hp _ w _ ([_, _, _, _, _]) := H.call Hc
     clear Hc
     refine l_op (o_val r_mv ?_); refine l_op (o_val (r_ext rfl rfl) ?_); refine l_op (o_val (r_ext rfl rfl) ?_); refine l_op (o_val r_as ?_); refine l_op (o_val r_as ?_); first | refine l_end ?_ | refine l_nil ?_
     repeat refine c_seq ?_
     refine c_region ?_; refine l_op (o_val r_mv ?_); refine l_op (o_val (r_fa rfl fo46_3) ?_); refine l_op (o_val (r_ld (v := VI t.from_) H (i := 1) rfl rfl ct2 rfl) ?_); refine l_op (o_val (r_bin (a := now) (b := t.from_) rfl rfl (fun _ => b_lss)) ?_); refine l_op (o_val r_mv ?_)
     by_cases hc35 : now < t.from_
     ·
      refine l_no rfl rfl (by exact congrArg Value.bool (decide_eq_true hc35)) rfl ?_; refine l_no rfl rfl (by exact congrArg Value.bool (decide_eq_true hc35)) rfl ?_; refine l_no rfl rfl (by exact congrArg Value.bool (decide_eq_true hc35)) rfl ?_; refine l_op (o_val (r_pick (b := true) (congrArg Value.bool (decide_eq_true hc35))) ?_); first | refine l_end ?_ | refine l_nil ?_
      repeat refine c_seq ?_
      refine c_yes rfl ?_; repeat refine c_seq ?_
      refine c_region ?_; refine l_op (o_val r_as ?_); first | refine l_end ?_ | refine l_nil ?_
      refine c_ret ?_; try dsimp only [Exit.then, Exit.inBlock]
      refine e_ret1 (v := VI 14) Tryz.results42 rfl ?_
      refine ⟨_, rfl, ?_⟩
      refine ⟨?_, H.sub (List.nil_sublist _)⟩
      rw [checkT, if_neg (by rw [hc3]; decide), if_neg (not_not_intro hc34), if_pos (by omega)]
     ·
      refine l_yes rfl rfl (by exact congrArg Value.bool (decide_eq_false hc35)) (o_val r_mv ?_); refine l_yes rfl rfl (by exact congrArg Value.bool (decide_eq_false hc35)) (o_val r_mv ?_); refine l_yes rfl rfl (by exact congrArg Value.bool (decide_eq_false hc35)) (o_val (r_bin (a := now) (b := (effF (t.rights) (t.until_) t.cs.l).2) rfl rfl (fun _ => b_geq)) ?_); refine l_op (o_val (r_pick (b := false) (congrArg Value.bool (decide_eq_false hc35))) ?_); first | refine l_end ?_ | refine l_nil ?_
      by_cases hc36 : (effF (t.rights) (t.until_) t.cs.l).2 ≤ now
      ·
       repeat refine c_seq ?_
       refine c_yes (by exact congrArg Value.bool (decide_eq_true hc36)) ?_; repeat refine c_seq ?_
       refine c_region ?_; refine l_op (o_val r_as ?_); first | refine l_end ?_ | refine l_nil ?_
       refine c_ret ?_; try dsimp only [Exit.then, Exit.inBlock]
       refine e_ret1 (v := VI 14) Tryz.results42 rfl ?_
       refine ⟨_, rfl, ?_⟩
       refine ⟨?_, H.sub (List.nil_sublist _)⟩
       rw [checkT, if_neg (by rw [hc3]; decide), if_neg (not_not_intro hc34), if_pos (by omega)]
      ·
       repeat refine c_seq ?_
       refine c_no (by exact congrArg Value.bool (decide_eq_false hc36)) ?_; refine c_skip ?_; repeat refine c_seq ?_
       refine c_region ?_; refine l_op (o_val r_as ?_); first | refine l_end ?_ | refine l_nil ?_
       refine c_ret ?_; try dsimp only [Exit.then, Exit.inBlock]
       refine e_ret1 (v := VI 0) Tryz.results42 rfl ?_
       refine ⟨_, rfl, ?_⟩
       refine ⟨?_, H.sub (List.nil_sublist _)⟩
       rw [checkT, if_neg (by rw [hc3]; decide), if_neg (not_not_intro hc34), if_neg (by omega)]
    ·
     repeat refine c_seq ?_
     refine c_yes (by exact congrArg Value.bool (congrArg not (decide_eq_false hc34))) ?_; repeat refine c_seq ?_
     refine c_region ?_; refine l_op (o_val r_as ?_); first | refine l_end ?_ | refine l_nil ?_
     refine c_ret ?_; try dsimp only [Exit.then, Exit.inBlock]
     refine e_ret1 (v := VI 13) Tryz.results42 rfl ?_
     refine ⟨_, rfl, ?_⟩
     refine ⟨?_, H.sub (List.nil_sublist _)⟩
     rw [checkT, if_neg (by rw [hc3]; decide), if_pos hc34]
  ·
   repeat refine c_seq ?_
   refine c_yes (by exact congrArg Value.bool (congrArg not hc3)) ?_; repeat refine c_seq ?_
   refine c_region ?_; refine l_op (o_val r_as ?_); first | refine l_end ?_ | refine l_nil ?_
   refine c_ret ?_; try dsimp only [Exit.then, Exit.inBlock]
   refine e_ret1 (v := VI 1) Tryz.results42 rfl ?_
   refine ⟨_, rfl, ?_⟩
   refine ⟨?_, H.sub (List.nil_sublist _)⟩
   rw [checkT, if_pos hc3]
end Go.Proofs.YtiepekfcegdkoaaGreatDoor
namespace Go.Proofs.YtiepekfcegdkoaaGreatDoor
open Go
set_option maxRecDepth 100000
def cavsB (cs : List Cav) : List UInt8 := cs.flatMap cavB
theorem cavsB_succ (cs : List Cav) (i : Nat) (c : Cav) (h : cs[i]? = some c) : cavsB (cs.take i) ++ cavB c = cavsB (cs.take (i + 1)) := by rw [List.take_add_one, h]; simp [cavsB]
/-- a token's bytes. -/
def Tok.bytes (t : Tok) : List UInt8 := [1] ++ t.head ++ [UInt8.ofNat t.cs.len] ++ cavsB t.cs.l ++ t.tag
end Go.Proofs.YtiepekfcegdkoaaGreatDoor
namespace Go.Proofs.YtiepekfcegdkoaaGreatDoor
open Go
set_option maxRecDepth 100000
theorem b_neg_i64 {P : Program} {w : World} {a : Int} (h1 : -9223372036854775808 ≤ -a) (h2 : -a ≤ 9223372036854775807) : (Op.unary .neg (VI a)).run P w = .ok (VI (-a)) w := by
  have := wrap_i64 (n := -a) h1 h2
  simp [Op.unary, Op.intArith, this]
theorem ofInt_nat (v : Int) (h0 : 0 ≤ v) : UInt64.ofInt v = UInt64.ofNat v.toNat := by
  apply UInt64.toNat_inj.1
  simp only [UInt64.ofInt, UInt64.toNat_ofNat']
  omega
theorem zig_pos (v : Int) (h0 : 0 ≤ v) (h1 : v ≤ 9223372036854775807) : zigU v = 2 * UInt64.ofInt v := by
  have e : v / 2 ^ (63 : Int).toNat = 0 := by
    have : (2 : Int) ^ (63 : Int).toNat = 9223372036854775808 := rfl
    rw [this]; omega
  have z : UInt64.ofInt 0 = 0 := rfl
  rw [zigU, e, z, UInt64.xor_zero]
  apply UInt64.toNat_inj.1
  have e1 : (UInt64.ofNat 1).toNat % 64 = 1 := rfl
  have e2 : (2 : UInt64).toNat = 2 := rfl
  rw [UInt64.toNat_shiftLeft, UInt64.toNat_mul, e1, e2, Nat.shiftLeft_eq, Nat.mul_comm]
theorem xor_ones (x : UInt64) : x ^^^ UInt64.ofInt (-1) = ~~~x := by
  apply UInt64.toBitVec_inj.1
  have : (UInt64.ofInt (-1)).toBitVec = BitVec.allOnes 64 := by decide
  rw [UInt64.toBitVec_xor, this, BitVec.xor_allOnes, UInt64.toBitVec_not]
theorem zig_neg (v : Int) (h0 : v < 0) (h1 : -9223372036854775808 ≤ v) : zigU v = 2 * UInt64.ofInt (-(v + 1)) + 1 := by
  have e : v / 2 ^ (63 : Int).toNat = -1 := by
    have : (2 : Int) ^ (63 : Int).toNat = 9223372036854775808 := rfl
    rw [this]; omega
  rw [zigU, e, xor_ones]
  apply UInt64.toNat_inj.1
  have e1 : (UInt64.ofNat 1).toNat % 64 = 1 := rfl
  have e2 : (2 : UInt64).toNat = 2 := rfl
  have e3 : (1 : UInt64).toNat = 1 := rfl
  have n1 : (UInt64.ofInt v).toNat = (v % 18446744073709551616).toNat := by simp only [UInt64.ofInt, UInt64.toNat_ofNat']; omega
  have n2 : (UInt64.ofInt (-(v + 1))).toNat = (-(v + 1)).toNat := by simp only [UInt64.ofInt, UInt64.toNat_ofNat']; omega
  rw [UInt64.toNat_not, UInt64.toNat_shiftLeft, UInt64.toNat_add, UInt64.toNat_mul, e1, e2, e3, Nat.shiftLeft_eq, n1, n2]
  simp only [UInt64.size]
  omega
theorem zig1_ret (w0 : World) (n : Int) (h1 : -9223372036854775808 ≤ n) (h2 : n ≤ 9223372036854775807) :
    Ret Tryz.prog 29 [VI n] w0 fun v w' => v = V64 (zigU n) ∧ Hp w0 w' [] [] := by
  refine ret_mk Tryz.func29 rfl Tryz.ntmps29 (by simp) ?_
  have H := Hp.refl w0 []
  repeat refine c_seq ?_
  refine c_region ?_; refine l_op (o_val (r_asV (c64 0 (by decide))) ?_); first | refine l_end ?_ | refine l_nil ?_
  repeat refine c_seq ?_
  refine c_region ?_; refine l_op (o_val r_mv ?_); refine l_op (o_val (r_bin (a := n) (b := 0) rfl rfl (fun _ => b_lss)) ?_); first | refine l_end ?_ | refine l_nil ?_
  by_cases hc1 : n < 0
  ·
   repeat refine c_seq ?_
   refine c_yes (by exact congrArg Value.bool (decide_eq_true hc1)) ?_; repeat refine c_seq ?_
   refine c_region ?_; refine l_op (o_val r_mv ?_); refine l_op (o_val (r_bin (a := n) (b := 1) rfl rfl (fun _ => b_add (by omega) (by omega))) ?_); refine l_op (o_val (r_un (a := n + 1) rfl (fun _ => b_neg_i64 (by omega) (by omega))) ?_); refine l_op (o_val (r_conv Tryz.underlying2 Tryz.underlying33 rfl (w_u64_I _)) ?_); refine l_op (o_val (r_bin (c64 2 (by decide)) rfl (fun _ => b_mul_u64)) ?_); refine l_op (o_val (r_bin rfl (c64 1 (by decide)) (fun _ => b_add_u64)) ?_); refine l_op (o_val r_as ?_); first | refine l_end ?_ | refine l_nil ?_
   refine c_ret ?_; try dsimp only [Exit.then, Exit.inBlock]
   refine e_ret1 (v := V64 (((2 : UInt64) * (UInt64.ofInt (-(n + 1)))) + (1 : UInt64))) Tryz.results29 rfl ?_
   refine ⟨_, rfl, ?_⟩
   refine ⟨?_, H⟩
   rw [zig_neg n (by omega) (by omega)]
  ·
   repeat refine c_seq ?_
   refine c_no (by exact congrArg Value.bool (decide_eq_false hc1)) ?_; refine c_skip ?_; repeat refine c_seq ?_
   refine c_region ?_; refine l_op (o_val r_mv ?_); refine l_op (o_val (r_conv Tryz.underlying2 Tryz.underlying33 rfl (w_u64_I _)) ?_); refine l_op (o_val (r_bin (c64 2 (by decide)) rfl (fun _ => b_mul_u64)) ?_); refine l_op (o_val r_as ?_); first | refine l_end ?_ | refine l_nil ?_
   refine c_ret ?_; try dsimp only [Exit.then, Exit.inBlock]
   refine e_ret1 (v := V64 ((2 : UInt64) * (UInt64.ofInt n))) Tryz.results29 rfl ?_
   refine ⟨_, rfl, ?_⟩
   refine ⟨?_, H⟩
   rw [zig_pos n (by omega) (by omega)]
theorem cnt1_byte (v : UInt64) : (v % 128 + 128).toUInt8 = v.toUInt8 ||| 128 := by
  apply UInt8.toNat_inj.1
  have e1 : (128 : UInt64).toNat = 128 := rfl
  have e2 : (128 : UInt8).toNat = 128 := rfl
  rw [UInt64.toNat_toUInt8, UInt64.toNat_add, UInt64.toNat_mod, UInt8.toNat_or, UInt64.toNat_toUInt8, e1, e2]
  have h : v.toNat % 256 ||| 128 = v.toNat % 128 + 128 := by
    have hx : v.toNat % 256 = (v.toNat % 256 / 128) * 128 + v.toNat % 128 := by omega
    have hb : v.toNat % 256 / 128 = 0 ∨ v.toNat % 256 / 128 = 1 := by omega
    have hlt : v.toNat % 128 < 2 ^ 7 := Nat.mod_lt _ (by decide)
    have key : v.toNat % 128 ||| 128 = 128 + v.toNat % 128 := by
      rw [Nat.or_comm]; exact (Nat.shiftLeft_add_eq_or_of_lt hlt 1).symm
    rcases hb with h0 | h0
    · rw [hx, h0, Nat.zero_mul, Nat.zero_add, key]; omega
    · have key2 : (128 + v.toNat % 128) ||| 128 = 128 + v.toNat % 128 := by
        rw [← key, Nat.or_assoc, Nat.or_self]
      rw [hx, h0, Nat.one_mul, key2]; omega
  rw [h]
  omega
theorem div128 (v : UInt64) : (v / 128).toNat = v.toNat / 128 := by rw [UInt64.toNat_div]; rfl
theorem count1_ret (w0 : World) (s : Sl) (hs : s.ok w0) (u : UInt64) (hm : s.len ≤ 1048576) :
    Ret Tryz.prog 71 [s.v, V64 u] w0 fun v w' => ∃ a n c, v = .slice (hd a) n c ∧ n ≤ s.len + 11 ∧ Hp w0 w' [] [.own a n c ((s.l ++ cnt u.toNat).map V8) 5 1] := by
  refine ret_mk Tryz.func71 rfl Tryz.ntmps71 (by simp) ?_
  have H := Hp.refl w0 []
  repeat refine c_seq ?_
  refine c_region ?_; refine l_op (o_val r_as ?_); first | refine l_end ?_ | refine l_nil ?_
  repeat refine c_seq ?_
  refine c_region ?_; refine l_op (o_bslB (([] : List UInt8)) H sl24 zc5 rfl rfl (by decide) (fun b1 w H hb1 => ?_)); replace H : Hp _ w _ ([.own (some b1) 0 0 ((([] : List UInt8)).map V8) 5 1]) := H
  refine l_op (o_val r_mv ?_); refine l_op (o_appB (s := s) (l' := s.l) (len' := s.len) rfl (Nat.zero_add _) H (i := 0) rfl sl24 Tryz.underlying24 rfl rfl (hs.up H (fun _ => apart_nil _)) (by omega) (fun a2 c3 w H => ?_)); replace H : Hp _ w _ ([.own a2 s.len c3 ((s.l).map V8) 5 1]) := H
  refine l_op (o_val r_as ?_); first | refine l_end ?_ | refine l_nil ?_
  repeat refine c_seq ?_
  refine c_block ?_; repeat refine c_seq ?_
  refine c_loop5 (fun (x : UInt64) (l : List UInt8) (a : Option Nat) (ln : Nat) (c : Nat) => [(1, V64 x), (5, .slice (hd a) ln c)])
    (fun (x : UInt64) (l : List UInt8) (a : Option Nat) (ln : Nat) (c : Nat) w => (l ++ cnt x.toNat = s.l ++ cnt u.toNat ∧ ln ≤ s.len + 10 ∧ x.toNat < 2 ^ (64 - 7 * (ln - s.len)) ∧ s.len ≤ ln) ∧ Hp w0 w [] ([.own a ln c ((l).map V8) 5 1]))
    (fun (x : UInt64) (l : List UInt8) (a : Option Nat) (ln : Nat) (c : Nat) => x.toNat) u s.l a2 s.len c3 ⟨rfl, rfl, trivial⟩ ⟨⟨rfl, by omega, by rw [Nat.sub_self]; exact u.toNat_lt, Nat.le_refl _⟩, H⟩ ?_
  clear H
  rintro x l a ln c τ w ⟨⟨hl, hln, hx, hge⟩, H⟩
  repeat refine c_seq ?_
  refine c_region ?_; refine l_op (o_val r_mv ?_); refine l_op (o_val (r_bin (a := (x.toNat : Int)) (b := 128) rfl rfl (fun _ => b_geq)) ?_); first | refine l_end ?_ | refine l_nil ?_
  by_cases hc4 : 128 ≤ (x.toNat : Int)
  ·
   repeat refine c_seq ?_
   refine c_yes (by exact congrArg Value.bool (decide_eq_true hc4)) ?_; refine c_skip ?_; repeat refine c_seq ?_
   refine c_block ?_; repeat refine c_seq ?_
   refine c_region ?_; refine l_op (o_val r_mv ?_); refine l_op (o_val r_mv ?_); refine l_op (o_val (r_bin rfl (c64 128 (by decide)) (fun _ => b_rem_u64 (by decide))) ?_); refine l_op (o_val (r_bin rfl (c64 128 (by decide)) (fun _ => b_add_u64)) ?_); refine l_op (o_val (r_conv Tryz.underlying33 Tryz.underlying5 rfl (w_u8_64 _)) ?_); refine l_op (o_bslB ([((x % (128 : UInt64)) + (128 : UInt64)).toUInt8]) H sl24 zc5 rfl rfl (by decide) (fun b5 w H hb5 => ?_)); replace H : Hp _ w _ ([_, .own (some b5) 1 1 (([((x % (128 : UInt64)) + (128 : UInt64)).toUInt8]).map V8) 5 1]) := H
   refine l_op (o_appB (s := ⟨hd (some b5), 1, 1, [((x % (128 : UInt64)) + (128 : UInt64)).toUInt8]⟩) (l' := l ++ ([((x % (128 : UInt64)) + (128 : UInt64)).toUInt8])) (len' := ln + 1) rfl rfl H (i := 0) rfl sl24 Tryz.underlying24 rfl rfl (H.slOwn (i := 1) rfl) (by omega) (fun a6 c7 w H => ?_)); replace H : Hp _ w _ ([.own a6 (ln + 1) c7 ((l ++ ([((x % (128 : UInt64)) + (128 : UInt64)).toUInt8])).map V8) 5 1, _]) := H
   refine l_op (o_val r_as ?_); first | refine l_end ?_ | refine l_nil ?_
   repeat refine c_seq ?_
   refine c_region ?_; refine l_op (o_val r_mv ?_); refine l_op (o_val (r_bin rfl (c64 128 (by decide)) (fun _ => b_quo_u64 (by decide))) ?_); refine l_op (o_val r_as ?_); first | refine l_end ?_ | refine l_nil ?_
   have hb7 := cnt_bound x.toNat ln s.len hx (by omega) hge hln
   refine round_end (x / (128 : UInt64), l ++ ([((x % (128 : UInt64)) + (128 : UInt64)).toUInt8]), a6, ln + 1, c7) ?_ ?_ ?_
   · exact ⟨show V64 (x / (128 : UInt64)) = V64 (x / (128 : UInt64) : UInt64) from congrArg V64 rfl, rfl, trivial⟩
   · refine ⟨?_, ?_⟩
     · try dsimp only
       exact ⟨by rw [cnt_more x (by omega), shr7, ← div128, ← cnt1_byte] at hl; simpa using hl, by omega, by rw [div128]; exact hb7.2, by omega⟩
     · exact H.sub (.cons_cons _ (List.nil_sublist _))
   · show (x / 128).toNat < x.toNat; rw [div128]; omega
  ·
   repeat refine c_seq ?_
   refine c_no (by exact congrArg Value.bool (decide_eq_false hc4)) ?_; refine c_exit ?_; repeat refine c_seq ?_
   refine c_region ?_; refine l_op (o_val r_mv ?_); refine l_op (o_val r_mv ?_); refine l_op (o_val (r_conv Tryz.underlying33 Tryz.underlying5 rfl (w_u8_64 _)) ?_); refine l_op (o_bslB ([x.toUInt8]) H sl24 zc5 rfl rfl (by decide) (fun b8 w H hb8 => ?_)); replace H : Hp _ w _ ([_, .own (some b8) 1 1 (([x.toUInt8]).map V8) 5 1]) := H
   refine l_op (o_appB (s := ⟨hd (some b8), 1, 1, [x.toUInt8]⟩) (l' := l ++ ([x.toUInt8])) (len' := ln + 1) rfl rfl H (i := 0) rfl sl24 Tryz.underlying24 rfl rfl (H.slOwn (i := 1) rfl) (by omega) (fun a9 c10 w H => ?_)); replace H : Hp _ w _ ([.own a9 (ln + 1) c10 ((l ++ ([x.toUInt8])).map V8) 5 1, _]) := H
   refine l_op (o_val r_as ?_); first | refine l_end ?_ | refine l_nil ?_
   refine c_ret ?_; try dsimp only [Exit.then, Exit.inBlock]
   refine e_ret1 (v := .slice (hd a9) (ln + 1) c10) Tryz.results71 rfl ?_
   refine ⟨_, rfl, ?_⟩
   refine ⟨_, _, _, rfl, by omega, ?_⟩
   rw [cnt_less x (by omega)] at hl
   rw [← hl]
   exact H.sub (.cons_cons _ (List.nil_sublist _))
theorem text1_ret (w0 : World) (s u : Sl) (hs : s.ok w0) (hu : u.ok w0) (hm : s.len ≤ 1048576) (hn : u.len ≤ 65536) :
    Ret Tryz.prog 28 [s.v, u.v] w0 fun v w' => ∃ a n c, v = .tuple #[.slice (hd a) n c, VI 0] ∧ n ≤ s.len + 11 + u.len ∧ Hp w0 w' [] [.own a n c ((s.l ++ cnt u.len ++ u.l).map V8) 5 1] := by
  refine ret_mk Tryz.func28 rfl Tryz.ntmps28 (by simp) ?_
  have H := Hp.refl w0 []
  repeat refine c_seq ?_
  refine c_region ?_; refine l_op (o_val r_as ?_); refine l_op (o_val r_as ?_); first | refine l_end ?_ | refine l_nil ?_
  repeat refine c_seq ?_
  refine c_region ?_; refine l_op (o_val r_mv ?_); refine l_op (o_val (r_lens el24 rfl) ?_); refine l_op (o_val (r_bin (a := (u.len : Int)) (b := 65536) rfl rfl (fun _ => b_gtrB false (decide_eq_false (by omega)))) ?_); first | refine l_end ?_ | refine l_nil ?_
  repeat refine c_seq ?_
  refine c_no rfl ?_; refine c_skip ?_; repeat refine c_seq ?_
  refine c_region ?_; refine l_op (o_val r_mv ?_); refine l_op (o_val r_mv ?_); refine l_op (o_val (r_lens el24 rfl) ?_); refine l_op (o_val (r_conv (v := ((UInt64.ofNat u.len).toNat : Int)) Tryz.underlying3 Tryz.underlying33 rfl (w_u64_N u.len (by omega))) ?_); refine l_op (o_callR Tryz.func71 rfl rfl rfl (count1_ret _ s (hs.up H (fun _ => apart_nil _)) (UInt64.ofNat u.len) (by (try simp only [Sl.cut]); omega)) ?_); rintro _ w ⟨a1, n2, c3, rfl, hn4, Hc⟩
  replace H : Hp _ w _ ([.own a1 n2 c3 ((s.l ++ cnt (UInt64.ofNat u.len).toNat).map V8) 5 1]) := H.call Hc
  clear Hc
  try dsimp only at hn4
  refine l_op (o_val r_mv ?_); refine l_op (o_appB (s := u) (l' := s.l ++ cnt (UInt64.ofNat u.len).toNat ++ u.l) (len' := n2 + u.len) rfl rfl H (i := 0) rfl sl24 Tryz.underlying24 rfl rfl (hu.up H (fun _ => apart_nil _)) (by omega) (fun a5 c6 w H => ?_)); replace H : Hp _ w _ ([.own a5 (n2 + u.len) c6 ((s.l ++ cnt (UInt64.ofNat u.len).toNat ++ u.l).map V8) 5 1]) := H
  refine l_op (o_val r_as ?_); refine l_op (o_val r_as ?_); first | refine l_end ?_ | refine l_nil ?_
  refine c_ret ?_; try dsimp only [Exit.then, Exit.inBlock]
  refine e_retN (vs := [.slice (hd a5) (n2 + u.len) c6, VI 0]) _ Tryz.results28 rfl (resT (v := .slice (hd a5) (n2 + u.len) c6) rfl (resT (v := VI 0) rfl (resZ))) ?_
  refine ⟨_, rfl, ?_⟩
  refine ⟨_, _, _, rfl, by omega, ?_⟩
  rw [ofNat_nat _ (by omega)] at H
  exact H
end Go.Proofs.YtiepekfcegdkoaaGreatDoor
namespace Go.Proofs.YtiepekfcegdkoaaGreatDoor
open Go
set_option maxRecDepth 100000
theorem tk_hb : ∀ n x (b : UInt8), be (x * 256 + b.toNat) (n + 1) = be x n ++ [b] := by
  intro n
  induction n with
  | zero => intro x b; simp [be]
  | succ n ih =>
    intro x b
    rw [be, ih x b, be, List.cons_append]
    congr 2
    have := u8_lt b
    rw [Nat.pow_succ, Nat.mul_comm (256 ^ n) 256, ← Nat.div_div_eq_div_mul]
    congr 1; omega
theorem tk_be_ofbe : ∀ l : List UInt8, be (ofbe l) l.length = l := by
  suffices h : ∀ n (l : List UInt8), l.length = n → be (ofbe l) n = l from fun l => h _ l rfl
  intro n
  induction n with
  | zero => intro l hl; rw [List.length_eq_zero_iff.1 hl]; rfl
  | succ n ih =>
    intro l hl
    obtain ⟨r, b, rfl⟩ : ∃ r b, l = r ++ [b] := ⟨l.dropLast, l.getLast (by intro e; subst e; simp at hl), (List.dropLast_concat_getLast _).symm⟩
    rw [ofbe_snoc, tk_hb, ih r (by simpa using hl)]
theorem tk_ofbe_be (v : Nat) : ∀ n, v < 256 ^ n → ofbe (be v n) = v := by
  intro n
  induction n generalizing v with
  | zero => intro h; simp at h; subst h; rfl
  | succ n ih =>
    intro h
    have e : v = v / 256 * 256 + (UInt8.ofNat v).toNat := by rw [UInt8.toNat_ofNat']; omega
    rw [e, tk_hb, ofbe_snoc, ih (v / 256) (by rw [Nat.pow_succ] at h; omega)]
/-- the number ahead of the rest is read. -/
theorem num_be (u : UInt64) (r : List UInt8) : num (be u.toNat 8 ++ r) 0 8 = u := by
  have h := u64_lt u
  rw [num, List.drop_zero, List.take_left' (be_len _ _), tk_ofbe_be _ 8 (by omega), UInt64.ofNat_toNat]
theorem num_cut (l : List UInt8) (a : Nat) (h : a + 8 ≤ l.length) : be (num l a 8).toNat 8 = (l.drop a).take 8 := by
  have hl : ((l.drop a).take 8).length = 8 := by simp; omega
  have h2 := ofbe_lt ((l.drop a).take 8)
  rw [hl] at h2
  have e := tk_be_ofbe ((l.drop a).take 8)
  rw [hl] at e
  rw [num, ofNat_nat _ (by omega), e]
theorem num_drop (l : List UInt8) (a n : Nat) : num l a n = num (l.drop a) 0 n := by rw [num, num, List.drop_zero]
theorem num_one (c : UInt8) (r : List UInt8) : num (c :: r) 0 1 = c.toUInt64 := by
  have e : ofbe [c] = c.toNat := by simp [ofbe]
  rw [num, List.drop_zero, List.take_succ_cons, List.take_zero, e]
  exact (u8_u64 c).symm
/-- a number of both signs. -/
def zagU (u : UInt64) : Int := if u.toNat % 2 = 1 then -((u.toNat / 2 : Nat) : Int) - 1 else ((u.toNat / 2 : Nat) : Int)
theorem zagU_lo (u : UInt64) : -9223372036854775808 ≤ zagU u := by have := u64_lt u; unfold zagU; split <;> omega
theorem zagU_hi (u : UInt64) : zagU u ≤ 9223372036854775807 := by have := u64_lt u; unfold zagU; split <;> omega
theorem zag_zig (v : Int) (h1 : -9223372036854775808 ≤ v) (h2 : v ≤ 9223372036854775807) : zagU (zigU v) = v := by
  have e2 : (2 : UInt64).toNat = 2 := rfl
  have e1 : (1 : UInt64).toNat = 1 := rfl
  by_cases h0 : 0 ≤ v
  · rw [zig_pos v h0 h2, ofInt_nat v h0]
    have e : (2 * UInt64.ofNat v.toNat).toNat = 2 * v.toNat := by
      rw [UInt64.toNat_mul, e2, UInt64.toNat_ofNat']; omega
    rw [zagU, e, if_neg (by omega)]; omega
  · rw [zig_neg v (by omega) h1, ofInt_nat _ (by omega)]
    have e : (2 * UInt64.ofNat (-(v + 1)).toNat + 1).toNat = 2 * (-(v + 1)).toNat + 1 := by
      rw [UInt64.toNat_add, UInt64.toNat_mul, e2, e1, UInt64.toNat_ofNat']; omega
    rw [zagU, e, if_pos (by omega)]; omega
theorem zig_zag (u : UInt64) : zigU (zagU u) = u := by
  have e2 : (2 : UInt64).toNat = 2 := rfl
  have e1 : (1 : UInt64).toNat = 1 := rfl
  have hu := u64_lt u
  by_cases h : u.toNat % 2 = 1
  · rw [zagU, if_pos h, zig_neg _ (by omega) (by omega), ofInt_nat _ (by omega)]
    apply UInt64.toNat_inj.1
    rw [UInt64.toNat_add, UInt64.toNat_mul, e2, e1, UInt64.toNat_ofNat']; omega
  · rw [zagU, if_neg h, zig_pos _ (by omega) (by omega), ofInt_nat _ (by omega)]
    apply UInt64.toNat_inj.1
    rw [UInt64.toNat_mul, e2, UInt64.toNat_ofNat']; omega
/-- a token as data. -/
structure TV where
  serial : UInt64
  tenant : List UInt8
  rights : UInt8
  from_ : Int
  until_ : Int
  cs : List Cav
  tag : List UInt8
deriving DecidableEq
def Tok.tv (t : Tok) : TV := ⟨t.serial, t.tenant, t.rights, t.from_, t.until_, t.cs.l, t.tag⟩
def TV.may (t : TV) : Bool := (decide (t.tenant = []) || nameMay t.tenant) && rMay t.rights && decide (t.cs.length ≤ 8) && t.cs.all fun c => rMay c.1
theorem mayT_tv (t : Tok) (h : t.cs.l.length = t.cs.len) : mayT t = t.tv.may := by rw [mayT, TV.may, ← h]; rfl
def TV.bytes (t : TV) : List UInt8 := [1] ++ headB t.serial t.tenant t.rights t.from_ t.until_ ++ [UInt8.ofNat t.cs.length] ++ cavsB t.cs ++ t.tag
theorem bytes_tv (t : Tok) (h : t.cs.l.length = t.cs.len) : t.bytes = t.tv.bytes := by rw [Tok.bytes, TV.bytes, ← h]; rfl
def i64in (v : Int) : Prop := -9223372036854775808 ≤ v ∧ v ≤ 9223372036854775807
/-- what a token's data may be in a program. -/
structure TV.fits (t : TV) : Prop where
  f : i64in t.from_
  u : i64in t.until_
  c : ∀ c ∈ t.cs, i64in c.2
  tag : t.tag.length = 32
theorem may_ten (t : TV) (h : t.may = true) : t.tenant.length ≤ 16 := by
  simp only [TV.may, Bool.and_eq_true, Bool.or_eq_true, decide_eq_true_eq] at h
  rcases h.1.1.1 with h1 | h1
  · rw [h1]; exact Nat.zero_le _
  · exact ((nameMay_iff _).1 h1).2.1
theorem may_cs (t : TV) (h : t.may = true) : t.cs.length ≤ 8 := by
  simp only [TV.may, Bool.and_eq_true, Bool.or_eq_true, decide_eq_true_eq] at h
  exact h.1.2
theorem cnt_one (n : Nat) (h : n ≤ 127) : cnt n = [UInt8.ofNat n] := by rw [cnt, if_neg (by omega)]
theorem cavsB_len (cs : List Cav) : (cavsB cs).length = 9 * cs.length := by
  induction cs with
  | nil => rfl
  | cons c cs ih => rw [cavsB, List.flatMap_cons, List.length_append, cavB_len, ← cavsB, ih, List.length_cons]; omega
/-- where caveats stand: k of them, one behind the other. -/
def cavsAt : Nat → List UInt8 → List Cav
  | 0, _ => []
  | k + 1, l => (l.getD 0 0, zagU (num l 1 8)) :: cavsAt k (l.drop 9)
theorem cavsAt_len : ∀ k l, (cavsAt k l).length = k
  | 0, _ => rfl
  | k + 1, l => by rw [cavsAt, List.length_cons, cavsAt_len k]
theorem cavsAt_fits : ∀ k l, ∀ c ∈ cavsAt k l, i64in c.2
  | 0, _, c, h => by cases h
  | k + 1, l, c, h => by
    rw [cavsAt, List.mem_cons] at h
    rcases h with rfl | h
    · exact ⟨zagU_lo _, zagU_hi _⟩
    · exact cavsAt_fits k _ c h
theorem timeB_cut (l : List UInt8) (a : Nat) (h : a + 8 ≤ l.length) : timeB (zagU (num l a 8)) = (l.drop a).take 8 := by
  rw [timeB, zig_zag, num_cut l a h]
theorem getD_cons (l : List UInt8) (a : Nat) (h : a < l.length) : l.drop a = l.getD a 0 :: l.drop (a + 1) := by
  rw [List.drop_eq_getElem_cons h, List.getD_eq_getElem?_getD, List.getElem?_eq_getElem h]; rfl
theorem cavsAt_bytes : ∀ k l, 9 * k ≤ l.length → cavsB (cavsAt k l) = l.take (9 * k)
  | 0, l, _ => by rw [cavsAt, Nat.mul_zero, List.take_zero]; rfl
  | k + 1, l, h => by
    have ih := cavsAt_bytes k (l.drop 9) (by simp; omega)
    rw [cavsAt, cavsB, List.flatMap_cons, ← cavsB, ih, cavB, timeB_cut l 1 (by omega)]
    have e0 : l = l.getD 0 0 :: l.drop 1 := by have := getD_cons l 0 (by omega); simpa using this
    have e1 : l.take (9 * (k + 1)) = l.take 9 ++ (l.drop 9).take (9 * k) := by rw [← List.take_add]; congr 1; omega
    have e2 : l.take 9 = [l.getD 0 0] ++ (l.drop 1).take 8 := by
      have : (l.getD 0 0 :: l.drop 1).take 9 = [l.getD 0 0] ++ (l.drop 1).take 8 := rfl
      rwa [← e0] at this
    rw [e1, e2]
theorem timeB_len (v : Int) : (timeB v).length = 8 := be_len _ _
theorem zag_timeB (v : Int) (h : i64in v) (r : List UInt8) : zagU (num (timeB v ++ r) 0 8) = v := by
  rw [timeB, num_be, zag_zig v h.1 h.2]
theorem cavsAt_cavsB : ∀ (cs : List Cav) (r : List UInt8), (∀ c ∈ cs, i64in c.2) → cavsAt cs.length (cavsB cs ++ r) = cs
  | [], _, _ => rfl
  | c :: cs, r, h => by
    have e : cavsB (c :: cs) ++ r = c.1 :: (timeB c.2 ++ (cavsB cs ++ r)) := by simp [cavsB, cavB]
    rw [e, List.length_cons, cavsAt, num_drop]
    have e9 : (c.1 :: (timeB c.2 ++ (cavsB cs ++ r))).drop 9 = cavsB cs ++ r := by
      rw [show 9 = 8 + 1 from rfl, List.drop_succ_cons, List.drop_left' (timeB_len _)]
    rw [e9, cavsAt_cavsB cs r (fun x hx => h x (by simp [hx])), List.drop_succ_cons, List.drop_zero, zag_timeB _ (h c (by simp))]
    rfl
/-- where a token's parts stand. -/
def tkN (b : List UInt8) : Nat := (b.getD 9 0).toNat
def tkK (b : List UInt8) : Nat := (b.getD (27 + tkN b) 0).toNat
def tvAt (b : List UInt8) : TV := ⟨num b 1 8, (b.drop 10).take (tkN b), b.getD (10 + tkN b) 0, zagU (num b (11 + tkN b) 8), zagU (num b (19 + tkN b) 8), cavsAt (tkK b) (b.drop (28 + tkN b)), b.drop (28 + tkN b + 9 * tkK b)⟩
def tkShape (b : List UInt8) : Prop := tkN b ≤ 16 ∧ 60 + tkN b ≤ b.length ∧ tkK b ≤ 8 ∧ b.length = 60 + tkN b + 9 * tkK b
instance (b : List UInt8) : Decidable (tkShape b) := by unfold tkShape; infer_instance
theorem take_split (b : List UInt8) (a n m : Nat) (h : a + n = m) : b.drop a = (b.drop a).take n ++ b.drop m := by
  rw [← h, ← List.drop_drop, List.take_append_drop]
/-- in that shape the bytes are the token's but for the first. -/
theorem tvAt_bytes (b : List UInt8) (h : tkShape b) : (tvAt b).bytes = 1 :: b.drop 1 := by
  obtain ⟨h1, h2, h3, h4⟩ := h
  have hten : ((b.drop 10).take (tkN b)).length = tkN b := by simp; omega
  have s1 := take_split b 1 8 9 rfl
  have s2 := getD_cons b 9 (by omega)
  have s3 := take_split b 10 (tkN b) (10 + tkN b) rfl
  have s4 := getD_cons b (10 + tkN b) (by omega)
  have s5 := take_split b (11 + tkN b) 8 (19 + tkN b) (by omega)
  have s6 := take_split b (19 + tkN b) 8 (27 + tkN b) (by omega)
  have s7 := getD_cons b (27 + tkN b) (by omega)
  have s8 := take_split b (28 + tkN b) (9 * tkK b) (28 + tkN b + 9 * tkK b) rfl
  have hk : (cavsAt (tkK b) (b.drop (28 + tkN b))).length = tkK b := cavsAt_len _ _
  simp only [TV.bytes, tvAt, headB, hten, hk]
  rw [num_cut b 1 (by omega), cnt_one _ (by omega), timeB_cut b _ (by omega), timeB_cut b _ (by omega), cavsAt_bytes _ _ (by simp; omega)]
  have o9 : UInt8.ofNat (tkN b) = b.getD 9 0 := UInt8.ofNat_toNat
  have ok : UInt8.ofNat (tkK b) = b.getD (27 + tkN b) 0 := UInt8.ofNat_toNat
  rw [show 10 + tkN b + 1 = 11 + tkN b by omega] at s4
  rw [show 27 + tkN b + 1 = 28 + tkN b by omega] at s7
  rw [o9, ok]
  conv => rhs; rw [s1, s2, s3, s4, s5, s6, s7, s8]
  simp
theorem tvAt_fits (b : List UInt8) (h : tkShape b) : (tvAt b).fits := by
  obtain ⟨h1, h2, h3, h4⟩ := h
  exact ⟨⟨zagU_lo _, zagU_hi _⟩, ⟨zagU_lo _, zagU_hi _⟩, cavsAt_fits _ _, by simp only [tvAt, List.length_drop]; omega⟩
/-- the token whose bytes these are. -/
def parseT (b : List UInt8) : Option TV := if tkShape b ∧ b.getD 0 0 = 1 ∧ (tvAt b).may = true then some (tvAt b) else none
def TokOf (b : List UInt8) (t : TV) : Prop := t.may = true ∧ t.fits ∧ t.bytes = b
theorem tokOf_shape (b : List UInt8) (t : TV) (h : TokOf b t) : tkShape b ∧ b.getD 0 0 = 1 ∧ tvAt b = t := by
  obtain ⟨hm, hf, rfl⟩ := h
  have hn := may_ten t hm
  have hk := may_cs t hm
  have e0 : t.bytes = 1 :: (be t.serial.toNat 8 ++ (UInt8.ofNat t.tenant.length :: (t.tenant ++ (t.rights :: (timeB t.from_ ++ (timeB t.until_ ++ (UInt8.ofNat t.cs.length :: (cavsB t.cs ++ t.tag)))))))) := by
    simp [TV.bytes, headB, cnt_one _ (show t.tenant.length ≤ 127 by omega)]
  have d1 : t.bytes.drop 1 = be t.serial.toNat 8 ++ (UInt8.ofNat t.tenant.length :: (t.tenant ++ (t.rights :: (timeB t.from_ ++ (timeB t.until_ ++ (UInt8.ofNat t.cs.length :: (cavsB t.cs ++ t.tag))))))) := by rw [e0]; rfl
  have d9 : t.bytes.drop 9 = UInt8.ofNat t.tenant.length :: (t.tenant ++ (t.rights :: (timeB t.from_ ++ (timeB t.until_ ++ (UInt8.ofNat t.cs.length :: (cavsB t.cs ++ t.tag)))))) := by
    rw [show 9 = 1 + 8 from rfl, ← List.drop_drop, d1, List.drop_left' (be_len _ _)]
  have hget : ∀ (l : List UInt8) (a : Nat) (c : UInt8) (r : List UInt8), l.drop a = c :: r → l.getD a 0 = c := by
    intro l a c r h
    have : (l.drop a)[0]? = some c := by rw [h]; rfl
    rw [List.getElem?_drop, Nat.add_zero] at this
    rw [List.getD_eq_getElem?_getD, this]; rfl
  have g9 := hget _ _ _ _ d9
  have hN : tkN t.bytes = t.tenant.length := by rw [tkN, g9, UInt8.toNat_ofNat']; omega
  have d10 : t.bytes.drop 10 = t.tenant ++ (t.rights :: (timeB t.from_ ++ (timeB t.until_ ++ (UInt8.ofNat t.cs.length :: (cavsB t.cs ++ t.tag))))) := by
    rw [show 10 = 9 + 1 from rfl, ← List.drop_drop, d9]; rfl
  have da : t.bytes.drop (10 + tkN t.bytes) = t.rights :: (timeB t.from_ ++ (timeB t.until_ ++ (UInt8.ofNat t.cs.length :: (cavsB t.cs ++ t.tag)))) := by
    rw [← List.drop_drop, d10, List.drop_left' hN.symm]
  have db : t.bytes.drop (11 + tkN t.bytes) = timeB t.from_ ++ (timeB t.until_ ++ (UInt8.ofNat t.cs.length :: (cavsB t.cs ++ t.tag))) := by
    rw [show 11 + tkN t.bytes = 10 + tkN t.bytes + 1 by omega, ← List.drop_drop, da]; rfl
  have dc : t.bytes.drop (19 + tkN t.bytes) = timeB t.until_ ++ (UInt8.ofNat t.cs.length :: (cavsB t.cs ++ t.tag)) := by
    rw [show 19 + tkN t.bytes = 11 + tkN t.bytes + 8 by omega, ← List.drop_drop, db, List.drop_left' (timeB_len _)]
  have dd : t.bytes.drop (27 + tkN t.bytes) = UInt8.ofNat t.cs.length :: (cavsB t.cs ++ t.tag) := by
    rw [show 27 + tkN t.bytes = 19 + tkN t.bytes + 8 by omega, ← List.drop_drop, dc, List.drop_left' (timeB_len _)]
  have hK : tkK t.bytes = t.cs.length := by rw [tkK, hget _ _ _ _ dd, UInt8.toNat_ofNat']; omega
  have de : t.bytes.drop (28 + tkN t.bytes) = cavsB t.cs ++ t.tag := by
    rw [show 28 + tkN t.bytes = 27 + tkN t.bytes + 1 by omega, ← List.drop_drop, dd]; rfl
  have df : t.bytes.drop (28 + tkN t.bytes + 9 * tkK t.bytes) = t.tag := by
    rw [← List.drop_drop, de, List.drop_left' (by rw [cavsB_len, hK])]
  have hl : t.bytes.length = 60 + t.tenant.length + 9 * t.cs.length := by
    rw [e0]; simp [be_len, timeB_len, cavsB_len, hf.tag]; omega
  refine ⟨⟨by omega, by omega, by omega, by omega⟩, by rw [e0]; rfl, ?_⟩
  rw [tvAt, num_drop, d1, num_be, d10, hget _ _ _ _ da, num_drop _ (11 + tkN t.bytes), db, zag_timeB _ hf.f, num_drop _ (19 + tkN t.bytes), dc, zag_timeB _ hf.u, de, df, hK, cavsAt_cavsB _ _ hf.c, List.take_left' hN.symm]
theorem parse_iff (b : List UInt8) (t : TV) : parseT b = some t ↔ TokOf b t := by
  constructor
  · intro h
    unfold parseT at h
    split at h
    · rename_i hc
      cases h
      refine ⟨hc.2.2, tvAt_fits b hc.1, ?_⟩
      rw [tvAt_bytes b hc.1, ← hc.2.1]
      have := getD_cons b 0 (by have := hc.1.2.1; omega)
      simpa using this.symm
    · cases h
  · intro h
    obtain ⟨h1, h2, h3⟩ := tokOf_shape b t h
    rw [parseT, if_pos ⟨h1, h2, by rw [h3]; exact h.1⟩, h3]
end Go.Proofs.YtiepekfcegdkoaaGreatDoor
namespace Go.Proofs.YtiepekfcegdkoaaGreatDoor
open Go
set_option maxRecDepth 100000
theorem shr1 (u : UInt64) : (u >>> UInt64.ofNat 1).toNat = u.toNat / 2 := by
  have e : (UInt64.ofNat 1).toNat % 64 = 1 := rfl
  rw [UInt64.toNat_shiftRight, e, Nat.shiftRight_eq_div_pow]
theorem and1 (u : UInt64) : (u &&& 1).toNat = u.toNat % 2 := by
  have e : (1 : UInt64).toNat = 1 := rfl
  rw [UInt64.toNat_and, e, Nat.and_one_is_mod]
theorem b_zag {P : Program} {w : World} {t : TypeId} (u : UInt64) : (binOp .xor t (VI ((u.toNat / 2 : Nat) : Int)) (VI (-((u.toNat % 2 : Nat) : Int)))).run P w = .ok (VI (zagU u)) w := by
  have hu := u64_lt u
  have hn : (BitVec.ofInt 64 ((u.toNat / 2 : Nat) : Int)).toNat = u.toNat / 2 := by
    rw [BitVec.toNat_ofInt]; omega
  rw [b_xor_i64]
  by_cases h : u.toNat % 2 = 1
  · rw [h, zagU, if_pos h]
    have e : BitVec.ofInt 64 (-((1 : Nat) : Int)) = BitVec.allOnes 64 := by decide
    rw [e, BitVec.xor_allOnes, BitVec.toNat_not, hn, IntKind.wrap_i64]
    exact congrArg (fun z : Int => Result.ok (VI z) w) (by omega)
  · have h0 : u.toNat % 2 = 0 := by omega
    rw [h0, zagU, if_neg h]
    have e : BitVec.ofInt 64 (-((0 : Nat) : Int)) = 0#64 := by decide
    rw [e, BitVec.xor_zero, hn, IntKind.wrap_i64]
    exact congrArg (fun z : Int => Result.ok (VI z) w) (by omega)
theorem zag_ret (w0 : World) (u : UInt64) :
    Ret Tryz.prog 76 [V64 u] w0 fun v w' => v = VI (zagU u) ∧ Hp w0 w' [] [] := by
  refine ret_mk Tryz.func76 rfl Tryz.ntmps76 (by simp) ?_
  have H := Hp.refl w0 []
  repeat refine c_seq ?_
  refine c_region ?_; refine l_op (o_val r_as ?_); first | refine l_end ?_ | refine l_nil ?_
  repeat refine c_seq ?_
  refine c_region ?_; refine l_op (o_val r_mv ?_); refine l_op (o_val (r_shift rfl rfl (.inr rfl) (fun _ => b_shr_u64N 1 (by omega))) ?_); refine l_op (o_val (r_conv (v := ((u.toNat / 2 : Nat) : Int)) Tryz.underlying33 Tryz.underlying2 rfl ((congrArg (fun m : Nat => IntKind.i64.wrap (m : Int)) (shr1 u)).trans (wrap_i64 (by omega) (by have := u64_lt u; omega)))) ?_); refine l_op (o_val r_mv ?_); refine l_op (o_val (r_bin rfl (c64 1 (by decide)) (fun _ => b_and_u64)) ?_); refine l_op (o_val (r_conv (v := ((u.toNat % 2 : Nat) : Int)) Tryz.underlying33 Tryz.underlying2 rfl ((congrArg (fun m : Nat => IntKind.i64.wrap (m : Int)) (and1 u)).trans (wrap_i64 (by omega) (by have := u64_lt u; omega)))) ?_); refine l_op (o_val (r_un (a := ((u.toNat % 2 : Nat) : Int)) rfl (fun _ => b_neg_i64 (by omega) (by omega))) ?_); refine l_op (o_val (r_bin (a := ((u.toNat / 2 : Nat) : Int)) (b := -((u.toNat % 2 : Nat) : Int)) rfl rfl (fun _ => b_zag u)) ?_); refine l_op (o_val r_as ?_); first | refine l_end ?_ | refine l_nil ?_
  refine c_ret ?_; try dsimp only [Exit.then, Exit.inBlock]
  refine e_ret1 (v := VI (zagU u)) Tryz.results76 rfl ?_
  refine ⟨_, rfl, ?_⟩
  exact ⟨rfl, H⟩
theorem low7 (c : UInt8) : (c &&& 127).toNat = c.toNat % 128 := by
  have e : (127 : UInt8).toNat = 2 ^ 7 - 1 := rfl
  rw [UInt8.toNat_and, e, Nat.and_two_pow_sub_one_eq_mod]
theorem pow128 (i : Nat) : 128 ^ i = 2 ^ (7 * i) := by rw [Nat.pow_mul]
theorem count_or (n i : Nat) (c : UInt8) (h : n < 128 ^ i) (hi : i ≤ 9) (hc : i = 9 → c.toNat ≤ 1) : UInt64.ofNat n ||| (c &&& (127 : UInt8)).toUInt64 <<< UInt64.ofNat (7 * i) = UInt64.ofNat (n + c.toNat % 128 * 128 ^ i) := by
  have hc2 := u8_lt c
  have hb : c.toNat % 128 * 128 ^ i < 2 ^ 64 - 128 ^ i + 1 := by
    have hle : 128 ^ i ≤ 128 ^ 9 := Nat.pow_le_pow_right (by decide) hi
    by_cases h9 : i = 9
    · subst h9
      have := hc rfl
      have : c.toNat % 128 * 128 ^ 9 ≤ 1 * 128 ^ 9 := Nat.mul_le_mul_right _ (by omega)
      have e : (128 : Nat) ^ 9 = 9223372036854775808 := by decide
      omega
    · have h8 : 128 ^ i ≤ 128 ^ 8 := Nat.pow_le_pow_right (by decide) (by omega)
      have : c.toNat % 128 * 128 ^ i ≤ 127 * 128 ^ 8 := Nat.mul_le_mul (by omega) h8
      have e : (128 : Nat) ^ 8 = 72057594037927936 := by decide
      omega
  have hp : 0 < 128 ^ i := Nat.pow_pos (by decide)
  have h9 : 128 ^ i ≤ 128 ^ 9 := Nat.pow_le_pow_right (by decide) hi
  have e9 : (128 : Nat) ^ 9 = 9223372036854775808 := by decide
  apply UInt64.toNat_inj.1
  have e7 : (UInt64.ofNat (7 * i)).toNat % 64 = 7 * i := by rw [UInt64.toNat_ofNat']; omega
  rw [UInt64.toNat_or, UInt64.toNat_shiftLeft, e7, UInt8.toNat_toUInt64, low7, UInt64.toNat_ofNat', UInt64.toNat_ofNat', Nat.shiftLeft_eq, ← pow128, Nat.mod_eq_of_lt (a := n) (by omega), Nat.mod_eq_of_lt (a := c.toNat % 128 * 128 ^ i) (by omega), Nat.mod_eq_of_lt (a := n + c.toNat % 128 * 128 ^ i) (by omega)]
  rw [Nat.or_comm, pow128, ← Nat.shiftLeft_eq, ← Nat.shiftLeft_add_eq_or_of_lt (by rw [← pow128]; exact h)]
  omega
theorem cnt_big (m : Nat) (h : 127 < m) : cnt m = (UInt8.ofNat m ||| 128) :: cnt (m / 128) := by rw [cnt, if_pos h]
theorem or128 (c : UInt8) (m : Nat) (hc : 128 ≤ c.toNat) : UInt8.ofNat (c.toNat % 128 + m * 128) ||| 128 = c := by
  have key : ∀ n, n < 256 → 128 ≤ n → UInt8.ofNat (n % 128) ||| 128 = UInt8.ofNat n ∧ UInt8.ofNat (n % 128 + 128) ||| 128 = UInt8.ofNat n := by decide
  have hlt := u8_lt c
  obtain ⟨k1, k2⟩ := key c.toNat hlt hc
  rw [UInt8.ofNat_toNat] at k1 k2
  by_cases hm : m % 2 = 0
  · have : UInt8.ofNat (c.toNat % 128 + m * 128) = UInt8.ofNat (c.toNat % 128) := by
      apply UInt8.toNat_inj.1; rw [UInt8.toNat_ofNat', UInt8.toNat_ofNat']; omega
    rw [this]; exact k1
  · have : UInt8.ofNat (c.toNat % 128 + m * 128) = UInt8.ofNat (c.toNat % 128 + 128) := by
      apply UInt8.toNat_inj.1; rw [UInt8.toNat_ofNat', UInt8.toNat_ofNat']; omega
    rw [this]; exact k2
/-- what is known ahead of byte i: n so far. -/
def CntInv (l : List UInt8) (i n : Nat) : Prop := n < 128 ^ i ∧ (0 < i → 128 ≤ (l.getD 0 0).toNat) ∧ ∀ m, 1 ≤ m → cnt (n + m * 128 ^ i) = l.take i ++ cnt m
theorem cntInv_zero (l : List UInt8) : CntInv l 0 0 := ⟨by decide, fun h => absurd h (by decide), fun m _ => by simp⟩
theorem cntInv_succ (l : List UInt8) (i n : Nat) (c : UInt8) (h : CntInv l i n) (hi : i < l.length) (hc : c = l.getD i 0) (h128 : 128 ≤ c.toNat) : CntInv l (i + 1) (n + c.toNat % 128 * 128 ^ i) := by
  obtain ⟨h1, h2, h3⟩ := h
  have hlt := u8_lt c
  refine ⟨?_, ?_, fun m hm => ?_⟩
  · have : c.toNat % 128 * 128 ^ i ≤ 127 * 128 ^ i := Nat.mul_le_mul_right _ (by omega)
    rw [Nat.pow_succ]; omega
  · intro _
    by_cases h0 : i = 0
    · subst h0; rw [← hc]; exact h128
    · exact h2 (by omega)
  · have e : n + c.toNat % 128 * 128 ^ i + m * 128 ^ (i + 1) = n + (c.toNat % 128 + m * 128) * 128 ^ i := by
      rw [Nat.pow_succ, Nat.add_mul, Nat.mul_assoc m 128, Nat.mul_comm 128 (128 ^ i)]; omega
    rw [e, h3 _ (by omega), cnt_big _ (by omega), or128 c m h128, take_snoc l i hi, ← hc, show (c.toNat % 128 + m * 128) / 128 = m by omega]
    simp
theorem cntInv_end (l : List UInt8) (i n : Nat) (c : UInt8) (h : CntInv l i n) (hi : i < l.length) (hc : c = l.getD i 0) (h128 : c.toNat < 128) (h0 : ¬ (c.toNat = 0 ∧ 0 < i)) : cnt (n + c.toNat % 128 * 128 ^ i) = l.take (i + 1) := by
  obtain ⟨h1, h2, h3⟩ := h
  rw [Nat.mod_eq_of_lt h128, take_snoc l i hi, ← hc]
  by_cases hz : c.toNat = 0
  · have : i = 0 := by omega
    subst this
    have hn : n = 0 := by simpa using h1
    subst hn
    rw [hz, Nat.zero_mul, cnt_one 0 (by omega), List.take_zero]
    have : c = 0 := UInt8.toNat_inj.1 hz
    rw [this]; rfl
  · rw [h3 _ (by omega), cnt_one _ (by omega), UInt8.ofNat_toNat]
theorem cntInv_lt (l : List UInt8) (i n : Nat) (c : UInt8) (h : CntInv l i n) (hi : i ≤ 9) (h9 : i = 9 → c.toNat ≤ 1) : n + c.toNat % 128 * 128 ^ i < 18446744073709551616 := by
  have hlt := u8_lt c
  have h1 := h.1
  have e9 : (128 : Nat) ^ 9 = 9223372036854775808 := by decide
  by_cases hh : i = 9
  · subst hh
    have := h9 rfl
    have : c.toNat % 128 * 128 ^ 9 ≤ 1 * 128 ^ 9 := Nat.mul_le_mul_right _ (by omega)
    omega
  · have h8 : 128 ^ i ≤ 128 ^ 8 := Nat.pow_le_pow_right (by decide) (by omega)
    have : c.toNat % 128 * 128 ^ i ≤ 127 * 128 ^ 8 := Nat.mul_le_mul (by omega) h8
    have e : (128 : Nat) ^ 8 = 72057594037927936 := by decide
    omega
/-- what TakeCount hands back. -/
def CntOut (l : List UInt8) (x : UInt64) (k : Nat) (e : Int) : Prop := (e = 0 → k ≤ l.length ∧ l.take k = cnt x.toNat) ∧ ∀ c r, l = c :: r → c.toNat < 128 → e = 0 ∧ x = c.toUInt64 ∧ k = 1
theorem cntOut_bad (l : List UInt8) (i n : Nat) (e : Int) (h : CntInv l i n) (he : ¬ e = 0) (hi : 0 < i ∨ l = []) : CntOut l 0 0 e := by
  refine ⟨fun h0 => absurd h0 he, fun c r hl hc => ?_⟩
  rcases hi with hi | hi
  · have := h.2.1 hi
    rw [hl] at this
    have : 128 ≤ c.toNat := this
    omega
  · rw [hi] at hl; cases hl
theorem cntOut_ok (l : List UInt8) (i n : Nat) (c : UInt8) (h : CntInv l i n) (hi9 : i ≤ 9) (h9 : i = 9 → c.toNat ≤ 1) (hi : i < l.length) (hc : c = l.getD i 0) (h128 : c.toNat < 128) (h0 : ¬ (c.toNat = 0 ∧ 0 < i)) : CntOut l (UInt64.ofNat (n + c.toNat % 128 * 128 ^ i)) (i + 1) 0 := by
  refine ⟨fun _ => ⟨by omega, ?_⟩, fun c' r hl hc' => ?_⟩
  · rw [ofNat_nat _ (cntInv_lt l i n c h hi9 h9)]; exact (cntInv_end l i n c h hi hc h128 h0).symm
  · have hi0 : i = 0 := by
      refine Classical.byContradiction fun hne => ?_
      have := h.2.1 (by omega)
      rw [hl] at this
      have : 128 ≤ c'.toNat := this
      omega
    subst hi0
    have e : c = c' := by rw [hc, hl]; rfl
    have hn : n = 0 := by simpa using h.1
    subst e hn
    refine ⟨rfl, ?_, rfl⟩
    rw [Nat.mod_eq_of_lt h128, Nat.pow_zero, Nat.mul_one, Nat.zero_add]
    exact (u8_u64 c).symm
theorem takeCount_ret (w0 : World) (s : Sl) (hs : s.ok w0) (hm : s.len ≤ 1048576) :
    Ret Tryz.prog 146 [s.v] w0 fun v w' => ∃ (x : UInt64) (k : Nat) (e : Int), v = .tuple #[V64 x, VI (k : Int), VI e] ∧ CntOut s.l x k e ∧ Hp w0 w' [] [] := by
  refine ret_mk Tryz.func146 rfl Tryz.ntmps146 (by simp) ?_
  have H := Hp.refl w0 []
  have hsl := hs.ln
  repeat refine c_seq ?_
  refine c_region ?_; refine l_op (o_val (r_asV (c64 0 (by decide))) ?_); refine l_op (o_val r_as ?_); refine l_op (o_val r_as ?_); first | refine l_end ?_ | refine l_nil ?_
  repeat refine c_seq ?_
  refine c_region ?_; refine l_op (o_val (r_asV (c64 0 (by decide))) ?_); first | refine l_end ?_ | refine l_nil ?_
  repeat refine c_seq ?_
  refine c_region ?_; refine l_op (o_val r_mv ?_); refine l_op (o_val (r_lens el24 rfl) ?_); refine l_op (o_val r_mv ?_); first | refine l_end ?_ | refine l_nil ?_
  repeat refine c_seq ?_
  refine c_block ?_; repeat refine c_seq ?_
  refine c_loop2 (fun (i : Nat) (n : Nat) => [(5, V64 (UInt64.ofNat n)), (8, s.v), (9, VI (s.len : Int)), (10, VI (i : Int))])
    (fun (i : Nat) (n : Nat) w => (i ≤ 9 ∧ i ≤ s.len ∧ CntInv s.l i n) ∧ Hp w0 w [] ([]))
    (fun (i : Nat) (n : Nat) => s.len - i) 0 0 ⟨rfl, rfl, rfl, rfl, trivial⟩ ⟨⟨by omega, by omega, cntInv_zero _⟩, H⟩ ?_
  clear H
  rintro i n τ w ⟨⟨hi9, hil, hinv⟩, H⟩
  repeat refine c_seq ?_
  refine c_region ?_; refine l_op (o_val (r_bin (a := (i : Int)) (b := (s.len : Int)) rfl rfl (fun _ => b_lss)) ?_); first | refine l_end ?_ | refine l_nil ?_
  by_cases hc1 : (i : Int) < (s.len : Int)
  ·
   repeat refine c_seq ?_
   refine c_yes (by exact congrArg Value.bool (decide_eq_true hc1)) ?_; refine c_skip ?_; repeat refine c_seq ?_
   refine c_block ?_; repeat refine c_seq ?_
   refine c_region ?_; refine l_op (o_val r_mv ?_); have ah4 := ((hs.up H (fun _ => apart_nil _))).addr (by (try simp only [Sl.cut]); omega)
   obtain ⟨ab2, ao3, ah4⟩ := ah4
   refine l_op (o_val (r_isN i rfl rfl el24 ah4 (by omega) (by (try simp only [Sl.cut]); omega)) ?_); refine l_op (o_val (r_ldB (s := s) (k := i) (hs.up H (fun _ => apart_nil _)) ah4 rfl ct5 (by (try simp only [Sl.cut]); omega)) ?_); refine l_op (o_val r_as ?_); refine l_op (o_val r_as ?_); first | refine l_end ?_ | refine l_nil ?_
   repeat refine c_seq ?_
   refine c_block ?_; repeat refine c_seq ?_
   refine c_region ?_; refine l_op (o_val r_mv ?_); refine l_op (o_val (r_bin (a := (i : Int)) (b := 9) rfl rfl (fun _ => b_eql)) ?_); refine l_op (o_val r_mv ?_)
   by_cases hc5 : (i : Int) = 9
   ·
    refine l_yes rfl rfl (by exact congrArg Value.bool (decide_eq_true hc5)) (o_val r_mv ?_); refine l_yes rfl rfl (by exact congrArg Value.bool (decide_eq_true hc5)) (o_val (r_bin (a := (((s.l).getD i 0).toNat : Int)) (b := 1) rfl rfl (fun _ => b_gtr)) ?_); refine l_op (o_val (r_pick (b := true) (congrArg Value.bool (decide_eq_true hc5))) ?_); refine l_op (o_val r_as ?_); first | refine l_end ?_ | refine l_nil ?_
    by_cases hc6 : 1 < (((s.l).getD i 0).toNat : Int)
    ·
     repeat refine c_seq ?_
     refine c_yes (by exact congrArg Value.bool (decide_eq_true hc6)) ?_; refine c_skip ?_; repeat refine c_seq ?_
     refine c_yes (by exact congrArg Value.bool (decide_eq_true hc6)) ?_; repeat refine c_seq ?_
     refine c_region ?_; refine l_op (o_val (r_asV (c64 0 (by decide))) ?_); refine l_op (o_val r_as ?_); refine l_op (o_val r_as ?_); first | refine l_end ?_ | refine l_nil ?_
     refine c_ret ?_; try dsimp only [Exit.then, Exit.inBlock]
     refine e_retN (vs := [V64 (0 : UInt64), VI 0, VI 4]) _ Tryz.results146 rfl (resT (v := V64 (0 : UInt64)) rfl (resT (v := VI 0) rfl (resT (v := VI 4) rfl (resZ)))) ?_
     refine ⟨_, rfl, ?_⟩
     exact ⟨0, 0, 4, rfl, cntOut_bad s.l i n _ hinv (by decide) (by first | exact .inl (by omega) | (rcases Nat.eq_zero_or_pos i with h0 | h0 <;> first | exact .inl h0 | exact .inr (List.length_eq_zero_iff.1 (by omega)))), H⟩
    ·
     repeat refine c_seq ?_
     refine c_no (by exact congrArg Value.bool (decide_eq_false hc6)) ?_; repeat refine c_seq ?_
     refine c_region ?_; refine l_op (o_val r_mv ?_); refine l_op (o_val (r_bin (a := (((s.l).getD i 0).toNat : Int)) (b := 0) rfl rfl (fun _ => b_eql)) ?_); refine l_op (o_val r_mv ?_)
     by_cases hc7 : (((s.l).getD i 0).toNat : Int) = 0
     ·
      refine l_yes rfl rfl (by exact congrArg Value.bool (decide_eq_true hc7)) (o_val r_mv ?_); refine l_yes rfl rfl (by exact congrArg Value.bool (decide_eq_true hc7)) (o_val (r_bin (a := (i : Int)) (b := 0) rfl rfl (fun _ => b_gtr)) ?_); refine l_op (o_val (r_pick (b := true) (congrArg Value.bool (decide_eq_true hc7))) ?_); refine l_op (o_val r_as ?_); first | refine l_end ?_ | refine l_nil ?_
      by_cases hc8 : 0 < (i : Int)
      ·
       repeat refine c_seq ?_
       refine c_yes (by exact congrArg Value.bool (decide_eq_true hc8)) ?_; repeat refine c_seq ?_
       refine c_region ?_; refine l_op (o_val (r_asV (c64 0 (by decide))) ?_); refine l_op (o_val r_as ?_); refine l_op (o_val r_as ?_); first | refine l_end ?_ | refine l_nil ?_
       refine c_ret ?_; try dsimp only [Exit.then, Exit.inBlock]
       refine e_retN (vs := [V64 (0 : UInt64), VI 0, VI 4]) _ Tryz.results146 rfl (resT (v := V64 (0 : UInt64)) rfl (resT (v := VI 0) rfl (resT (v := VI 4) rfl (resZ)))) ?_
       refine ⟨_, rfl, ?_⟩
       exact ⟨0, 0, 4, rfl, cntOut_bad s.l i n _ hinv (by decide) (by first | exact .inl (by omega) | (rcases Nat.eq_zero_or_pos i with h0 | h0 <;> first | exact .inl h0 | exact .inr (List.length_eq_zero_iff.1 (by omega)))), H⟩
      ·
       repeat refine c_seq ?_
       refine c_no (by exact congrArg Value.bool (decide_eq_false hc8)) ?_; refine c_skip ?_; repeat refine c_seq ?_
       refine c_region ?_; refine l_op (o_val r_mv ?_); refine l_op (o_val r_mv ?_); refine l_op (o_val (r_bin rfl (c8 127 (by decide)) (fun _ => b_and_u8)) ?_); refine l_op (o_val (r_conv Tryz.underlying5 Tryz.underlying33 rfl (w_u64_8 _)) ?_); refine l_op (o_val r_mv ?_); refine l_op (o_val (r_conv (v := ((UInt64.ofNat i).toNat : Int)) Tryz.underlying3 Tryz.underlying117 rfl (w_u64_N i (by omega))) ?_); refine l_op (o_val (r_bin (c64 7 (by decide)) rfl (fun _ => b_mul_u64N)) ?_); refine l_op (o_val (r_shift rfl rfl (.inl rfl) (fun _ => b_shl_u64N (7 * i) (by omega))) ?_); refine l_op (o_val (r_bin rfl rfl (fun _ => b_or_u64)) ?_); refine l_op (o_val r_as ?_); first | refine l_end ?_ | refine l_nil ?_
       repeat refine c_seq ?_
       refine c_region ?_; refine l_op (o_val r_mv ?_); refine l_op (o_val (r_bin (a := (((s.l).getD i 0).toNat : Int)) (b := 128) rfl rfl (fun _ => b_lss)) ?_); first | refine l_end ?_ | refine l_nil ?_
       by_cases hc9 : (((s.l).getD i 0).toNat : Int) < 128
       ·
        repeat refine c_seq ?_
        refine c_yes (by exact congrArg Value.bool (decide_eq_true hc9)) ?_; repeat refine c_seq ?_
        refine c_region ?_; refine l_op (o_val r_mv ?_); refine l_op (o_val r_mv ?_); refine l_op (o_val (r_bin (a := (i : Int)) (b := 1) rfl rfl (fun _ => b_add (by omega) (by omega))) ?_); refine l_op (o_val r_as ?_); refine l_op (o_val r_as ?_); refine l_op (o_val r_as ?_); first | refine l_end ?_ | refine l_nil ?_
        refine c_ret ?_; try dsimp only [Exit.then, Exit.inBlock]
        refine e_retN (vs := [V64 ((UInt64.ofNat n) ||| (((((s.l).getD i 0) &&& (127 : UInt8)).toUInt64) <<< UInt64.ofNat (7 * i))), VI ((i : Int) + 1), VI 0]) _ Tryz.results146 rfl (resT (v := V64 ((UInt64.ofNat n) ||| (((((s.l).getD i 0) &&& (127 : UInt8)).toUInt64) <<< UInt64.ofNat (7 * i)))) rfl (resT (v := VI ((i : Int) + 1)) rfl (resT (v := VI 0) rfl (resZ)))) ?_
        refine ⟨_, rfl, ?_⟩
        refine ⟨_, i + 1, 0, rfl, ?_, H⟩
        rw [count_or n i _ hinv.1 hi9 (by omega)]
        exact cntOut_ok s.l i n _ hinv hi9 (by omega) (by omega) rfl (by omega) (by omega)
       ·
        repeat refine c_seq ?_
        refine c_no (by exact congrArg Value.bool (decide_eq_false hc9)) ?_; refine c_skip ?_; repeat refine c_seq ?_
        refine c_region ?_; refine l_op (o_val (r_bin (a := (i : Int)) (b := 1) rfl rfl (fun _ => b_add (by omega) (by omega))) ?_); refine l_op (o_val r_mv ?_); first | refine l_end ?_ | refine l_nil ?_
        refine round_end (i + 1, n + (s.l.getD i 0).toNat % 128 * 128 ^ i) ?_ ?_ ?_
        · exact ⟨show V64 ((UInt64.ofNat n) ||| (((((s.l).getD i 0) &&& (127 : UInt8)).toUInt64) <<< UInt64.ofNat (7 * i))) = V64 (UInt64.ofNat (n + (s.l.getD i 0).toNat % 128 * 128 ^ i : Nat)) from congrArg V64 (count_or n i _ hinv.1 hi9 (by omega)), rfl, rfl, show VI ((i : Int) + 1) = VI ((i + 1 : Nat) : Int) from congrArg VI (by omega), trivial⟩
        · refine ⟨?_, ?_⟩
          · try dsimp only
            exact ⟨by omega, by omega, cntInv_succ s.l i n _ hinv (by omega) rfl (by omega)⟩
          · exact H
        · show s.len - (i + 1 : Nat) < s.len - i; omega
     ·
      refine l_no rfl rfl (by exact congrArg Value.bool (decide_eq_false hc7)) rfl ?_; refine l_no rfl rfl (by exact congrArg Value.bool (decide_eq_false hc7)) rfl ?_; refine l_op (o_val (r_pick (b := false) (congrArg Value.bool (decide_eq_false hc7))) ?_); refine l_op (o_val r_as ?_); first | refine l_end ?_ | refine l_nil ?_
      repeat refine c_seq ?_
      refine c_no rfl ?_; refine c_skip ?_; repeat refine c_seq ?_
      refine c_region ?_; refine l_op (o_val r_mv ?_); refine l_op (o_val r_mv ?_); refine l_op (o_val (r_bin rfl (c8 127 (by decide)) (fun _ => b_and_u8)) ?_); refine l_op (o_val (r_conv Tryz.underlying5 Tryz.underlying33 rfl (w_u64_8 _)) ?_); refine l_op (o_val r_mv ?_); refine l_op (o_val (r_conv (v := ((UInt64.ofNat i).toNat : Int)) Tryz.underlying3 Tryz.underlying117 rfl (w_u64_N i (by omega))) ?_); refine l_op (o_val (r_bin (c64 7 (by decide)) rfl (fun _ => b_mul_u64N)) ?_); refine l_op (o_val (r_shift rfl rfl (.inl rfl) (fun _ => b_shl_u64N (7 * i) (by omega))) ?_); refine l_op (o_val (r_bin rfl rfl (fun _ => b_or_u64)) ?_); refine l_op (o_val r_as ?_); first | refine l_end ?_ | refine l_nil ?_
      repeat refine c_seq ?_
      refine c_region ?_; refine l_op (o_val r_mv ?_); refine l_op (o_val (r_bin (a := (((s.l).getD i 0).toNat : Int)) (b := 128) rfl rfl (fun _ => b_lss)) ?_); first | refine l_end ?_ | refine l_nil ?_
      by_cases hc10 : (((s.l).getD i 0).toNat : Int) < 128
      ·
       repeat refine c_seq ?_
       refine c_yes (by exact congrArg Value.bool (decide_eq_true hc10)) ?_; repeat refine c_seq ?_
       refine c_region ?_; refine l_op (o_val r_mv ?_); refine l_op (o_val r_mv ?_); refine l_op (o_val (r_bin (a := (i : Int)) (b := 1) rfl rfl (fun _ => b_add (by omega) (by omega))) ?_); refine l_op (o_val r_as ?_); refine l_op (o_val r_as ?_); refine l_op (o_val r_as ?_); first | refine l_end ?_ | refine l_nil ?_
       refine c_ret ?_; try dsimp only [Exit.then, Exit.inBlock]
       refine e_retN (vs := [V64 ((UInt64.ofNat n) ||| (((((s.l).getD i 0) &&& (127 : UInt8)).toUInt64) <<< UInt64.ofNat (7 * i))), VI ((i : Int) + 1), VI 0]) _ Tryz.results146 rfl (resT (v := V64 ((UInt64.ofNat n) ||| (((((s.l).getD i 0) &&& (127 : UInt8)).toUInt64) <<< UInt64.ofNat (7 * i)))) rfl (resT (v := VI ((i : Int) + 1)) rfl (resT (v := VI 0) rfl (resZ)))) ?_
       refine ⟨_, rfl, ?_⟩
       refine ⟨_, i + 1, 0, rfl, ?_, H⟩
       rw [count_or n i _ hinv.1 hi9 (by omega)]
       exact cntOut_ok s.l i n _ hinv hi9 (by omega) (by omega) rfl (by omega) (by omega)
      ·
       repeat refine c_seq ?_
       refine c_no (by exact congrArg Value.bool (decide_eq_false hc10)) ?_; refine c_skip ?_; repeat refine c_seq ?_
       refine c_region ?_; refine l_op (o_val (r_bin (a := (i : Int)) (b := 1) rfl rfl (fun _ => b_add (by omega) (by omega))) ?_); refine l_op (o_val r_mv ?_); first | refine l_end ?_ | refine l_nil ?_
       refine round_end (i + 1, n + (s.l.getD i 0).toNat % 128 * 128 ^ i) ?_ ?_ ?_
       · exact ⟨show V64 ((UInt64.ofNat n) ||| (((((s.l).getD i 0) &&& (127 : UInt8)).toUInt64) <<< UInt64.ofNat (7 * i))) = V64 (UInt64.ofNat (n + (s.l.getD i 0).toNat % 128 * 128 ^ i : Nat)) from congrArg V64 (count_or n i _ hinv.1 hi9 (by omega)), rfl, rfl, show VI ((i : Int) + 1) = VI ((i + 1 : Nat) : Int) from congrArg VI (by omega), trivial⟩
       · refine ⟨?_, ?_⟩
         · try dsimp only
           exact ⟨by omega, by omega, cntInv_succ s.l i n _ hinv (by omega) rfl (by omega)⟩
         · exact H
       · show s.len - (i + 1 : Nat) < s.len - i; omega
   ·
    refine l_no rfl rfl (by exact congrArg Value.bool (decide_eq_false hc5)) rfl ?_; refine l_no rfl rfl (by exact congrArg Value.bool (decide_eq_false hc5)) rfl ?_; refine l_op (o_val (r_pick (b := false) (congrArg Value.bool (decide_eq_false hc5))) ?_); refine l_op (o_val r_as ?_); first | refine l_end ?_ | refine l_nil ?_
    repeat refine c_seq ?_
    refine c_no rfl ?_; repeat refine c_seq ?_
    refine c_region ?_; refine l_op (o_val r_mv ?_); refine l_op (o_val (r_bin (a := (((s.l).getD i 0).toNat : Int)) (b := 0) rfl rfl (fun _ => b_eql)) ?_); refine l_op (o_val r_mv ?_)
    by_cases hc11 : (((s.l).getD i 0).toNat : Int) = 0
    ·
     refine l_yes rfl rfl (by exact congrArg Value.bool (decide_eq_true hc11)) (o_val r_mv ?_); refine l_yes rfl rfl (by exact congrArg Value.bool (decide_eq_true hc11)) (o_val (r_bin (a := (i : Int)) (b := 0) rfl rfl (fun _ => b_gtr)) ?_); refine l_op (o_val (r_pick (b := true) (congrArg Value.bool (decide_eq_true hc11))) ?_); refine l_op (o_val r_as ?_); first | refine l_end ?_ | refine l_nil ?_
     by_cases hc12 : 0 < (i : Int)
     ·
      repeat refine c_seq ?_
      refine c_yes (by exact congrArg Value.bool (decide_eq_true hc12)) ?_; repeat refine c_seq ?_
      refine c_region ?_; refine l_op (o_val (r_asV (c64 0 (by decide))) ?_); refine l_op (o_val r_as ?_); refine l_op (o_val r_as ?_); first | refine l_end ?_ | refine l_nil ?_
      refine c_ret ?_; try dsimp only [Exit.then, Exit.inBlock]
      refine e_retN (vs := [V64 (0 : UInt64), VI 0, VI 4]) _ Tryz.results146 rfl (resT (v := V64 (0 : UInt64)) rfl (resT (v := VI 0) rfl (resT (v := VI 4) rfl (resZ)))) ?_
      refine ⟨_, rfl, ?_⟩
      exact ⟨0, 0, 4, rfl, cntOut_bad s.l i n _ hinv (by decide) (by first | exact .inl (by omega) | (rcases Nat.eq_zero_or_pos i with h0 | h0 <;> first | exact .inl h0 | exact .inr (List.length_eq_zero_iff.1 (by omega)))), H⟩
     ·
      repeat refine c_seq ?_
      refine c_no (by exact congrArg Value.bool (decide_eq_false hc12)) ?_; refine c_skip ?_; repeat refine c_seq ?_
      refine c_region ?_; refine l_op (o_val r_mv ?_); refine l_op (o_val r_mv ?_); refine l_op (o_val (r_bin rfl (c8 127 (by decide)) (fun _ => b_and_u8)) ?_); refine l_op (o_val (r_conv Tryz.underlying5 Tryz.underlying33 rfl (w_u64_8 _)) ?_); refine l_op (o_val r_mv ?_); refine l_op (o_val (r_conv (v := ((UInt64.ofNat i).toNat : Int)) Tryz.underlying3 Tryz.underlying117 rfl (w_u64_N i (by omega))) ?_); refine l_op (o_val (r_bin (c64 7 (by decide)) rfl (fun _ => b_mul_u64N)) ?_); refine l_op (o_val (r_shift rfl rfl (.inl rfl) (fun _ => b_shl_u64N (7 * i) (by omega))) ?_); refine l_op (o_val (r_bin rfl rfl (fun _ => b_or_u64)) ?_); refine l_op (o_val r_as ?_); first | refine l_end ?_ | refine l_nil ?_
      repeat refine c_seq ?_
      refine c_region ?_; refine l_op (o_val r_mv ?_); refine l_op (o_val (r_bin (a := (((s.l).getD i 0).toNat : Int)) (b := 128) rfl rfl (fun _ => b_lss)) ?_); first | refine l_end ?_ | refine l_nil ?_
      by_cases hc13 : (((s.l).getD i 0).toNat : Int) < 128
      ·
       repeat refine c_seq ?_
       refine c_yes (by exact congrArg Value.bool (decide_eq_true hc13)) ?_; repeat refine c_seq ?_
       refine c_region ?_; refine l_op (o_val r_mv ?_); refine l_op (o_val r_mv ?_); refine l_op (o_val (r_bin (a := (i : Int)) (b := 1) rfl rfl (fun _ => b_add (by omega) (by omega))) ?_); refine l_op (o_val r_as ?_); refine l_op (o_val r_as ?_); refine l_op (o_val r_as ?_); first | refine l_end ?_ | refine l_nil ?_
       refine c_ret ?_; try dsimp only [Exit.then, Exit.inBlock]
       refine e_retN (vs := [V64 ((UInt64.ofNat n) ||| (((((s.l).getD i 0) &&& (127 : UInt8)).toUInt64) <<< UInt64.ofNat (7 * i))), VI ((i : Int) + 1), VI 0]) _ Tryz.results146 rfl (resT (v := V64 ((UInt64.ofNat n) ||| (((((s.l).getD i 0) &&& (127 : UInt8)).toUInt64) <<< UInt64.ofNat (7 * i)))) rfl (resT (v := VI ((i : Int) + 1)) rfl (resT (v := VI 0) rfl (resZ)))) ?_
       refine ⟨_, rfl, ?_⟩
       refine ⟨_, i + 1, 0, rfl, ?_, H⟩
       rw [count_or n i _ hinv.1 hi9 (by omega)]
       exact cntOut_ok s.l i n _ hinv hi9 (by omega) (by omega) rfl (by omega) (by omega)
      ·
       repeat refine c_seq ?_
       refine c_no (by exact congrArg Value.bool (decide_eq_false hc13)) ?_; refine c_skip ?_; repeat refine c_seq ?_
       refine c_region ?_; refine l_op (o_val (r_bin (a := (i : Int)) (b := 1) rfl rfl (fun _ => b_add (by omega) (by omega))) ?_); refine l_op (o_val r_mv ?_); first | refine l_end ?_ | refine l_nil ?_
       refine round_end (i + 1, n + (s.l.getD i 0).toNat % 128 * 128 ^ i) ?_ ?_ ?_
       · exact ⟨show V64 ((UInt64.ofNat n) ||| (((((s.l).getD i 0) &&& (127 : UInt8)).toUInt64) <<< UInt64.ofNat (7 * i))) = V64 (UInt64.ofNat (n + (s.l.getD i 0).toNat % 128 * 128 ^ i : Nat)) from congrArg V64 (count_or n i _ hinv.1 hi9 (by omega)), rfl, rfl, show VI ((i : Int) + 1) = VI ((i + 1 : Nat) : Int) from congrArg VI (by omega), trivial⟩
       · refine ⟨?_, ?_⟩
         · try dsimp only
           exact ⟨by omega, by omega, cntInv_succ s.l i n _ hinv (by omega) rfl (by omega)⟩
         · exact H
       · show s.len - (i + 1 : Nat) < s.len - i; omega
    ·
     refine l_no rfl rfl (by exact congrArg Value.bool (decide_eq_false hc11)) rfl ?_; refine l_no rfl rfl (by exact congrArg Value.bool (decide_eq_false hc11)) rfl ?_; refine l_op (o_val (r_pick (b := false) (congrArg Value.bool (decide_eq_false hc11))) ?_); refine l_op (o_val r_as ?_); first | refine l_end ?_ | refine l_nil ?_
     repeat refine c_seq ?_
     refine c_no rfl ?_; refine c_skip ?_; repeat refine c_seq ?_
     refine c_region ?_; refine l_op (o_val r_mv ?_); refine l_op (o_val r_mv ?_); refine l_op (o_val (r_bin rfl (c8 127 (by decide)) (fun _ => b_and_u8)) ?_); refine l_op (o_val (r_conv Tryz.underlying5 Tryz.underlying33 rfl (w_u64_8 _)) ?_); refine l_op (o_val r_mv ?_); refine l_op (o_val (r_conv (v := ((UInt64.ofNat i).toNat : Int)) Tryz.underlying3 Tryz.underlying117 rfl (w_u64_N i (by omega))) ?_); refine l_op (o_val (r_bin (c64 7 (by decide)) rfl (fun _ => b_mul_u64N)) ?_); refine l_op (o_val (r_shift rfl rfl (.inl rfl) (fun _ => b_shl_u64N (7 * i) (by omega))) ?_); refine l_op (o_val (r_bin rfl rfl (fun _ => b_or_u64)) ?_); refine l_op (o_val r_as ?_); first | refine l_end ?_ | refine l_nil ?_
     repeat refine c_seq ?_
     refine c_region ?_; refine l_op (o_val r_mv ?_); refine l_op (o_val (r_bin (a := (((s.l).getD i 0).toNat : Int)) (b := 128) rfl rfl (fun _ => b_lss)) ?_); first | refine l_end ?_ | refine l_nil ?_
     by_cases hc14 : (((s.l).getD i 0).toNat : Int) < 128
     ·
      repeat refine c_seq ?_
      refine c_yes (by exact congrArg Value.bool (decide_eq_true hc14)) ?_; repeat refine c_seq ?_
      refine c_region ?_; refine l_op (o_val r_mv ?_); refine l_op (o_val r_mv ?_); refine l_op (o_val (r_bin (a := (i : Int)) (b := 1) rfl rfl (fun _ => b_add (by omega) (by omega))) ?_); refine l_op (o_val r_as ?_); refine l_op (o_val r_as ?_); refine l_op (o_val r_as ?_); first | refine l_end ?_ | refine l_nil ?_
      refine c_ret ?_; try dsimp only [Exit.then, Exit.inBlock]
      refine e_retN (vs := [V64 ((UInt64.ofNat n) ||| (((((s.l).getD i 0) &&& (127 : UInt8)).toUInt64) <<< UInt64.ofNat (7 * i))), VI ((i : Int) + 1), VI 0]) _ Tryz.results146 rfl (resT (v := V64 ((UInt64.ofNat n) ||| (((((s.l).getD i 0) &&& (127 : UInt8)).toUInt64) <<< UInt64.ofNat (7 * i)))) rfl (resT (v := VI ((i : Int) + 1)) rfl (resT (v := VI 0) rfl (resZ)))) ?_
      refine ⟨_, rfl, ?_⟩
      refine ⟨_, i + 1, 0, rfl, ?_, H⟩
      rw [count_or n i _ hinv.1 hi9 (by omega)]
      exact cntOut_ok s.l i n _ hinv hi9 (by omega) (by omega) rfl (by omega) (by omega)
     ·
      repeat refine c_seq ?_
      refine c_no (by exact congrArg Value.bool (decide_eq_false hc14)) ?_; refine c_skip ?_; repeat refine c_seq ?_
      refine c_region ?_; refine l_op (o_val (r_bin (a := (i : Int)) (b := 1) rfl rfl (fun _ => b_add (by omega) (by omega))) ?_); refine l_op (o_val r_mv ?_); first | refine l_end ?_ | refine l_nil ?_
      refine round_end (i + 1, n + (s.l.getD i 0).toNat % 128 * 128 ^ i) ?_ ?_ ?_
      · exact ⟨show V64 ((UInt64.ofNat n) ||| (((((s.l).getD i 0) &&& (127 : UInt8)).toUInt64) <<< UInt64.ofNat (7 * i))) = V64 (UInt64.ofNat (n + (s.l.getD i 0).toNat % 128 * 128 ^ i : Nat)) from congrArg V64 (count_or n i _ hinv.1 hi9 (by omega)), rfl, rfl, show VI ((i : Int) + 1) = VI ((i + 1 : Nat) : Int) from congrArg VI (by omega), trivial⟩
      · refine ⟨?_, ?_⟩
        · try dsimp only
          exact ⟨by omega, by omega, cntInv_succ s.l i n _ hinv (by omega) rfl (by omega)⟩
        · exact H
      · show s.len - (i + 1 : Nat) < s.len - i; omega
  ·
   repeat refine c_seq ?_
   refine c_no (by exact congrArg Value.bool (decide_eq_false hc1)) ?_; refine c_exit ?_; repeat refine c_seq ?_
   refine c_region ?_; refine l_op (o_val (r_asV (c64 0 (by decide))) ?_); refine l_op (o_val r_as ?_); refine l_op (o_val r_as ?_); first | refine l_end ?_ | refine l_nil ?_
   refine c_ret ?_; try dsimp only [Exit.then, Exit.inBlock]
   refine e_retN (vs := [V64 (0 : UInt64), VI 0, VI 3]) _ Tryz.results146 rfl (resT (v := V64 (0 : UInt64)) rfl (resT (v := VI 0) rfl (resT (v := VI 3) rfl (resZ)))) ?_
   refine ⟨_, rfl, ?_⟩
   exact ⟨0, 0, 3, rfl, cntOut_bad s.l i n _ hinv (by decide) (by first | exact .inl (by omega) | (rcases Nat.eq_zero_or_pos i with h0 | h0 <;> first | exact .inl h0 | exact .inr (List.length_eq_zero_iff.1 (by omega)))), H⟩
/-- what TakeText hands back. -/
def TxtOut (l t : List UInt8) (k : Nat) (e : Int) : Prop := (e = 0 → t.length ≤ 65536 ∧ k ≤ l.length ∧ l.take k = cnt t.length ++ t) ∧ ∀ c r, l = c :: r → c.toNat < 128 → c.toNat ≤ r.length → e = 0 ∧ k = 1 + c.toNat ∧ t = r.take c.toNat
theorem txtOut_bad {l : List UInt8} {x : UInt64} {k : Nat} {e e' : Int} (h : CntOut l x k e) (he : ¬ e' = 0) (hbad : ¬ e = 0 ∨ 65536 < x.toNat ∨ l.length < k + x.toNat) : TxtOut l [] 0 e' := by
  refine ⟨fun h0 => absurd h0 he, fun c r hl hc hcr => ?_⟩
  obtain ⟨h1, h2, h3⟩ := h.2 c r hl hc
  have hx : x.toNat = c.toNat := by rw [h2, UInt8.toNat_toUInt64]
  have hlen : l.length = r.length + 1 := by rw [hl]; rfl
  rcases hbad with h4 | h4 | h4
  · exact absurd h1 h4
  · omega
  · omega
theorem txtOut_ok {l : List UInt8} {x : UInt64} {k : Nat} (h : CntOut l x k 0) (h1 : x.toNat ≤ 65536) (h2 : k + x.toNat ≤ l.length) : TxtOut l ((l.drop k).take x.toNat) (k + x.toNat) 0 := by
  obtain ⟨h3, h4⟩ := h.1 rfl
  have hlen : ((l.drop k).take x.toNat).length = x.toNat := by simp; omega
  refine ⟨fun _ => ⟨by omega, h2, by rw [hlen, ← h4, List.take_add]⟩, fun c r hl hc hcr => ?_⟩
  obtain ⟨_, h5, h6⟩ := h.2 c r hl hc
  have hx : x.toNat = c.toNat := by rw [h5, UInt8.toNat_toUInt64]
  exact ⟨rfl, by omega, by rw [h6, hx, hl]; rfl⟩
theorem takeText_ret (w0 : World) (s : Sl) (hs : s.ok w0) (hm : s.len ≤ 1048576) :
    Ret Tryz.prog 116 [s.v] w0 fun v w' => ∃ (a : Option Nat) (c : Nat) (t : List UInt8) (k : Nat) (e : Int), v = .tuple #[.slice (hd a) t.length c, VI (k : Int), VI e] ∧ TxtOut s.l t k e ∧ Hp w0 w' [] [.own a t.length c (t.map V8) 5 1] := by
  refine ret_mk Tryz.func116 rfl Tryz.ntmps116 (by simp) ?_
  have H := Hp.refl w0 []
  have hsl := hs.ln
  have hle := hs.le
  repeat refine c_seq ?_
  refine c_region ?_; refine l_op (o_val r_as ?_); refine l_op (o_val r_as ?_); refine l_op (o_val r_as ?_); first | refine l_end ?_ | refine l_nil ?_
  repeat refine c_seq ?_
  refine c_region ?_; refine l_op (o_val r_mv ?_); refine l_op (o_callR Tryz.func146 rfl rfl rfl (takeCount_ret _ s (hs.up H (fun _ => apart_nil _)) (by (try simp only [Sl.cut]); omega)) ?_); rintro _ w ⟨x1, k2, e3, rfl, hco4, Hc⟩
  replace H : Hp _ w _ ([]) := H.call Hc
  clear Hc
  refine l_op (o_val r_mv ?_); refine l_op (o_val (r_ext rfl rfl) ?_); refine l_op (o_val (r_ext rfl rfl) ?_); refine l_op (o_val (r_ext rfl rfl) ?_); refine l_op (o_val r_as ?_); refine l_op (o_val r_as ?_); refine l_op (o_val r_as ?_); first | refine l_end ?_ | refine l_nil ?_
  repeat refine c_seq ?_
  refine c_block ?_; have hkl : e3 = 0 → k2 ≤ s.l.length := fun h => (hco4.1 h).1
  repeat refine c_seq ?_
  refine c_region ?_; refine l_op (o_val r_mv ?_); refine l_op (o_val (r_bin (a := e3) (b := 0) rfl rfl (fun _ => b_neq)) ?_); refine l_op (o_val r_as ?_); first | refine l_end ?_ | refine l_nil ?_
  by_cases hc5 : e3 ≠ 0
  ·
   repeat refine c_seq ?_
   refine c_yes (by exact congrArg Value.bool (decide_eq_true hc5)) ?_; repeat refine c_seq ?_
   refine c_region ?_; refine l_op (o_val r_mv ?_); refine l_op (o_val r_as ?_); refine l_op (o_val r_as ?_); refine l_op (o_val r_as ?_); first | refine l_end ?_ | refine l_nil ?_
   refine c_ret ?_; try dsimp only [Exit.then, Exit.inBlock]
   refine e_retN (vs := [.slice none 0 0, VI 0, VI e3]) _ Tryz.results116 rfl (resT (v := .slice none 0 0) rfl (resT (v := VI 0) rfl (resT (v := VI e3) rfl (resZ)))) ?_
   refine ⟨_, rfl, ?_⟩
   exact ⟨none, 0, [], 0, _, rfl, txtOut_bad hco4 (by first | decide | (intro h; omega)) (by omega), H.nilEnd 5 1⟩
  ·
   repeat refine c_seq ?_
   refine c_no (by exact congrArg Value.bool (decide_eq_false hc5)) ?_; repeat refine c_seq ?_
   refine c_region ?_; refine l_op (o_val r_mv ?_); refine l_op (o_val (r_bin (a := (x1.toNat : Int)) (b := 65536) rfl rfl (fun _ => b_gtr)) ?_); refine l_op (o_val r_as ?_); first | refine l_end ?_ | refine l_nil ?_
   by_cases hc6 : 65536 < (x1.toNat : Int)
   ·
    repeat refine c_seq ?_
    refine c_yes (by exact congrArg Value.bool (decide_eq_true hc6)) ?_; repeat refine c_seq ?_
    refine c_region ?_; refine l_op (o_val r_as ?_); refine l_op (o_val r_as ?_); refine l_op (o_val r_as ?_); first | refine l_end ?_ | refine l_nil ?_
    refine c_ret ?_; try dsimp only [Exit.then, Exit.inBlock]
    refine e_retN (vs := [.slice none 0 0, VI 0, VI 2]) _ Tryz.results116 rfl (resT (v := .slice none 0 0) rfl (resT (v := VI 0) rfl (resT (v := VI 2) rfl (resZ)))) ?_
    refine ⟨_, rfl, ?_⟩
    exact ⟨none, 0, [], 0, _, rfl, txtOut_bad hco4 (by first | decide | (intro h; omega)) (by omega), H.nilEnd 5 1⟩
   ·
    repeat refine c_seq ?_
    refine c_no (by exact congrArg Value.bool (decide_eq_false hc6)) ?_; have hon : (UInt64.ofNat (s.len - k2)).toNat = s.len - k2 := ofNat_nat _ (by omega)
    repeat refine c_seq ?_
    refine c_region ?_; refine l_op (o_val r_mv ?_); refine l_op (o_val (r_lens el24 rfl) ?_); refine l_op (o_val r_mv ?_); refine l_op (o_val (r_bin (a := (s.len : Int)) (b := (k2 : Int)) rfl rfl (fun _ => b_sub (by omega) (by omega))) ?_); refine l_op (o_val (r_conv (v := ((UInt64.ofNat (s.len - k2)).toNat : Int)) Tryz.underlying3 Tryz.underlying33 rfl (w_u64_N (s.len - k2) (by omega))) ?_); refine l_op (o_val r_mv ?_); refine l_op (o_val (r_bin (a := ((UInt64.ofNat (s.len - k2)).toNat : Int)) (b := (x1.toNat : Int)) rfl rfl (fun _ => b_lss)) ?_); refine l_op (o_val r_as ?_); first | refine l_end ?_ | refine l_nil ?_
    by_cases hc7 : ((UInt64.ofNat (s.len - k2)).toNat : Int) < (x1.toNat : Int)
    ·
     repeat refine c_seq ?_
     refine c_yes (by exact congrArg Value.bool (decide_eq_true hc7)) ?_; repeat refine c_seq ?_
     refine c_region ?_; refine l_op (o_val r_as ?_); refine l_op (o_val r_as ?_); refine l_op (o_val r_as ?_); first | refine l_end ?_ | refine l_nil ?_
     refine c_ret ?_; try dsimp only [Exit.then, Exit.inBlock]
     refine e_retN (vs := [.slice none 0 0, VI 0, VI 3]) _ Tryz.results116 rfl (resT (v := .slice none 0 0) rfl (resT (v := VI 0) rfl (resT (v := VI 3) rfl (resZ)))) ?_
     refine ⟨_, rfl, ?_⟩
     exact ⟨none, 0, [], 0, _, rfl, txtOut_bad hco4 (by first | decide | (intro h; omega)) (by omega), H.nilEnd 5 1⟩
    ·
     repeat refine c_seq ?_
     refine c_no (by exact congrArg Value.bool (decide_eq_false hc7)) ?_; refine c_skip ?_; repeat refine c_seq ?_
     refine c_region ?_; refine l_op (o_val r_mv ?_); refine l_op (o_val r_mv ?_); refine l_op (o_val (r_conv Tryz.underlying33 Tryz.underlying3 rfl (w_i64_64 (by omega))) ?_); refine l_op (o_val (r_bin (a := (k2 : Int)) (b := (x1.toNat : Int)) rfl rfl (fun _ => b_add (by omega) (by omega))) ?_); refine l_op (o_val r_as ?_); first | refine l_end ?_ | refine l_nil ?_
     repeat refine c_seq ?_
     refine c_region ?_; refine l_op (o_val r_mv ?_); refine l_op (o_val r_mv ?_); refine l_op (o_val r_mv ?_); refine l_op (o_val (r_slS (s := s) k2 (k2 + x1.toNat) s.cap (lv := some (VI (k2 : Int))) (hv := some (VI ((k2 : Int) + (x1.toNat : Int)))) (mv := none) rfl el24 rfl rfl rfl (fun w => by exact sblh k2 (k2 + x1.toNat) (by omega) (by omega) (by (try simp only [Sl.cut]); omega) (by (try simp only [Sl.cut]); omega) w)) ?_); refine l_op (o_callR Tryz.func67 rfl rfl rfl (own_ret _ (Sl.cut s k2 (k2 + x1.toNat) s.cap) ((hs.up H (fun _ => apart_nil _)).cut (l := k2) (h := k2 + x1.toNat) (m := s.cap) (by omega) (by (try simp only [Sl.cut]); omega) (by omega) (by (try simp only [Sl.cut]); omega)) 0 (by (try simp only [Sl.cut]); omega)) ?_); rintro _ w ⟨a8, c9, rfl, Hc⟩
     replace H : Hp _ w _ ([.own a8 (k2 + x1.toNat - k2) c9 ((((s.l).drop k2).take (k2 + x1.toNat - k2)).map V8) 5 1]) := H.call Hc
     clear Hc
     refine l_op (o_val r_mv ?_); refine l_op (o_val r_as ?_); refine l_op (o_val r_as ?_); refine l_op (o_val r_as ?_); first | refine l_end ?_ | refine l_nil ?_
     refine c_ret ?_; try dsimp only [Exit.then, Exit.inBlock]
     refine e_retN (vs := [.slice (hd a8) (k2 + x1.toNat - k2) c9, VI ((k2 : Int) + (x1.toNat : Int)), VI 0]) _ Tryz.results116 rfl (resT (v := .slice (hd a8) (k2 + x1.toNat - k2) c9) rfl (resT (v := VI ((k2 : Int) + (x1.toNat : Int))) rfl (resT (v := VI 0) rfl (resZ)))) ?_
     refine ⟨_, rfl, ?_⟩
     have he0 : e3 = 0 := by omega
     subst he0
     have hto := txtOut_ok hco4 (by omega) (by omega)
     have hl : ((s.l.drop k2).take x1.toNat).length = x1.toNat := by simp; omega
     have e1 : ((s.l).drop k2).take (k2 + x1.toNat - k2) = (s.l.drop k2).take x1.toNat := by congr 1; omega
     have e2 : k2 + x1.toNat - k2 = ((s.l.drop k2).take x1.toNat).length := by omega
     rw [e1, e2] at H
     rw [e2]
     exact ⟨_, _, _, _, _, rfl, hto, H.sub (.cons_cons _ (List.nil_sublist _))⟩
end Go.Proofs.YtiepekfcegdkoaaGreatDoor
namespace Go.Proofs.YtiepekfcegdkoaaGreatDoor
open Go
set_option maxRecDepth 100000
/-- a slice from its n-th byte on. -/
def Sl.tl (x : Sl) (n : Nat) : Sl := ⟨sa x.a n x.cap 1, x.len - n, x.cap - n, x.l.drop n⟩
theorem tl_cut (x : Sl) (n : Nat) (h : x.l.length = x.len) : x.cut n x.len x.cap = x.tl n := by
  rw [Sl.cut, Sl.tl, List.take_of_length_le (by simp; omega)]
theorem Sl.ok.tl {w : World} {x : Sl} (hx : x.ok w) {n : Nat} (h : n ≤ x.len) : (x.tl n).ok w := by
  rw [← tl_cut x n hx.ln]; exact hx.cut h (Nat.le_refl _) hx.le (Nat.le_refl _)
theorem r_slTl {P : Program} {n : Nat} {σ : Nat → Value} {w : World} {ty : TypeId} {pos : String} {aft : Array Edge} {g : Option (Nat × Bool)} {d : Nat} {t : TypeId} {x : Operand} {lo hi mx : Option Operand} {s : Sl} (l : Nat) {lv hv mv : Option Value} (hl0 : s.l.length = s.len) (hx : ev n σ x = s.v) (ht : eltOf P t = some 1)
    (hl : lo.map (ev n σ) = lv) (hh : hi.map (ev n σ) = hv) (hm : mx.map (ev n σ) = mv) (hb : ∀ w, (Instr.sliceBounds true s.len s.cap lv hv mv).run P w = .ok (l, s.len, s.cap) w) :
    (execOp (ev n σ) ⟨some d, .slice t x lo hi mx, ty, pos, aft, g⟩).run P w = .ok (.value (s.tl l).v) w := by
  rw [← tl_cut s l hl0]
  exact r_slS l s.len s.cap hx ht hl hh hm hb
/-- bytes and a struct lie apart. -/
theorem Sl.ok.apartB {x : Sl} {w : World} (hx : x.ok w) {b : Nat} {C : List Value} {T : TypeId} (hb : w.heap[b]? = some (.cells C.toArray T (0, 0))) (hC : ∀ v ∈ C, ∀ u : UInt8, v ≠ V8 u) : x.l ≠ [] → Apart x.a [b] := by
  intro hne y hy
  rcases hx.rd with h | ⟨b', o, C', T', fr, ha, hh, hc⟩
  · exact absurd (by simpa using h) hne
  · rw [ha] at hy
    cases hy
    simp only [List.mem_singleton]
    intro e
    subst e
    rw [hh] at hb
    cases hb
    obtain ⟨u, r, hl⟩ := List.exists_cons_of_ne_nil hne
    have h0 := hc 0 (V8 u) (by rw [hl]; rfl)
    have hm : V8 u ∈ C := by
      have := List.mem_of_getElem? (by simpa using h0 : C[o + 0]? = some (V8 u))
      exact this
    exact hC _ hm u rfl
theorem tl_zero (x : Sl) : x.tl 0 = x := by
  rw [Sl.tl, sa_zero]; rfl
def numV (n : Nat) (l : List UInt8) : UInt64 := if n ≤ l.length then num l 0 n else 0
def nxl (n : Nat) (l : List UInt8) : List UInt8 := if n ≤ l.length then l.drop n else l
def short (n : Nat) (l : List UInt8) : Bool := decide (l.length < n)
def Sl.nx (x : Sl) (n : Nat) : Sl := if n ≤ x.l.length then x.tl n else x
theorem nx_l (x : Sl) (n : Nat) : (x.nx n).l = nxl n x.l := by unfold Sl.nx nxl; split <;> rfl
theorem Sl.ok.nx {w : World} {x : Sl} (hx : x.ok w) (n : Nat) : (x.nx n).ok w := by
  unfold Sl.nx
  split
  · exact hx.tl (by rw [← hx.ln]; assumption)
  · exact hx
theorem numberB_ret (w0 : World) (b : Nat) (x : Sl) (bad : Bool) (n : Nat) (hx : x.ok w0) (hb : w0.heap[b]? = some (.cells [x.v, .bool bad].toArray 125 (0, 0))) (h1 : 1 ≤ n) (h8 : n ≤ 8) :
    Ret Tryz.prog 74 [.pointer (some ⟨b, 0, none⟩), VI (n : Int)] w0 fun v w' => v = V64 (numV n x.l) ∧ Hp w0 w' [b] [.blk b [(x.nx n).v, .bool (bad || short n x.l)] 125] := by
  refine ret_mk Tryz.func74 rfl Tryz.ntmps74 (by simp) ?_
  have H := Hp.start w0 (.blk b [x.v, .bool bad] 125) b hb rfl
  have hxl := hx.ln
  have hxm := hx.mx
  have hxe := hx.le
  have hap : x.l ≠ [] → Apart x.a [b] := hx.apartB hb (fun v hv u e => by subst e; simp [Sl.v] at hv)
  repeat refine c_seq ?_
  refine c_region ?_; refine l_op (o_val (r_asV (c64 0 (by decide))) ?_); first | refine l_end ?_ | refine l_nil ?_
  repeat refine c_seq ?_
  refine c_region ?_; refine l_op (o_val r_mv ?_); refine l_op (o_val (r_nilc rfl) ?_); refine l_op (o_val (r_fa rfl fo125_0) ?_); refine l_op (o_val (r_ld (v := x.v) H (i := 0) rfl rfl ct24 rfl) ?_); refine l_op (o_val r_mv ?_)
  by_cases hc1 : 0 + n ≤ x.len
  ·
   refine l_op (o_callR Tryz.func115 rfl rfl rfl (at_ok _ x (hx.up H hap) 0 n (by omega) (by omega) (by omega) (by (try dsimp only); omega)) ?_); rintro _ w ⟨rfl, Hc⟩
   replace H : Hp _ w _ ([.blk b ([x.v, .bool bad]) 125]) := H.call Hc
   clear Hc
   refine l_op (o_val r_mv ?_); refine l_op (o_val (r_ext rfl rfl) ?_); refine l_op (o_val (r_ext rfl rfl) ?_); refine l_op (o_val r_as ?_); refine l_op (o_val r_as ?_); first | refine l_end ?_ | refine l_nil ?_
   repeat refine c_seq ?_
   refine c_region ?_; refine l_op (o_val r_mv ?_); refine l_op (o_val (r_bin (a := 0) (b := 0) rfl rfl (fun _ => b_neqB false (decide_eq_false (by decide)))) ?_); first | refine l_end ?_ | refine l_nil ?_
   repeat refine c_seq ?_
   refine c_no rfl ?_; refine c_skip ?_; repeat refine c_seq ?_
   refine c_region ?_; refine l_op (o_val r_mv ?_); refine l_op (o_val r_mv ?_); refine l_op (o_val (r_nilc rfl) ?_); refine l_op (o_val (r_fa rfl fo125_0) ?_); refine l_op (o_val (r_ld (v := x.v) H (i := 0) rfl rfl ct24 rfl) ?_); refine l_op (o_val r_mv ?_); refine l_op (o_val (r_slTl (s := x) n (lv := some (VI (n : Int))) hxl rfl el24 rfl rfl rfl (fun w => by exact sbl n (by omega) (by omega) w)) ?_); refine l_op (o_val (r_nilc rfl) ?_); refine l_op (o_val (r_fa rfl fo125_0) ?_); refine l_op (o_st (v := (x.tl n).v) H (i := 0) rfl rfl rfl cs24 rfl (by simp only [List.length_cons, List.length_nil]; omega) (fun w H => ?_)); replace H : Hp _ w _ ([.blk b ([(x.tl n).v, .bool bad]) 125]) := H
   first | refine l_end ?_ | refine l_nil ?_
   repeat refine c_seq ?_
   refine c_region ?_; refine l_op (o_val r_mv ?_); refine l_op (o_val r_as ?_); first | refine l_end ?_ | refine l_nil ?_
   refine c_ret ?_; try dsimp only [Exit.then, Exit.inBlock]
   refine e_ret1 (v := V64 (num (x.l) 0 n)) Tryz.results74 rfl ?_
   refine ⟨_, rfl, ?_⟩
   refine ⟨?_, ?_⟩
   · rw [numV, if_pos (by omega)]
   · rw [Sl.nx, if_pos (by omega), short, decide_eq_false (by omega), Bool.or_false]; exact H
  ·
   refine l_op (o_callR Tryz.func115 rfl rfl rfl (at_short _ x (hx.up H hap) 0 n (by omega) (by omega) (by omega) (by (try dsimp only); omega)) ?_); rintro _ w ⟨rfl, Hc⟩
   replace H : Hp _ w _ ([.blk b ([x.v, .bool bad]) 125]) := H.call Hc
   clear Hc
   refine l_op (o_val r_mv ?_); refine l_op (o_val (r_ext rfl rfl) ?_); refine l_op (o_val (r_ext rfl rfl) ?_); refine l_op (o_val r_as ?_); refine l_op (o_val r_as ?_); first | refine l_end ?_ | refine l_nil ?_
   repeat refine c_seq ?_
   refine c_region ?_; refine l_op (o_val r_mv ?_); refine l_op (o_val (r_bin (a := 3) (b := 0) rfl rfl (fun _ => b_neqB true (decide_eq_true (by decide)))) ?_); first | refine l_end ?_ | refine l_nil ?_
   repeat refine c_seq ?_
   refine c_yes rfl ?_; repeat refine c_seq ?_
   refine c_region ?_; refine l_op (o_val r_mv ?_); refine l_op (o_val (r_nilc rfl) ?_); refine l_op (o_val (r_fa rfl fo125_1) ?_); refine l_op (o_st (v := .bool true) H (i := 0) rfl rfl rfl cs4 rfl (by simp only [List.length_cons, List.length_nil]; omega) (fun w H => ?_)); replace H : Hp _ w _ ([.blk b ([x.v, .bool true]) 125]) := H
   first | refine l_end ?_ | refine l_nil ?_
   repeat refine c_seq ?_
   refine c_region ?_; refine l_op (o_val (r_asV (c64 0 (by decide))) ?_); first | refine l_end ?_ | refine l_nil ?_
   refine c_ret ?_; try dsimp only [Exit.then, Exit.inBlock]
   refine e_ret1 (v := V64 (0 : UInt64)) Tryz.results74 rfl ?_
   refine ⟨_, rfl, ?_⟩
   refine ⟨?_, ?_⟩
   · rw [numV, if_neg (by omega)]
   · rw [Sl.nx, if_neg (by omega), short, decide_eq_true (by omega), Bool.or_true]; exact H
theorem number_ret {w0 w : World} {S : List Nat} {L : List Ch} {i b : Nat} {x : Sl} {bad : Bool} (H : Hp w0 w S L) (hi : L[i]? = some (.blk b [x.v, .bool bad] 125)) (hx : x.ok w) (n : Nat) (h1 : 1 ≤ n) (h8 : n ≤ 8) :
    Ret Tryz.prog 74 [.pointer (some ⟨b, 0, none⟩), VI (n : Int)] w fun v w' => v = V64 (numV n x.l) ∧ Hp w0 w' S (L.set i (.blk b [(x.nx n).v, .bool (bad || short n x.l)] 125)) := by
  refine (numberB_ret w b x bad n hx (H.blk hi) h1 h8).mono fun v w' ⟨hv, Hc⟩ => ⟨hv, ?_⟩
  have := H.callAt hi rfl rfl Hc
  rwa [List.append_nil] at this
/-- what text hands back. -/
def TxtRd (l : List UInt8) (bad : Bool) (t l' : List UInt8) (bad' : Bool) : Prop := (bad' = false → bad = false ∧ l = cnt t.length ++ t ++ l') ∧ (∀ c r, l = c :: r → c.toNat < 128 → c.toNat ≤ r.length → bad' = bad ∧ t = r.take c.toNat ∧ l' = r.drop c.toNat) ∧ t.length ≤ 65536
theorem txtRd_ok {l t : List UInt8} {k : Nat} {bad : Bool} (h : TxtOut l t k 0) : TxtRd l bad t (l.drop k) bad := by
  obtain ⟨h1, h2, h3⟩ := h.1 rfl
  refine ⟨fun hb => ⟨hb, by rw [← h3, List.take_append_drop]⟩, fun c r hl hc hcr => ?_, h1⟩
  obtain ⟨_, h4, h5⟩ := h.2 c r hl hc hcr
  refine ⟨rfl, h5, ?_⟩
  rw [h4, hl, Nat.add_comm, List.drop_succ_cons]
theorem txtRd_bad {l t : List UInt8} {k : Nat} {e : Int} {bad : Bool} (h : TxtOut l t k e) (he : ¬ e = 0) : TxtRd l bad [] (l.drop 0) true :=
  ⟨fun h => (by cases h), fun c r hl hc hcr => absurd (h.2 c r hl hc hcr).1 he, Nat.zero_le _⟩
theorem textB_ret (w0 : World) (b : Nat) (x : Sl) (bad : Bool) (hx : x.ok w0) (hm : x.len ≤ 1048576) (hb : w0.heap[b]? = some (.cells [x.v, .bool bad].toArray 125 (0, 0))) :
    Ret Tryz.prog 75 [.pointer (some ⟨b, 0, none⟩)] w0 fun v w' => ∃ (t : List UInt8) (k : Nat) (bad' : Bool), v = .string ⟨t.toArray⟩ ∧ k ≤ x.len ∧ TxtRd x.l bad t (x.l.drop k) bad' ∧ Hp w0 w' [b] [.blk b [(x.tl k).v, .bool bad'] 125] := by
  refine ret_mk Tryz.func75 rfl Tryz.ntmps75 (by simp) ?_
  have H := Hp.start w0 (.blk b [x.v, .bool bad] 125) b hb rfl
  have hxl := hx.ln
  have hxm := hx.mx
  have hxe := hx.le
  have hap : x.l ≠ [] → Apart x.a [b] := hx.apartB hb (fun v hv u e => by subst e; simp [Sl.v] at hv)
  repeat refine c_seq ?_
  refine c_region ?_; refine l_op (o_val r_as ?_); first | refine l_end ?_ | refine l_nil ?_
  repeat refine c_seq ?_
  refine c_region ?_; refine l_op (o_val r_mv ?_); refine l_op (o_val (r_nilc rfl) ?_); refine l_op (o_val (r_fa rfl fo125_0) ?_); refine l_op (o_val (r_ld (v := x.v) H (i := 0) rfl rfl ct24 rfl) ?_); refine l_op (o_callR Tryz.func116 rfl rfl rfl (takeText_ret _ x (hx.up H hap) (by (try simp only [Sl.cut]); omega)) ?_); rintro _ w ⟨a1, c2, t3, k4, e5, rfl, hto6, Hc⟩
  replace H : Hp _ w _ ([.blk b ([x.v, .bool bad]) 125, .own a1 t3.length c2 ((t3).map V8) 5 1]) := H.call Hc
  clear Hc
  refine l_op (o_val r_mv ?_); refine l_op (o_val (r_ext rfl rfl) ?_); refine l_op (o_val (r_ext rfl rfl) ?_); refine l_op (o_val (r_ext rfl rfl) ?_); refine l_op (o_val r_as ?_); refine l_op (o_val r_as ?_); refine l_op (o_val r_as ?_); first | refine l_end ?_ | refine l_nil ?_
  repeat refine c_seq ?_
  refine c_region ?_; refine l_op (o_val r_mv ?_); refine l_op (o_val (r_bin (a := e5) (b := 0) rfl rfl (fun _ => b_neq)) ?_); first | refine l_end ?_ | refine l_nil ?_
  by_cases hc7 : e5 ≠ 0
  ·
   repeat refine c_seq ?_
   refine c_yes (by exact congrArg Value.bool (decide_eq_true hc7)) ?_; repeat refine c_seq ?_
   refine c_region ?_; refine l_op (o_val r_mv ?_); refine l_op (o_val (r_nilc rfl) ?_); refine l_op (o_val (r_fa rfl fo125_1) ?_); refine l_op (o_st (v := .bool true) H (i := 0) rfl rfl rfl cs4 rfl (by simp only [List.length_cons, List.length_nil]; omega) (fun w H => ?_)); replace H : Hp _ w _ ([.blk b ([x.v, .bool true]) 125, _]) := H
   first | refine l_end ?_ | refine l_nil ?_
   repeat refine c_seq ?_
   refine c_region ?_; refine l_op (o_val r_as ?_); first | refine l_end ?_ | refine l_nil ?_
   refine c_ret ?_; try dsimp only [Exit.then, Exit.inBlock]
   refine e_ret1 (v := .string ⟨(([] : List UInt8)).toArray⟩) Tryz.results75 rfl ?_
   refine ⟨_, rfl, ?_⟩
   refine ⟨[], 0, true, rfl, Nat.zero_le _, txtRd_bad hto6 (by omega), ?_⟩
   rw [tl_zero]
   exact H.sub (.cons_cons _ (List.nil_sublist _))
  ·
   repeat refine c_seq ?_
   refine c_no (by exact congrArg Value.bool (decide_eq_false hc7)) ?_; refine c_skip ?_; have he0 : e5 = 0 := by omega
   subst he0
   have hkl := (hto6.1 rfl).2.1
   repeat refine c_seq ?_
   refine c_region ?_; refine l_op (o_val r_mv ?_); refine l_op (o_val r_mv ?_); refine l_op (o_val (r_nilc rfl) ?_); refine l_op (o_val (r_fa rfl fo125_0) ?_); refine l_op (o_val (r_ld (v := x.v) H (i := 0) rfl rfl ct24 rfl) ?_); refine l_op (o_val r_mv ?_); refine l_op (o_val (r_slTl (s := x) k4 (lv := some (VI (k4 : Int))) hxl rfl el24 rfl rfl rfl (fun w => by exact sbl k4 (by omega) (by omega) w)) ?_); refine l_op (o_val (r_nilc rfl) ?_); refine l_op (o_val (r_fa rfl fo125_0) ?_); refine l_op (o_st (v := (x.tl k4).v) H (i := 0) rfl rfl rfl cs24 rfl (by simp only [List.length_cons, List.length_nil]; omega) (fun w H => ?_)); replace H : Hp _ w _ ([.blk b ([(x.tl k4).v, .bool bad]) 125, _]) := H
   first | refine l_end ?_ | refine l_nil ?_
   repeat refine c_seq ?_
   refine c_region ?_; refine l_op (o_val r_mv ?_); refine l_op (o_val (r_b2S (s := ⟨hd a1, t3.length, c2, t3⟩) Tryz.underlying24 Tryz.underlying5 Tryz.underlying9 rfl (H.slOwn (i := 1) rfl)) ?_); refine l_op (o_val r_as ?_); first | refine l_end ?_ | refine l_nil ?_
   refine c_ret ?_; try dsimp only [Exit.then, Exit.inBlock]
   refine e_ret1 (v := .string ⟨(t3).toArray⟩) Tryz.results75 rfl ?_
   refine ⟨_, rfl, ?_⟩
   exact ⟨t3, k4, bad, rfl, by omega, txtRd_ok hto6, H.sub (.cons_cons _ (List.nil_sublist _))⟩
theorem textR_ret {w0 w : World} {S : List Nat} {L : List Ch} {i b : Nat} {x : Sl} {bad : Bool} (H : Hp w0 w S L) (hi : L[i]? = some (.blk b [x.v, .bool bad] 125)) (hx : x.ok w) (hm : x.len ≤ 1048576) :
    Ret Tryz.prog 75 [.pointer (some ⟨b, 0, none⟩)] w fun v w' => ∃ (t : List UInt8) (k : Nat) (bad' : Bool), v = .string ⟨t.toArray⟩ ∧ k ≤ x.len ∧ TxtRd x.l bad t (x.l.drop k) bad' ∧ Hp w0 w' S (L.set i (.blk b [(x.tl k).v, .bool bad'] 125)) := by
  refine (textB_ret w b x bad hx hm (H.blk hi)).mono fun v w' ⟨t, k, bad', hv, ht, hy, Hc⟩ => ⟨t, k, bad', hv, ht, hy, ?_⟩
  have := H.callAt hi rfl rfl Hc
  rwa [List.append_nil] at this
theorem nx_len (x : Sl) (n : Nat) : (x.nx n).len ≤ x.len := by
  unfold Sl.nx; split
  · simp only [Sl.tl]; omega
  · exact Nat.le_refl _
theorem short_iff (n : Nat) (l : List UInt8) : short n l = false ↔ n ≤ l.length := by simp [short]
theorem num8_app (u : UInt64) (r : List UInt8) : numV 8 (be u.toNat 8 ++ r) = u ∧ nxl 8 (be u.toNat 8 ++ r) = r ∧ short 8 (be u.toNat 8 ++ r) = false := by
  have h : 8 ≤ (be u.toNat 8 ++ r).length := by simp [be_len]
  exact ⟨by rw [numV, if_pos h, num_be], by rw [nxl, if_pos h, List.drop_left' (be_len _ _)], (short_iff _ _).2 h⟩
theorem num1_app (c : UInt8) (r : List UInt8) : numV 1 (c :: r) = c.toUInt64 ∧ nxl 1 (c :: r) = r ∧ short 1 (c :: r) = false := by
  have h : 1 ≤ (c :: r).length := by simp
  exact ⟨by rw [numV, if_pos h, num_one], by rw [nxl, if_pos h]; rfl, (short_iff _ _).2 h⟩
theorem num8_of (l : List UInt8) (h : short 8 l = false) : l = be (numV 8 l).toNat 8 ++ nxl 8 l := by
  have h8 := (short_iff _ _).1 h
  rw [numV, if_pos h8, nxl, if_pos h8, num_cut l 0 (by omega), List.drop_zero, List.take_append_drop]
theorem num1_of (l : List UInt8) (h : short 1 l = false) : l = (numV 1 l).toUInt8 :: nxl 1 l := by
  have h1 := (short_iff _ _).1 h
  match l, h1 with
  | c :: r, _ =>
    rw [(num1_app c r).1, (num1_app c r).2.1]
    congr 1; simp
/-- k caveats, read one behind the other. -/
def cavRun (l : List UInt8) (b : Bool) : Nat → List Cav × List UInt8 × Bool
  | 0 => ([], l, b)
  | i + 1 => ((cavRun l b i).1 ++ [((numV 1 (cavRun l b i).2.1).toUInt8, zagU (numV 8 (nxl 1 (cavRun l b i).2.1)))], nxl 8 (nxl 1 (cavRun l b i).2.1), ((cavRun l b i).2.2 || short 1 (cavRun l b i).2.1) || short 8 (nxl 1 (cavRun l b i).2.1))
theorem cavRun_next {l : List UInt8} {b : Bool} {i : Nat} {cs : List Cav} {y : Sl} {bd : Bool} (h : cavRun l b i = (cs, y.l, bd)) :
    cavRun l b (i + 1) = (cs ++ [((numV 1 y.l).toUInt8, zagU (numV 8 (y.nx 1).l))], ((y.nx 1).nx 8).l, (bd || short 1 y.l) || short 8 (y.nx 1).l) := by
  rw [cavRun, h]; simp only [nx_l]
theorem cavRun_of (cs : List Cav) (r : List UInt8) (hf : ∀ c ∈ cs, i64in c.2) : ∀ i, i ≤ cs.length → cavRun (cavsB cs ++ r) false i = (cs.take i, cavsB (cs.drop i) ++ r, false) := by
  intro i
  induction i with
  | zero => intro _; simp [cavRun]
  | succ i ih =>
    intro hi
    have hd : cs.drop i = cs[i] :: cs.drop (i + 1) := List.drop_eq_getElem_cons (by omega)
    have hb : cavsB (cs.drop i) ++ r = cs[i].1 :: (be (zigU cs[i].2).toNat 8 ++ (cavsB (cs.drop (i + 1)) ++ r)) := by
      rw [hd, cavsB, List.flatMap_cons, ← cavsB, cavB, timeB]; simp
    obtain ⟨a1, a2, a3⟩ := num1_app cs[i].1 (be (zigU cs[i].2).toNat 8 ++ (cavsB (cs.drop (i + 1)) ++ r))
    obtain ⟨b1, b2, b3⟩ := num8_app (zigU cs[i].2) (cavsB (cs.drop (i + 1)) ++ r)
    have hi64 := hf cs[i] (List.getElem_mem _)
    have ec : cs[i].1.toUInt64.toUInt8 = cs[i].1 := by simp
    rw [cavRun, ih (by omega)]
    simp only [hb, a1, a2, a3, b1, b2, b3, ec, Bool.or_false, zag_zig _ hi64.1 hi64.2]
    rw [List.take_add_one, List.getElem?_eq_getElem (by omega)]
    rfl
theorem cavRun_sound (l : List UInt8) (b : Bool) : ∀ (i : Nat), (cavRun l b i).2.2 = false → b = false ∧ l = cavsB (cavRun l b i).1 ++ (cavRun l b i).2.1 ∧ (cavRun l b i).1.length = i ∧ ∀ c ∈ (cavRun l b i).1, i64in c.2 := by
  intro i
  induction i with
  | zero => intro h; exact ⟨h, rfl, rfl, fun c hc => by cases hc⟩
  | succ i ih =>
    intro h
    rw [cavRun] at h ⊢
    simp only [Bool.or_eq_false_iff] at h
    obtain ⟨h1, h2, h3, h4⟩ := ih h.1.1
    refine ⟨h1, ?_, by simp [h3], fun c hc => ?_⟩
    · have e1 := num1_of _ h.1.2
      have e8 := num8_of _ h.2
      have eb : cavB ((numV 1 (cavRun l b i).2.1).toUInt8, zagU (numV 8 (nxl 1 (cavRun l b i).2.1))) = (numV 1 (cavRun l b i).2.1).toUInt8 :: be (numV 8 (nxl 1 (cavRun l b i).2.1)).toNat 8 := by
        rw [cavB, timeB, zig_zag]; rfl
      simp only [cavsB, List.flatMap_append, List.flatMap_cons, List.flatMap_nil, List.append_nil, eb]
      rw [← cavsB, List.append_assoc, List.cons_append, ← e8, ← e1, ← h2]
    · simp only [List.mem_append, List.mem_singleton] at hc
      rcases hc with hc | rfl
      · exact h4 c hc
      · exact ⟨zagU_lo _, zagU_hi _⟩
/-- what the head's reading comes to. -/
def HdRd (l : List UInt8) (t l3 : List UInt8) (bd : Bool) : Prop := TxtRd (nxl 8 (nxl 1 l)) ((false || short 1 l) || short 8 (nxl 1 l)) t l3 bd
def hdBad (l3 : List UInt8) (bd : Bool) : Bool := (((bd || short 1 l3) || short 8 (nxl 1 l3)) || short 8 (nxl 8 (nxl 1 l3))) || short 1 (nxl 8 (nxl 8 (nxl 1 l3)))
theorem hd_complete {l t l3 : List UInt8} {bd : Bool} {T : TV} (hT : parseT l = some T) (h : HdRd l t l3 bd) :
    hdBad l3 bd = false ∧ numV 1 l = 1 ∧ numV 8 (nxl 1 l) = T.serial ∧ t = T.tenant ∧ (numV 1 l3).toUInt8 = T.rights ∧ zagU (numV 8 (nxl 1 l3)) = T.from_ ∧ zagU (numV 8 (nxl 8 (nxl 1 l3))) = T.until_ ∧ (numV 1 (nxl 8 (nxl 8 (nxl 1 l3)))).toNat = T.cs.length ∧ nxl 1 (nxl 8 (nxl 8 (nxl 1 l3))) = cavsB T.cs ++ T.tag := by
  obtain ⟨hm, hf, hb⟩ := (parse_iff l T).1 hT
  have hn := may_ten T hm
  have hk := may_cs T hm
  have e0 : l = 1 :: (be T.serial.toNat 8 ++ (UInt8.ofNat T.tenant.length :: (T.tenant ++ (T.rights :: (be (zigU T.from_).toNat 8 ++ (be (zigU T.until_).toNat 8 ++ (UInt8.ofNat T.cs.length :: (cavsB T.cs ++ T.tag)))))))) := by
    rw [← hb]; simp [TV.bytes, headB, timeB, cnt_one _ (show T.tenant.length ≤ 127 by omega)]
  obtain ⟨a1, a2, a3⟩ := num1_app 1 (be T.serial.toNat 8 ++ (UInt8.ofNat T.tenant.length :: (T.tenant ++ (T.rights :: (be (zigU T.from_).toNat 8 ++ (be (zigU T.until_).toNat 8 ++ (UInt8.ofNat T.cs.length :: (cavsB T.cs ++ T.tag))))))))
  obtain ⟨b1, b2, b3⟩ := num8_app T.serial (UInt8.ofNat T.tenant.length :: (T.tenant ++ (T.rights :: (be (zigU T.from_).toNat 8 ++ (be (zigU T.until_).toNat 8 ++ (UInt8.ofNat T.cs.length :: (cavsB T.cs ++ T.tag)))))))
  rw [← e0] at a1 a2 a3
  unfold HdRd at h
  rw [a2, a3, b2, b3] at h
  have hl : (UInt8.ofNat T.tenant.length).toNat = T.tenant.length := by rw [UInt8.toNat_ofNat']; omega
  obtain ⟨c1, c2, c3⟩ := h.2.1 _ _ rfl (by omega) (by rw [hl]; simp)
  rw [hl, List.take_left' rfl] at c2
  rw [hl, List.drop_left' rfl] at c3
  obtain ⟨d1, d2, d3⟩ := num1_app T.rights (be (zigU T.from_).toNat 8 ++ (be (zigU T.until_).toNat 8 ++ (UInt8.ofNat T.cs.length :: (cavsB T.cs ++ T.tag))))
  obtain ⟨f1, f2, f3⟩ := num8_app (zigU T.from_) (be (zigU T.until_).toNat 8 ++ (UInt8.ofNat T.cs.length :: (cavsB T.cs ++ T.tag)))
  obtain ⟨g1, g2, g3⟩ := num8_app (zigU T.until_) (UInt8.ofNat T.cs.length :: (cavsB T.cs ++ T.tag))
  obtain ⟨k1, k2, k3⟩ := num1_app (UInt8.ofNat T.cs.length) (cavsB T.cs ++ T.tag)
  have ek : (UInt8.ofNat T.cs.length).toUInt64.toNat = T.cs.length := by rw [UInt8.toNat_toUInt64, UInt8.toNat_ofNat']; omega
  unfold hdBad
  rw [c3, d1, d2, d3, f1, f2, f3, g1, g2, g3, k1, k2, k3, a1, a2, b1, c1, ek, zag_zig _ hf.f.1 hf.f.2, zag_zig _ hf.u.1 hf.u.2]
  exact ⟨rfl, rfl, rfl, c2, by simp, rfl, rfl, rfl, rfl⟩
theorem take_sound {l t l3 : List UInt8} {bd : Bool} {k : Nat} (h : HdRd l t l3 bd) (h1 : (numV 1 l).toNat = 1) (hk : (numV 1 (nxl 8 (nxl 8 (nxl 1 l3)))).toNat = k) (hbad : (cavRun (nxl 1 (nxl 8 (nxl 8 (nxl 1 l3)))) (hdBad l3 bd) k).2.2 = false) (h32 : (cavRun (nxl 1 (nxl 8 (nxl 8 (nxl 1 l3)))) (hdBad l3 bd) k).2.1.length = 32)
    (hm : (⟨numV 8 (nxl 1 l), t, (numV 1 l3).toUInt8, zagU (numV 8 (nxl 1 l3)), zagU (numV 8 (nxl 8 (nxl 1 l3))), (cavRun (nxl 1 (nxl 8 (nxl 8 (nxl 1 l3)))) (hdBad l3 bd) k).1, (cavRun (nxl 1 (nxl 8 (nxl 8 (nxl 1 l3)))) (hdBad l3 bd) k).2.1⟩ : TV).may = true) :
    parseT l = some ⟨numV 8 (nxl 1 l), t, (numV 1 l3).toUInt8, zagU (numV 8 (nxl 1 l3)), zagU (numV 8 (nxl 8 (nxl 1 l3))), (cavRun (nxl 1 (nxl 8 (nxl 8 (nxl 1 l3)))) (hdBad l3 bd) k).1, (cavRun (nxl 1 (nxl 8 (nxl 8 (nxl 1 l3)))) (hdBad l3 bd) k).2.1⟩ := by
  obtain ⟨q1, q2, q3, q4⟩ := cavRun_sound _ _ k hbad
  unfold hdBad at q1
  simp only [Bool.or_eq_false_iff] at q1
  obtain ⟨⟨⟨⟨s0, s1⟩, s2⟩, s3⟩, s4⟩ := q1
  obtain ⟨s5, s6⟩ := h.1 s0
  simp only [Bool.or_eq_false_iff] at s5
  refine (parse_iff _ _).2 ⟨hm, ⟨⟨zagU_lo _, zagU_hi _⟩, ⟨zagU_lo _, zagU_hi _⟩, q4, h32⟩, ?_⟩; have c0 : (numV 1 l).toUInt8 = 1 := by apply UInt8.toNat_inj.1; rw [UInt64.toNat_toUInt8, h1]; rfl
  have ck : UInt8.ofNat k = (numV 1 (nxl 8 (nxl 8 (nxl 1 l3)))).toUInt8 := by apply UInt8.toNat_inj.1; rw [UInt64.toNat_toUInt8, UInt8.toNat_ofNat', hk]
  have e := num1_of l s5.1.2
  rw [c0] at e
  have e1 := num8_of _ s5.2
  have e3 := num1_of _ s1
  have e4 := num8_of _ s2
  have e5 := num8_of _ s3
  have e6 := num1_of _ s4
  simp only [TV.bytes, headB, timeB, zig_zag, q3, ck]
  conv => rhs; rw [e, e1, s6, e3, e4, e5, e6, q2]
  simp
end Go.Proofs.YtiepekfcegdkoaaGreatDoor
namespace Go.Proofs.YtiepekfcegdkoaaGreatDoor
open Go
set_option maxRecDepth 100000
theorem may_tagless (T : TV) (cs : Gl Cav) (h : T.may = true) (hl : cs.l = T.cs) (hn : cs.l.length = cs.len) (tag : List UInt8) : mayT ⟨T.serial, T.tenant, T.rights, T.from_, T.until_, cs, tag⟩ = true := by
  rw [mayT_tv _ hn, TV.may]; rw [TV.may] at h
  simp only [Tok.tv, hl]; exact h
theorem capTake_ret (w0 : World) (s : Sl) (hs : s.ok w0) (hm : s.len ≤ 1048576) :
    Ret Tryz.prog 41 [s.v] w0 fun v w' => (parseT s.l = none ∧ v = .tuple #[.agg (([V64 0, .string ⟨([] : List UInt8).toArray⟩, V8 0, VI 0, VI 0, .slice none 0 0] : List Value) ++ (List.replicate 32 (0 : UInt8)).map V8).toArray, VI 4] ∧ Hp w0 w' [] []) ∨ ∃ (T : TV) (a : Option Nat) (k : Nat), parseT s.l = some T ∧ v = .tuple #[.agg ([V64 T.serial, .string ⟨T.tenant.toArray⟩, V8 T.rights, VI T.from_, VI T.until_, .slice (hd a) T.cs.length k] ++ T.tag.map V8).toArray, VI 0] ∧ Hp w0 w' [] [.own a T.cs.length k (T.cs.flatMap cavE) 63 2] := by
  refine ret_mk Tryz.func41 rfl Tryz.ntmps41 (by simp) ?_
  have H := Hp.refl w0 []
  have hsl := hs.ln
  have hse := hs.le
  repeat refine c_seq ?_
  refine c_region ?_; refine l_op (o_alloc H zc46 (fun b1 w H hb1 => ?_)); replace H : Hp _ w _ ([.blk b1 ([V64 (0 : UInt64), .string ⟨(([] : List UInt8)).toArray⟩, V8 (0 : UInt8), VI 0, VI 0, .slice none 0 0] ++ (List.replicate 32 (0 : UInt8)).map V8) 46]) := H
  refine l_op (o_val r_as ?_); first | refine l_end ?_ | refine l_nil ?_
  repeat refine c_seq ?_
  refine c_region ?_; refine l_op (o_val r_mv ?_); refine l_op (o_val (r_bld' (cells := ([s.v, .bool false]).toArray) (pv := [(0, s.v)]) bd125 rfl rfl) ?_); refine l_op (o_box (v := .agg ([s.v, .bool false]).toArray) H rfl (fun b2 w H hb2 => ?_)); replace H : Hp _ w _ ([_, .blk b2 ([s.v, .bool false]) 125]) := H
  refine l_op (o_val r_as ?_); first | refine l_end ?_ | refine l_nil ?_
  repeat refine c_seq ?_
  refine c_region ?_; refine l_op (o_val r_mv ?_); refine l_op (o_callR Tryz.func74 rfl rfl rfl (number_ret (x := s) H (i := 1) rfl (hs.up H (fun _ => apart_nil _)) 1 (by omega) (by omega)) ?_); rintro _ w ⟨rfl, Hc⟩
  clear H
  have H := Hc; clear Hc
  replace H : Hp _ w _ ([_, .blk b2 ([(s.nx 1).v, .bool (false || short 1 s.l)]) 125]) := H
  refine l_op (o_val r_as ?_); first | refine l_end ?_ | refine l_nil ?_
  repeat refine c_seq ?_
  refine c_region ?_; refine l_op (o_val r_mv ?_); refine l_op (o_callR Tryz.func74 rfl rfl rfl (number_ret (x := (s.nx 1)) H (i := 1) rfl ((hs.up H (fun _ => apart_nil _)).nx 1) 8 (by omega) (by omega)) ?_); rintro _ w ⟨rfl, Hc⟩
  clear H
  have H := Hc; clear Hc
  replace H : Hp _ w _ ([_, .blk b2 ([((s.nx 1).nx 8).v, .bool ((false || short 1 s.l) || short 8 (s.nx 1).l)]) 125]) := H
  refine l_op (o_val r_mv ?_); refine l_op (o_callR Tryz.func75 rfl rfl rfl (textR_ret (x := ((s.nx 1).nx 8)) H (i := 1) rfl (((hs.up H (fun _ => apart_nil _)).nx 1).nx 8) (by have := nx_len (s.nx 1) 8; have := nx_len s 1; omega)) ?_); rintro _ w ⟨t3, k4, bd5, rfl, hkl6, htx7, Hc⟩
  clear H
  have H := Hc; clear Hc
  replace H : Hp _ w _ ([_, .blk b2 ([(((s.nx 1).nx 8).tl k4).v, .bool bd5]) 125]) := H
  refine l_op (o_val r_mv ?_); refine l_op (o_callR Tryz.func74 rfl rfl rfl (number_ret (x := (((s.nx 1).nx 8).tl k4)) H (i := 1) rfl ((((hs.up H (fun _ => apart_nil _)).nx 1).nx 8).tl (n := k4) hkl6) 1 (by omega) (by omega)) ?_); rintro _ w ⟨rfl, Hc⟩
  clear H
  have H := Hc; clear Hc
  replace H : Hp _ w _ ([_, .blk b2 ([((((s.nx 1).nx 8).tl k4).nx 1).v, .bool (bd5 || short 1 (((s.nx 1).nx 8).tl k4).l)]) 125]) := H
  refine l_op (o_val (r_conv Tryz.underlying33 Tryz.underlying43 rfl (w_u8_64 _)) ?_); refine l_op (o_val (r_bld' (cells := ([V64 (numV 8 (s.nx 1).l), .string ⟨(t3).toArray⟩, V8 ((numV 1 (((s.nx 1).nx 8).tl k4).l).toUInt8), VI 0, VI 0, .slice none 0 0] ++ (List.replicate 32 (0 : UInt8)).map V8).toArray) (pv := [(0, V64 (numV 8 (s.nx 1).l)), (1, .string ⟨(t3).toArray⟩), (2, V8 ((numV 1 (((s.nx 1).nx 8).tl k4).l).toUInt8))]) bd46 rfl rfl) ?_); refine l_op (o_alloc H zc46 (fun b8 w H hb8 => ?_)); replace H : Hp _ w _ ([_, _, .blk b8 ([V64 (0 : UInt64), .string ⟨(([] : List UInt8)).toArray⟩, V8 (0 : UInt8), VI 0, VI 0, .slice none 0 0] ++ (List.replicate 32 (0 : UInt8)).map V8) 46]) := H
  refine l_op (o_stW (C' := [V64 (numV 8 (s.nx 1).l), .string ⟨(t3).toArray⟩, V8 ((numV 1 (((s.nx 1).nx 8).tl k4).l).toUInt8), VI 0, VI 0, .slice none 0 0] ++ (List.replicate 32 (0 : UInt8)).map V8) H (i := 2) rfl rfl rfl cs46 (by simp [Value.oneCell']) (by rw [List.length_append, List.length_map, (show (List.replicate 32 (0 : UInt8)).length = 32 from (List.length_replicate ..))]; rfl) (by rw [List.length_append, List.length_map, (show (List.replicate 32 (0 : UInt8)).length = 32 from (List.length_replicate ..))]; rfl) (fun w H => ?_)); replace H : Hp _ w _ ([_, _, .blk b8 ([V64 (numV 8 (s.nx 1).l), .string ⟨(t3).toArray⟩, V8 ((numV 1 (((s.nx 1).nx 8).tl k4).l).toUInt8), VI 0, VI 0, .slice none 0 0] ++ (List.replicate 32 (0 : UInt8)).map V8) 46]) := H
  first | refine l_end ?_ | refine l_nil ?_
  repeat refine c_seq ?_
  refine c_region ?_; refine l_op (o_val r_mv ?_); refine l_op (o_callR Tryz.func74 rfl rfl rfl (number_ret (x := ((((s.nx 1).nx 8).tl k4).nx 1)) H (i := 1) rfl (((((hs.up H (fun _ => apart_nil _)).nx 1).nx 8).tl (n := k4) hkl6).nx 1) 8 (by omega) (by omega)) ?_); rintro _ w ⟨rfl, Hc⟩
  clear H
  have H := Hc; clear Hc
  replace H : Hp _ w _ ([_, .blk b2 ([(((((s.nx 1).nx 8).tl k4).nx 1).nx 8).v, .bool ((bd5 || short 1 (((s.nx 1).nx 8).tl k4).l) || short 8 ((((s.nx 1).nx 8).tl k4).nx 1).l)]) 125, _]) := H
  refine l_op (o_callR Tryz.func76 rfl rfl rfl (zag_ret _ (numV 8 ((((s.nx 1).nx 8).tl k4).nx 1).l)) ?_); rintro _ w ⟨rfl, Hc⟩
  replace H : Hp _ w _ ([_, _, _]) := H.call Hc
  clear Hc
  refine l_op (o_val r_mv ?_); refine l_op (o_callR Tryz.func74 rfl rfl rfl (number_ret (x := (((((s.nx 1).nx 8).tl k4).nx 1).nx 8)) H (i := 1) rfl ((((((hs.up H (fun _ => apart_nil _)).nx 1).nx 8).tl (n := k4) hkl6).nx 1).nx 8) 8 (by omega) (by omega)) ?_); rintro _ w ⟨rfl, Hc⟩
  clear H
  have H := Hc; clear Hc
  replace H : Hp _ w _ ([_, .blk b2 ([((((((s.nx 1).nx 8).tl k4).nx 1).nx 8).nx 8).v, .bool (((bd5 || short 1 (((s.nx 1).nx 8).tl k4).l) || short 8 ((((s.nx 1).nx 8).tl k4).nx 1).l) || short 8 (((((s.nx 1).nx 8).tl k4).nx 1).nx 8).l)]) 125, _]) := H
  refine l_op (o_callR Tryz.func76 rfl rfl rfl (zag_ret _ (numV 8 (((((s.nx 1).nx 8).tl k4).nx 1).nx 8).l)) ?_); rintro _ w ⟨rfl, Hc⟩
  replace H : Hp _ w _ ([_, _, _]) := H.call Hc
  clear Hc
  refine l_op (o_val (r_fa rfl fo46_3) ?_); refine l_op (o_st (v := VI (zagU (numV 8 ((((s.nx 1).nx 8).tl k4).nx 1).l))) H (i := 2) rfl rfl rfl cs2 rfl (by simp only [List.length_append, List.length_cons, List.length_nil]; omega) (fun w H => ?_)); replace H : Hp _ w _ ([_, _, .blk b8 ([V64 (numV 8 (s.nx 1).l), .string ⟨(t3).toArray⟩, V8 ((numV 1 (((s.nx 1).nx 8).tl k4).l).toUInt8), VI (zagU (numV 8 ((((s.nx 1).nx 8).tl k4).nx 1).l)), VI 0, .slice none 0 0] ++ (List.replicate 32 (0 : UInt8)).map V8) 46]) := H
  refine l_op (o_val (r_fa rfl fo46_4) ?_); refine l_op (o_st (v := VI (zagU (numV 8 (((((s.nx 1).nx 8).tl k4).nx 1).nx 8).l))) H (i := 2) rfl rfl rfl cs2 rfl (by simp only [List.length_append, List.length_cons, List.length_nil]; omega) (fun w H => ?_)); replace H : Hp _ w _ ([_, _, .blk b8 ([V64 (numV 8 (s.nx 1).l), .string ⟨(t3).toArray⟩, V8 ((numV 1 (((s.nx 1).nx 8).tl k4).l).toUInt8), VI (zagU (numV 8 ((((s.nx 1).nx 8).tl k4).nx 1).l)), VI (zagU (numV 8 (((((s.nx 1).nx 8).tl k4).nx 1).nx 8).l)), .slice none 0 0] ++ (List.replicate 32 (0 : UInt8)).map V8) 46]) := H
  first | refine l_end ?_ | refine l_nil ?_
  repeat refine c_seq ?_
  refine c_region ?_; refine l_op (o_val r_mv ?_); refine l_op (o_callR Tryz.func74 rfl rfl rfl (number_ret (x := ((((((s.nx 1).nx 8).tl k4).nx 1).nx 8).nx 8)) H (i := 1) rfl (((((((hs.up H (fun _ => apart_nil _)).nx 1).nx 8).tl (n := k4) hkl6).nx 1).nx 8).nx 8) 1 (by omega) (by omega)) ?_); rintro _ w ⟨rfl, Hc⟩
  clear H
  have H := Hc; clear Hc
  replace H : Hp _ w _ ([_, .blk b2 ([(((((((s.nx 1).nx 8).tl k4).nx 1).nx 8).nx 8).nx 1).v, .bool ((((bd5 || short 1 (((s.nx 1).nx 8).tl k4).l) || short 8 ((((s.nx 1).nx 8).tl k4).nx 1).l) || short 8 (((((s.nx 1).nx 8).tl k4).nx 1).nx 8).l) || short 1 ((((((s.nx 1).nx 8).tl k4).nx 1).nx 8).nx 8).l)]) 125, _]) := H
  refine l_op (o_val r_as ?_); first | refine l_end ?_ | refine l_nil ?_
  have htl := htx7.2.2
  have hhd : HdRd s.l t3 (((s.nx 1).nx 8).tl k4).l bd5 := by
    have e : nxl 8 (nxl 1 s.l) = ((s.nx 1).nx 8).l := by simp only [nx_l]
    have e1 : nxl 1 s.l = (s.nx 1).l := by rw [nx_l]
    unfold HdRd; rw [e, e1]; exact htx7
  have hB : ((((bd5 || short 1 (((s.nx 1).nx 8).tl k4).l) || short 8 ((((s.nx 1).nx 8).tl k4).nx 1).l) || short 8 (((((s.nx 1).nx 8).tl k4).nx 1).nx 8).l) || short 1 ((((((s.nx 1).nx 8).tl k4).nx 1).nx 8).nx 8).l) = hdBad (((s.nx 1).nx 8).tl k4).l bd5 := by simp only [hdBad, nx_l]
  have n7 : nxl 8 (nxl 8 (nxl 1 (((s.nx 1).nx 8).tl k4).l)) = ((((((s.nx 1).nx 8).tl k4).nx 1).nx 8).nx 8).l := by simp only [nx_l]
  have n8 : nxl 1 (nxl 8 (nxl 8 (nxl 1 (((s.nx 1).nx 8).tl k4).l))) = (((((((s.nx 1).nx 8).tl k4).nx 1).nx 8).nx 8).nx 1).l := by simp only [nx_l]
  repeat refine c_seq ?_
  refine c_region ?_; refine l_op (o_val r_mv ?_); refine l_op (o_val (r_nilc rfl) ?_); refine l_op (o_val (r_fa rfl fo125_1) ?_); refine l_op (o_val (r_ld (v := .bool ((((bd5 || short 1 (((s.nx 1).nx 8).tl k4).l) || short 8 ((((s.nx 1).nx 8).tl k4).nx 1).l) || short 8 (((((s.nx 1).nx 8).tl k4).nx 1).nx 8).l) || short 1 ((((((s.nx 1).nx 8).tl k4).nx 1).nx 8).nx 8).l)) H (i := 1) rfl rfl ct4 rfl) ?_); refine l_op (o_val r_mv ?_)
  rcases Bool.eq_false_or_eq_true ((((bd5 || short 1 (((s.nx 1).nx 8).tl k4).l) || short 8 ((((s.nx 1).nx 8).tl k4).nx 1).l) || short 8 (((((s.nx 1).nx 8).tl k4).nx 1).nx 8).l) || short 1 ((((((s.nx 1).nx 8).tl k4).nx 1).nx 8).nx 8).l) with hc9 | hc9
  ·
   refine l_no rfl rfl (by exact congrArg Value.bool hc9) rfl ?_; refine l_no rfl rfl (by exact congrArg Value.bool hc9) rfl ?_; refine l_op (o_val (r_pick (b := true) (congrArg Value.bool hc9)) ?_); refine l_op (o_val r_mv ?_); refine l_no rfl rfl rfl rfl ?_; refine l_no rfl rfl rfl rfl ?_; refine l_op (o_val (r_pick rfl) ?_); first | refine l_end ?_ | refine l_nil ?_
   repeat refine c_seq ?_
   refine c_yes rfl ?_; repeat refine c_seq ?_
   refine c_region ?_; refine l_op (o_val (r_bld' (cells := ([V64 (0 : UInt64), .string ⟨(([] : List UInt8)).toArray⟩, V8 (0 : UInt8), VI 0, VI 0, .slice none 0 0] ++ (List.replicate 32 (0 : UInt8)).map V8).toArray) (pv := []) bd46 rfl rfl) ?_); refine l_op (o_stW (C' := [V64 (0 : UInt64), .string ⟨(([] : List UInt8)).toArray⟩, V8 (0 : UInt8), VI 0, VI 0, .slice none 0 0] ++ (List.replicate 32 (0 : UInt8)).map V8) H (i := 0) rfl rfl rfl cs46 (by simp [Value.oneCell']) (by rw [List.length_append, List.length_map, (show (List.replicate 32 (0 : UInt8)).length = 32 from (List.length_replicate ..))]; rfl) (by rw [List.length_append, List.length_map, (show (List.replicate 32 (0 : UInt8)).length = 32 from (List.length_replicate ..))]; rfl) (fun w H => ?_)); replace H : Hp _ w _ [_, _, _] := H
   refine l_op (o_val r_as ?_); first | refine l_end ?_ | refine l_nil ?_
   refine c_ret ?_; try dsimp only [Exit.then, Exit.inBlock]
   refine e_retN (vs := [.agg ([V64 (0 : UInt64), .string ⟨(([] : List UInt8)).toArray⟩, V8 (0 : UInt8), VI 0, VI 0, .slice none 0 0] ++ (List.replicate 32 (0 : UInt8)).map V8).toArray, VI 4]) _ Tryz.results41 rfl (H.resR (C := [V64 (0 : UInt64), .string ⟨(([] : List UInt8)).toArray⟩, V8 (0 : UInt8), VI 0, VI 0, .slice none 0 0] ++ (List.replicate 32 (0 : UInt8)).map V8) (i := 0) rfl rfl rt46 (by rw [List.length_append, List.length_map, (show (List.replicate 32 (0 : UInt8)).length = 32 from (List.length_replicate ..))]; rfl) (resT (v := VI 4) rfl (resZ))) ?_
   refine ⟨_, rfl, ?_⟩
   refine .inl ⟨?_, rfl, H.sub (List.nil_sublist _)⟩
   cases hp : parseT s.l with
   | none => rfl
   | some T =>
     exfalso
     obtain ⟨z1, z2, z3, z4, z5, z6, z7, z8, z9⟩ := hd_complete hp hhd
     have hTm := may_cs T ((parse_iff _ _).1 hp).1
     have z2' := congrArg UInt64.toNat z2
     have e1 : (1 : UInt64).toNat = 1 := rfl
     rw [n7] at z8
     exact Bool.noConfusion ((hc9).symm.trans (hB.trans z1))
  ·
   refine l_yes rfl rfl (by exact congrArg Value.bool hc9) (o_val r_mv ?_); refine l_yes rfl rfl (by exact congrArg Value.bool hc9) (o_val (r_bin (a := ((numV 1 s.l).toNat : Int)) (b := 1) rfl rfl (fun _ => b_neq)) ?_); refine l_op (o_val (r_pick (b := false) (congrArg Value.bool hc9)) ?_); refine l_op (o_val r_mv ?_)
   by_cases hc10 : ((numV 1 s.l).toNat : Int) ≠ 1
   ·
    refine l_no rfl rfl (by exact congrArg Value.bool (decide_eq_true hc10)) rfl ?_; refine l_no rfl rfl (by exact congrArg Value.bool (decide_eq_true hc10)) rfl ?_; refine l_op (o_val (r_pick (b := true) (congrArg Value.bool (decide_eq_true hc10))) ?_); first | refine l_end ?_ | refine l_nil ?_
    repeat refine c_seq ?_
    refine c_yes rfl ?_; repeat refine c_seq ?_
    refine c_region ?_; refine l_op (o_val (r_bld' (cells := ([V64 (0 : UInt64), .string ⟨(([] : List UInt8)).toArray⟩, V8 (0 : UInt8), VI 0, VI 0, .slice none 0 0] ++ (List.replicate 32 (0 : UInt8)).map V8).toArray) (pv := []) bd46 rfl rfl) ?_); refine l_op (o_stW (C' := [V64 (0 : UInt64), .string ⟨(([] : List UInt8)).toArray⟩, V8 (0 : UInt8), VI 0, VI 0, .slice none 0 0] ++ (List.replicate 32 (0 : UInt8)).map V8) H (i := 0) rfl rfl rfl cs46 (by simp [Value.oneCell']) (by rw [List.length_append, List.length_map, (show (List.replicate 32 (0 : UInt8)).length = 32 from (List.length_replicate ..))]; rfl) (by rw [List.length_append, List.length_map, (show (List.replicate 32 (0 : UInt8)).length = 32 from (List.length_replicate ..))]; rfl) (fun w H => ?_)); replace H : Hp _ w _ [_, _, _] := H
    refine l_op (o_val r_as ?_); first | refine l_end ?_ | refine l_nil ?_
    refine c_ret ?_; try dsimp only [Exit.then, Exit.inBlock]
    refine e_retN (vs := [.agg ([V64 (0 : UInt64), .string ⟨(([] : List UInt8)).toArray⟩, V8 (0 : UInt8), VI 0, VI 0, .slice none 0 0] ++ (List.replicate 32 (0 : UInt8)).map V8).toArray, VI 4]) _ Tryz.results41 rfl (H.resR (C := [V64 (0 : UInt64), .string ⟨(([] : List UInt8)).toArray⟩, V8 (0 : UInt8), VI 0, VI 0, .slice none 0 0] ++ (List.replicate 32 (0 : UInt8)).map V8) (i := 0) rfl rfl rt46 (by rw [List.length_append, List.length_map, (show (List.replicate 32 (0 : UInt8)).length = 32 from (List.length_replicate ..))]; rfl) (resT (v := VI 4) rfl (resZ))) ?_
    refine ⟨_, rfl, ?_⟩
    refine .inl ⟨?_, rfl, H.sub (List.nil_sublist _)⟩
    cases hp : parseT s.l with
    | none => rfl
    | some T =>
      exfalso
      obtain ⟨z1, z2, z3, z4, z5, z6, z7, z8, z9⟩ := hd_complete hp hhd
      have hTm := may_cs T ((parse_iff _ _).1 hp).1
      have z2' := congrArg UInt64.toNat z2
      have e1 : (1 : UInt64).toNat = 1 := rfl
      rw [n7] at z8
      omega
   ·
    refine l_yes rfl rfl (by exact congrArg Value.bool (decide_eq_false hc10)) (o_val r_mv ?_); refine l_yes rfl rfl (by exact congrArg Value.bool (decide_eq_false hc10)) (o_val (r_bin (a := ((numV 1 ((((((s.nx 1).nx 8).tl k4).nx 1).nx 8).nx 8).l).toNat : Int)) (b := 8) rfl rfl (fun _ => b_gtr)) ?_); refine l_op (o_val (r_pick (b := false) (congrArg Value.bool (decide_eq_false hc10))) ?_); first | refine l_end ?_ | refine l_nil ?_
    by_cases hc11 : 8 < ((numV 1 ((((((s.nx 1).nx 8).tl k4).nx 1).nx 8).nx 8).l).toNat : Int)
    ·
     repeat refine c_seq ?_
     refine c_yes (by exact congrArg Value.bool (decide_eq_true hc11)) ?_; repeat refine c_seq ?_
     refine c_region ?_; refine l_op (o_val (r_bld' (cells := ([V64 (0 : UInt64), .string ⟨(([] : List UInt8)).toArray⟩, V8 (0 : UInt8), VI 0, VI 0, .slice none 0 0] ++ (List.replicate 32 (0 : UInt8)).map V8).toArray) (pv := []) bd46 rfl rfl) ?_); refine l_op (o_stW (C' := [V64 (0 : UInt64), .string ⟨(([] : List UInt8)).toArray⟩, V8 (0 : UInt8), VI 0, VI 0, .slice none 0 0] ++ (List.replicate 32 (0 : UInt8)).map V8) H (i := 0) rfl rfl rfl cs46 (by simp [Value.oneCell']) (by rw [List.length_append, List.length_map, (show (List.replicate 32 (0 : UInt8)).length = 32 from (List.length_replicate ..))]; rfl) (by rw [List.length_append, List.length_map, (show (List.replicate 32 (0 : UInt8)).length = 32 from (List.length_replicate ..))]; rfl) (fun w H => ?_)); replace H : Hp _ w _ [_, _, _] := H
     refine l_op (o_val r_as ?_); first | refine l_end ?_ | refine l_nil ?_
     refine c_ret ?_; try dsimp only [Exit.then, Exit.inBlock]
     refine e_retN (vs := [.agg ([V64 (0 : UInt64), .string ⟨(([] : List UInt8)).toArray⟩, V8 (0 : UInt8), VI 0, VI 0, .slice none 0 0] ++ (List.replicate 32 (0 : UInt8)).map V8).toArray, VI 4]) _ Tryz.results41 rfl (H.resR (C := [V64 (0 : UInt64), .string ⟨(([] : List UInt8)).toArray⟩, V8 (0 : UInt8), VI 0, VI 0, .slice none 0 0] ++ (List.replicate 32 (0 : UInt8)).map V8) (i := 0) rfl rfl rt46 (by rw [List.length_append, List.length_map, (show (List.replicate 32 (0 : UInt8)).length = 32 from (List.length_replicate ..))]; rfl) (resT (v := VI 4) rfl (resZ))) ?_
     refine ⟨_, rfl, ?_⟩
     refine .inl ⟨?_, rfl, H.sub (List.nil_sublist _)⟩
     cases hp : parseT s.l with
     | none => rfl
     | some T =>
       exfalso
       obtain ⟨z1, z2, z3, z4, z5, z6, z7, z8, z9⟩ := hd_complete hp hhd
       have hTm := may_cs T ((parse_iff _ _).1 hp).1
       have z2' := congrArg UInt64.toNat z2
       have e1 : (1 : UInt64).toNat = 1 := rfl
       rw [n7] at z8
       omega
    ·
     repeat refine c_seq ?_
     refine c_no (by exact congrArg Value.bool (decide_eq_false hc11)) ?_; refine c_skip ?_; have hy0 : ((((((((s.nx 1).nx 8).tl k4).nx 1).nx 8).nx 8).nx 1)).ok w0 := ((((((hs.nx 1).nx 8).tl (n := k4) hkl6).nx 1).nx 8).nx 8).nx 1
     repeat refine c_seq ?_
     refine c_region ?_; refine l_op (o_val r_mv ?_); refine l_op (o_val (r_mvV (c64 0 (by decide))) ?_); first | refine l_end ?_ | refine l_nil ?_
     repeat refine c_seq ?_
     refine c_block ?_; repeat refine c_seq ?_
     refine c_loop6 (fun (i : Nat) (yy : Sl) (bb : Bool) (cs : List Cav) (a : Option Nat) (k : Nat) => [(2, .pointer (some ⟨b1, 0, none⟩)), (4, .pointer (some ⟨b2, 0, none⟩)), (6, .pointer (some ⟨b8, 0, none⟩)), (45, V64 (numV 1 ((((((s.nx 1).nx 8).tl k4).nx 1).nx 8).nx 8).l)), (46, V64 (UInt64.ofNat i))])
       (fun (i : Nat) (yy : Sl) (bb : Bool) (cs : List Cav) (a : Option Nat) (k : Nat) w => (i ≤ (numV 1 ((((((s.nx 1).nx 8).tl k4).nx 1).nx 8).nx 8).l).toNat ∧ yy.ok w0 ∧ cavRun (((((((s.nx 1).nx 8).tl k4).nx 1).nx 8).nx 8).nx 1).l ((((bd5 || short 1 (((s.nx 1).nx 8).tl k4).l) || short 8 ((((s.nx 1).nx 8).tl k4).nx 1).l) || short 8 (((((s.nx 1).nx 8).tl k4).nx 1).nx 8).l) || short 1 ((((((s.nx 1).nx 8).tl k4).nx 1).nx 8).nx 8).l) i = (cs, yy.l, bb)) ∧ Hp w0 w [] ([.blk b1 ([V64 (0 : UInt64), .string ⟨(([] : List UInt8)).toArray⟩, V8 (0 : UInt8), VI 0, VI 0, .slice none 0 0] ++ (List.replicate 32 (0 : UInt8)).map V8) 46, .blk b2 ([yy.v, .bool bb]) 125, .blk b8 ([V64 (numV 8 (s.nx 1).l), .string ⟨(t3).toArray⟩, V8 ((numV 1 (((s.nx 1).nx 8).tl k4).l).toUInt8), VI (zagU (numV 8 ((((s.nx 1).nx 8).tl k4).nx 1).l)), VI (zagU (numV 8 (((((s.nx 1).nx 8).tl k4).nx 1).nx 8).l)), .slice (hd a) i k] ++ (List.replicate 32 (0 : UInt8)).map V8) 46, .own a i k ((cs).flatMap cavE) 63 2]))
       (fun (i : Nat) (yy : Sl) (bb : Bool) (cs : List Cav) (a : Option Nat) (k : Nat) => (numV 1 ((((((s.nx 1).nx 8).tl k4).nx 1).nx 8).nx 8).l).toNat - i) 0 (((((((s.nx 1).nx 8).tl k4).nx 1).nx 8).nx 8).nx 1) ((((bd5 || short 1 (((s.nx 1).nx 8).tl k4).l) || short 8 ((((s.nx 1).nx 8).tl k4).nx 1).l) || short 8 (((((s.nx 1).nx 8).tl k4).nx 1).nx 8).l) || short 1 ((((((s.nx 1).nx 8).tl k4).nx 1).nx 8).nx 8).l) ([]) none 0 ⟨rfl, rfl, rfl, rfl, rfl, trivial⟩ ⟨⟨Nat.zero_le _, hy0, rfl⟩, (H.nilEnd 63 2)⟩ ?_
     clear H
     rintro i yy bb cs a k τ w ⟨⟨hi, hy, hrun⟩, H⟩
     have hoi : (UInt64.ofNat i).toNat = i := ofNat_nat _ (by omega)
     repeat refine c_seq ?_
     refine c_region ?_; refine l_op (o_val (r_bin (a := ((UInt64.ofNat i).toNat : Int)) (b := ((numV 1 ((((((s.nx 1).nx 8).tl k4).nx 1).nx 8).nx 8).l).toNat : Int)) rfl rfl (fun _ => b_lss)) ?_); first | refine l_end ?_ | refine l_nil ?_
     by_cases hc12 : ((UInt64.ofNat i).toNat : Int) < ((numV 1 ((((((s.nx 1).nx 8).tl k4).nx 1).nx 8).nx 8).l).toNat : Int)
     ·
      repeat refine c_seq ?_
      refine c_yes (by exact congrArg Value.bool (decide_eq_true hc12)) ?_; refine c_skip ?_; repeat refine c_seq ?_
      refine c_block ?_; repeat refine c_seq ?_
      refine c_region ?_; refine l_op (o_val r_mv ?_); refine l_op (o_callR Tryz.func74 rfl rfl rfl (number_ret (x := yy) H (i := 1) rfl (hy.up H (fun _ => apart_nil _)) 1 (by omega) (by omega)) ?_); rintro _ w ⟨rfl, Hc⟩
      clear H
      have H := Hc; clear Hc
      replace H : Hp _ w _ ([_, .blk b2 ([(yy.nx 1).v, .bool (bb || short 1 yy.l)]) 125, _, _]) := H
      refine l_op (o_val (r_conv Tryz.underlying33 Tryz.underlying43 rfl (w_u8_64 _)) ?_); refine l_op (o_val (r_bld' (cells := ([V8 ((numV 1 yy.l).toUInt8), VI 0]).toArray) (pv := [(0, V8 ((numV 1 yy.l).toUInt8))]) bd63 rfl rfl) ?_); refine l_op (o_alloc H zc63 (fun b13 w H hb13 => ?_)); replace H : Hp _ w _ ([_, _, _, _, .blk b13 ([V8 (0 : UInt8), VI 0]) 63]) := H
      refine l_op (o_stW (C' := [V8 ((numV 1 yy.l).toUInt8), VI 0]) H (i := 4) rfl rfl rfl cs63 (by simp [Value.oneCell']) (by rfl) (by rfl) (fun w H => ?_)); replace H : Hp _ w _ ([_, _, _, _, .blk b13 ([V8 ((numV 1 yy.l).toUInt8), VI 0]) 63]) := H
      first | refine l_end ?_ | refine l_nil ?_
      repeat refine c_seq ?_
      refine c_region ?_; refine l_op (o_val r_mv ?_); refine l_op (o_callR Tryz.func74 rfl rfl rfl (number_ret (x := (yy.nx 1)) H (i := 1) rfl ((hy.up H (fun _ => apart_nil _)).nx 1) 8 (by omega) (by omega)) ?_); rintro _ w ⟨rfl, Hc⟩
      clear H
      have H := Hc; clear Hc
      replace H : Hp _ w _ ([_, .blk b2 ([((yy.nx 1).nx 8).v, .bool ((bb || short 1 yy.l) || short 8 (yy.nx 1).l)]) 125, _, _, _]) := H
      refine l_op (o_callR Tryz.func76 rfl rfl rfl (zag_ret _ (numV 8 (yy.nx 1).l)) ?_); rintro _ w ⟨rfl, Hc⟩
      replace H : Hp _ w _ ([_, _, _, _, _]) := H.call Hc
      clear Hc
      refine l_op (o_val (r_fa rfl fo63_1) ?_); refine l_op (o_st (v := VI (zagU (numV 8 (yy.nx 1).l))) H (i := 4) rfl rfl rfl cs2 rfl (by simp only [List.length_cons, List.length_nil]; omega) (fun w H => ?_)); replace H : Hp _ w _ ([_, _, _, _, .blk b13 ([V8 ((numV 1 yy.l).toUInt8), VI (zagU (numV 8 (yy.nx 1).l))]) 63]) := H
      first | refine l_end ?_ | refine l_nil ?_
      repeat refine c_seq ?_
      refine c_region ?_; refine l_op (o_val (r_fa rfl fo46_5) ?_); refine l_op (o_val (r_ld (v := .slice (hd a) i k) H (i := 2) rfl rfl ct44 rfl) ?_); refine l_op (o_val (r_ldA (C := [V8 ((numV 1 yy.l).toUInt8), VI (zagU (numV 8 (yy.nx 1).l))]) H (i := 4) rfl rfl rt63 (by rfl)) ?_); refine l_op (o_bslG1 (enc := cavE) (((numV 1 yy.l).toUInt8, zagU (numV 8 (yy.nx 1).l))) H sl44 zc63 (by rfl) (by decide) (by decide) rfl rfl (fun b14 w H hb14 => ?_)); replace H : Hp _ w _ ([_, _, _, _, _, .own (some b14) 1 1 (([((numV 1 yy.l).toUInt8, zagU (numV 8 (yy.nx 1).l))]).flatMap cavE) 63 2]) := H
      refine l_op (o_appG (enc := cavE) (s := ⟨hd (some b14), 1, 1, [((numV 1 yy.l).toUInt8, zagU (numV 8 (yy.nx 1).l))]⟩) (l' := cs ++ ([((numV 1 yy.l).toUInt8, zagU (numV 8 (yy.nx 1).l))])) (len' := i + 1) rfl rfl H (i := 3) rfl sl44 Tryz.underlying44 rfl rfl (H.glOwn (i := 5) rfl (by decide) (fun _ _ => rfl)) (by decide) (fun _ _ => rfl) (by omega) (by decide) (fun a15 c16 w H => ?_)); replace H : Hp _ w _ ([_, _, _, .own a15 (i + 1) c16 ((cs ++ ([((numV 1 yy.l).toUInt8, zagU (numV 8 (yy.nx 1).l))])).flatMap cavE) 63 2, _, _]) := H
      refine l_op (o_val (r_fa rfl fo46_5) ?_); refine l_op (o_st (v := .slice (hd a15) (i + 1) c16) H (i := 2) rfl rfl rfl cs44 rfl (by simp only [List.length_append, List.length_cons, List.length_nil]; omega) (fun w H => ?_)); replace H : Hp _ w _ ([_, _, .blk b8 ([V64 (numV 8 (s.nx 1).l), .string ⟨(t3).toArray⟩, V8 ((numV 1 (((s.nx 1).nx 8).tl k4).l).toUInt8), VI (zagU (numV 8 ((((s.nx 1).nx 8).tl k4).nx 1).l)), VI (zagU (numV 8 (((((s.nx 1).nx 8).tl k4).nx 1).nx 8).l)), .slice (hd a15) (i + 1) c16] ++ (List.replicate 32 (0 : UInt8)).map V8) 46, _, _, _]) := H
      first | refine l_end ?_ | refine l_nil ?_
      repeat refine c_seq ?_
      refine c_region ?_; refine l_op (o_val (r_bin rfl (c64 1 (by decide)) (fun _ => b_add_u64N)) ?_); refine l_op (o_val r_mv ?_); first | refine l_end ?_ | refine l_nil ?_
      refine round_end (i + 1, ((yy.nx 1).nx 8), (bb || short 1 yy.l) || short 8 (yy.nx 1).l, cs ++ ([((numV 1 yy.l).toUInt8, zagU (numV 8 (yy.nx 1).l))]), a15, c16) ?_ ?_ ?_
      · exact ⟨rfl, rfl, rfl, rfl, show V64 (UInt64.ofNat (i + 1)) = V64 (UInt64.ofNat (i + 1 : Nat)) from congrArg V64 rfl, trivial⟩
      · refine ⟨?_, ?_⟩
        · try dsimp only
          exact ⟨by omega, (hy.nx 1).nx 8, cavRun_next hrun⟩
        · exact H.sub (.cons_cons _ (.cons_cons _ (.cons_cons _ (.cons_cons _ (List.nil_sublist _)))))
      · show (numV 1 ((((((s.nx 1).nx 8).tl k4).nx 1).nx 8).nx 8).l).toNat - (i + 1 : Nat) < (numV 1 ((((((s.nx 1).nx 8).tl k4).nx 1).nx 8).nx 8).l).toNat - i; omega
     ·
      repeat refine c_seq ?_
      refine c_no (by exact congrArg Value.bool (decide_eq_false hc12)) ?_; refine c_exit ?_; have hgl : cs.length = i := ((H.glOwn (i := 3) rfl (by decide) (fun _ _ => rfl))).ln
      have hyl := hy.ln
      repeat refine c_seq ?_
      refine c_region ?_; refine l_op (o_val r_mv ?_); refine l_op (o_val (r_nilc rfl) ?_); refine l_op (o_val (r_fa rfl fo125_1) ?_); refine l_op (o_val (r_ld (v := .bool bb) H (i := 1) rfl rfl ct4 rfl) ?_); refine l_op (o_val r_mv ?_)
      rcases Bool.eq_false_or_eq_true (bb) with hc17 | hc17
      ·
       refine l_no rfl rfl (by exact congrArg Value.bool hc17) rfl ?_; refine l_no rfl rfl (by exact congrArg Value.bool hc17) rfl ?_; refine l_no rfl rfl (by exact congrArg Value.bool hc17) rfl ?_; refine l_no rfl rfl (by exact congrArg Value.bool hc17) rfl ?_; refine l_no rfl rfl (by exact congrArg Value.bool hc17) rfl ?_; refine l_no rfl rfl (by exact congrArg Value.bool hc17) rfl ?_; refine l_op (o_val (r_pick (b := true) (congrArg Value.bool hc17)) ?_); refine l_op (o_val r_mv ?_); refine l_no rfl rfl rfl rfl ?_; refine l_no rfl rfl rfl rfl ?_; refine l_no rfl rfl rfl rfl ?_; refine l_op (o_val (r_pick rfl) ?_); first | refine l_end ?_ | refine l_nil ?_
       repeat refine c_seq ?_
       refine c_yes rfl ?_; repeat refine c_seq ?_
       refine c_region ?_; refine l_op (o_val (r_bld' (cells := ([V64 (0 : UInt64), .string ⟨(([] : List UInt8)).toArray⟩, V8 (0 : UInt8), VI 0, VI 0, .slice none 0 0] ++ (List.replicate 32 (0 : UInt8)).map V8).toArray) (pv := []) bd46 rfl rfl) ?_); refine l_op (o_stW (C' := [V64 (0 : UInt64), .string ⟨(([] : List UInt8)).toArray⟩, V8 (0 : UInt8), VI 0, VI 0, .slice none 0 0] ++ (List.replicate 32 (0 : UInt8)).map V8) H (i := 0) rfl rfl rfl cs46 (by simp [Value.oneCell']) (by rw [List.length_append, List.length_map, (show (List.replicate 32 (0 : UInt8)).length = 32 from (List.length_replicate ..))]; rfl) (by rw [List.length_append, List.length_map, (show (List.replicate 32 (0 : UInt8)).length = 32 from (List.length_replicate ..))]; rfl) (fun w H => ?_)); replace H : Hp _ w _ [_, _, _, _] := H
       refine l_op (o_val r_as ?_); first | refine l_end ?_ | refine l_nil ?_
       refine c_ret ?_; try dsimp only [Exit.then, Exit.inBlock]
       refine e_retN (vs := [.agg ([V64 (0 : UInt64), .string ⟨(([] : List UInt8)).toArray⟩, V8 (0 : UInt8), VI 0, VI 0, .slice none 0 0] ++ (List.replicate 32 (0 : UInt8)).map V8).toArray, VI 4]) _ Tryz.results41 rfl (H.resR (C := [V64 (0 : UInt64), .string ⟨(([] : List UInt8)).toArray⟩, V8 (0 : UInt8), VI 0, VI 0, .slice none 0 0] ++ (List.replicate 32 (0 : UInt8)).map V8) (i := 0) rfl rfl rt46 (by rw [List.length_append, List.length_map, (show (List.replicate 32 (0 : UInt8)).length = 32 from (List.length_replicate ..))]; rfl) (resT (v := VI 4) rfl (resZ))) ?_
       refine ⟨_, rfl, ?_⟩
       refine .inl ⟨?_, rfl, H.sub (List.nil_sublist _)⟩
       cases hp : parseT s.l with
       | none => rfl
       | some T =>
         exfalso
         obtain ⟨z1, z2, z3, z4, z5, z6, z7, z8, z9⟩ := hd_complete hp hhd
         have hTok := (parse_iff _ _).1 hp
         rw [n7] at z8
         rw [n8] at z9
         have hin : i = T.cs.length := by omega
         have hrc := cavRun_of T.cs T.tag hTok.2.1.c i (by omega)
         rw [hB, z1, z9, hrc] at hrun
         obtain ⟨q1, q2⟩ := Prod.mk.inj hrun
         obtain ⟨q2, q3⟩ := Prod.mk.inj q2
         have hr1 : cs = T.cs := q1.symm.trans (by rw [hin]; exact List.take_length)
         have hr2 : yy.l = T.tag := q2.symm.trans (by rw [hin, List.drop_length]; rfl)
         have hr3 : bb = false := q3.symm
         rw [hr3] at hc17; cases hc17
      ·
       refine l_yes rfl rfl (by exact congrArg Value.bool hc17) (o_val r_mv ?_); refine l_yes rfl rfl (by exact congrArg Value.bool hc17) (o_val (r_nilc rfl) ?_); refine l_yes rfl rfl (by exact congrArg Value.bool hc17) (o_val (r_fa rfl fo125_0) ?_); refine l_yes rfl rfl (by exact congrArg Value.bool hc17) (o_val (r_ld (v := yy.v) H (i := 1) rfl rfl ct24 rfl) ?_); refine l_yes rfl rfl (by exact congrArg Value.bool hc17) (o_val (r_lens el24 rfl) ?_); refine l_yes rfl rfl (by exact congrArg Value.bool hc17) (o_val (r_bin (a := (yy.len : Int)) (b := 32) rfl rfl (fun _ => b_neq)) ?_); refine l_op (o_val (r_pick (b := false) (congrArg Value.bool hc17)) ?_); refine l_op (o_val r_mv ?_)
       by_cases hc18 : (yy.len : Int) ≠ 32
       ·
        refine l_no rfl rfl (by exact congrArg Value.bool (decide_eq_true hc18)) rfl ?_; refine l_no rfl rfl (by exact congrArg Value.bool (decide_eq_true hc18)) rfl ?_; refine l_no rfl rfl (by exact congrArg Value.bool (decide_eq_true hc18)) rfl ?_; refine l_op (o_val (r_pick (b := true) (congrArg Value.bool (decide_eq_true hc18))) ?_); first | refine l_end ?_ | refine l_nil ?_
        repeat refine c_seq ?_
        refine c_yes rfl ?_; repeat refine c_seq ?_
        refine c_region ?_; refine l_op (o_val (r_bld' (cells := ([V64 (0 : UInt64), .string ⟨(([] : List UInt8)).toArray⟩, V8 (0 : UInt8), VI 0, VI 0, .slice none 0 0] ++ (List.replicate 32 (0 : UInt8)).map V8).toArray) (pv := []) bd46 rfl rfl) ?_); refine l_op (o_stW (C' := [V64 (0 : UInt64), .string ⟨(([] : List UInt8)).toArray⟩, V8 (0 : UInt8), VI 0, VI 0, .slice none 0 0] ++ (List.replicate 32 (0 : UInt8)).map V8) H (i := 0) rfl rfl rfl cs46 (by simp [Value.oneCell']) (by rw [List.length_append, List.length_map, (show (List.replicate 32 (0 : UInt8)).length = 32 from (List.length_replicate ..))]; rfl) (by rw [List.length_append, List.length_map, (show (List.replicate 32 (0 : UInt8)).length = 32 from (List.length_replicate ..))]; rfl) (fun w H => ?_)); replace H : Hp _ w _ [_, _, _, _] := H
        refine l_op (o_val r_as ?_); first | refine l_end ?_ | refine l_nil ?_
        refine c_ret ?_; try dsimp only [Exit.then, Exit.inBlock]
        refine e_retN (vs := [.agg ([V64 (0 : UInt64), .string ⟨(([] : List UInt8)).toArray⟩, V8 (0 : UInt8), VI 0, VI 0, .slice none 0 0] ++ (List.replicate 32 (0 : UInt8)).map V8).toArray, VI 4]) _ Tryz.results41 rfl (H.resR (C := [V64 (0 : UInt64), .string ⟨(([] : List UInt8)).toArray⟩, V8 (0 : UInt8), VI 0, VI 0, .slice none 0 0] ++ (List.replicate 32 (0 : UInt8)).map V8) (i := 0) rfl rfl rt46 (by rw [List.length_append, List.length_map, (show (List.replicate 32 (0 : UInt8)).length = 32 from (List.length_replicate ..))]; rfl) (resT (v := VI 4) rfl (resZ))) ?_
        refine ⟨_, rfl, ?_⟩
        refine .inl ⟨?_, rfl, H.sub (List.nil_sublist _)⟩
        cases hp : parseT s.l with
        | none => rfl
        | some T =>
          exfalso
          obtain ⟨z1, z2, z3, z4, z5, z6, z7, z8, z9⟩ := hd_complete hp hhd
          have hTok := (parse_iff _ _).1 hp
          rw [n7] at z8
          rw [n8] at z9
          have hin : i = T.cs.length := by omega
          have hrc := cavRun_of T.cs T.tag hTok.2.1.c i (by omega)
          rw [hB, z1, z9, hrc] at hrun
          obtain ⟨q1, q2⟩ := Prod.mk.inj hrun
          obtain ⟨q2, q3⟩ := Prod.mk.inj q2
          have hr1 : cs = T.cs := q1.symm.trans (by rw [hin]; exact List.take_length)
          have hr2 : yy.l = T.tag := q2.symm.trans (by rw [hin, List.drop_length]; rfl)
          have hr3 : bb = false := q3.symm
          have h32 := hTok.2.1.tag
          have := hy.ln
          rw [hr2] at this
          omega
       ·
        refine l_yes rfl rfl (by exact congrArg Value.bool (decide_eq_false hc18)) (o_val (r_ldA (C := [V64 (numV 8 (s.nx 1).l), .string ⟨(t3).toArray⟩, V8 ((numV 1 (((s.nx 1).nx 8).tl k4).l).toUInt8), VI (zagU (numV 8 ((((s.nx 1).nx 8).tl k4).nx 1).l)), VI (zagU (numV 8 (((((s.nx 1).nx 8).tl k4).nx 1).nx 8).l)), .slice (hd a) i k] ++ (List.replicate 32 (0 : UInt8)).map V8) H (i := 2) rfl rfl rt46 (by rw [List.length_append, List.length_map, (show (List.replicate 32 (0 : UInt8)).length = 32 from (List.length_replicate ..))]; rfl)) ?_); refine l_yes rfl rfl (by exact congrArg Value.bool (decide_eq_false hc18)) (o_callR Tryz.func30 rfl rfl rfl (may_ret _ (⟨numV 8 (s.nx 1).l, t3, (numV 1 (((s.nx 1).nx 8).tl k4).l).toUInt8, zagU (numV 8 ((((s.nx 1).nx 8).tl k4).nx 1).l), zagU (numV 8 (((((s.nx 1).nx 8).tl k4).nx 1).nx 8).l), ⟨hd a, i, k, cs⟩, List.replicate 32 (0 : UInt8)⟩ : Tok) (H.glOwn (i := 3) rfl (by decide) (fun _ _ => rfl)) (show (List.replicate 32 (0 : UInt8)).length = 32 from (List.length_replicate ..)) (by first | omega | (dsimp only; omega) | simp)) ?_); rintro _ w ⟨rfl, Hc⟩
        replace H : Hp _ w _ ([_, _, _, _]) := H.call Hc
        clear Hc
        refine l_yes rfl rfl (by exact congrArg Value.bool (decide_eq_false hc18)) (o_val (r_not rfl) ?_); refine l_op (o_val (r_pick (b := false) (congrArg Value.bool (decide_eq_false hc18))) ?_); first | refine l_end ?_ | refine l_nil ?_
        rcases Bool.eq_false_or_eq_true (mayT (⟨numV 8 (s.nx 1).l, t3, (numV 1 (((s.nx 1).nx 8).tl k4).l).toUInt8, zagU (numV 8 ((((s.nx 1).nx 8).tl k4).nx 1).l), zagU (numV 8 (((((s.nx 1).nx 8).tl k4).nx 1).nx 8).l), ⟨hd a, i, k, cs⟩, List.replicate 32 (0 : UInt8)⟩ : Tok)) with hc19 | hc19
        ·
         repeat refine c_seq ?_
         refine c_no (by exact congrArg Value.bool (congrArg not hc19)) ?_; refine c_skip ?_; repeat refine c_seq ?_
         refine c_region ?_; refine l_op (o_val r_mv ?_); refine l_op (o_val (r_nilc rfl) ?_); refine l_op (o_val (r_fa rfl fo125_0) ?_); refine l_op (o_val (r_ld (v := yy.v) H (i := 1) rfl rfl ct24 rfl) ?_); refine l_op (o_val (r_sap Tryz.underlying23 rfl (by (try simp only [Sl.cut]); omega)) ?_); have ah22 := ((hy.up H (fun _ => apart_nil _))).addr (by (try simp only [Sl.cut]); omega)
         obtain ⟨ab20, ao21, ah22⟩ := ah22
         refine l_op (o_val (r_ldSE (s := yy) (k := 32) (hy.up H (fun _ => apart_nil _)) ah22 rfl rt23 (by decide) (by omega)) ?_); refine l_op (o_val (r_fa rfl fo46_6) ?_); refine l_op (o_stT (pre := [V64 (numV 8 (s.nx 1).l), .string ⟨(t3).toArray⟩, V8 ((numV 1 (((s.nx 1).nx 8).tl k4).l).toUInt8), VI (zagU (numV 8 ((((s.nx 1).nx 8).tl k4).nx 1).l)), VI (zagU (numV 8 (((((s.nx 1).nx 8).tl k4).nx 1).nx 8).l)), .slice (hd a) i k]) (l := List.replicate 32 (0 : UInt8)) (l' := yy.l) H (i := 2) rfl rfl rfl cs23 rfl (show (List.replicate 32 (0 : UInt8)).length = 32 from (List.length_replicate ..)) (show (yy.l).length = 32 from (by omega)) (fun w H => ?_)); replace H : Hp _ w _ ([_, _, .blk b8 ([V64 (numV 8 (s.nx 1).l), .string ⟨(t3).toArray⟩, V8 ((numV 1 (((s.nx 1).nx 8).tl k4).l).toUInt8), VI (zagU (numV 8 ((((s.nx 1).nx 8).tl k4).nx 1).l)), VI (zagU (numV 8 (((((s.nx 1).nx 8).tl k4).nx 1).nx 8).l)), .slice (hd a) i k] ++ (yy.l).map V8) 46, _]) := H
         first | refine l_end ?_ | refine l_nil ?_
         repeat refine c_seq ?_
         refine c_region ?_; refine l_op (o_val (r_ldA (C := [V64 (numV 8 (s.nx 1).l), .string ⟨(t3).toArray⟩, V8 ((numV 1 (((s.nx 1).nx 8).tl k4).l).toUInt8), VI (zagU (numV 8 ((((s.nx 1).nx 8).tl k4).nx 1).l)), VI (zagU (numV 8 (((((s.nx 1).nx 8).tl k4).nx 1).nx 8).l)), .slice (hd a) i k] ++ (yy.l).map V8) H (i := 2) rfl rfl rt46 (by rw [List.length_append, List.length_map, (show (yy.l).length = 32 from (by omega))]; rfl)) ?_); refine l_op (o_stW (C' := [V64 (numV 8 (s.nx 1).l), .string ⟨(t3).toArray⟩, V8 ((numV 1 (((s.nx 1).nx 8).tl k4).l).toUInt8), VI (zagU (numV 8 ((((s.nx 1).nx 8).tl k4).nx 1).l)), VI (zagU (numV 8 (((((s.nx 1).nx 8).tl k4).nx 1).nx 8).l)), .slice (hd a) i k] ++ (yy.l).map V8) H (i := 0) rfl rfl rfl cs46 (by simp [Value.oneCell']) (by rw [List.length_append, List.length_map, (show (List.replicate 32 (0 : UInt8)).length = 32 from (List.length_replicate ..))]; rfl) (by rw [List.length_append, List.length_map, (show (yy.l).length = 32 from (by omega))]; rfl) (fun w H => ?_)); replace H : Hp _ w _ ([.blk b1 ([V64 (numV 8 (s.nx 1).l), .string ⟨(t3).toArray⟩, V8 ((numV 1 (((s.nx 1).nx 8).tl k4).l).toUInt8), VI (zagU (numV 8 ((((s.nx 1).nx 8).tl k4).nx 1).l)), VI (zagU (numV 8 (((((s.nx 1).nx 8).tl k4).nx 1).nx 8).l)), .slice (hd a) i k] ++ (yy.l).map V8) 46, _, _, _]) := H
         refine l_op (o_val r_as ?_); first | refine l_end ?_ | refine l_nil ?_
         refine c_ret ?_; try dsimp only [Exit.then, Exit.inBlock]
         refine e_retN (vs := [.agg ([V64 (numV 8 (s.nx 1).l), .string ⟨(t3).toArray⟩, V8 ((numV 1 (((s.nx 1).nx 8).tl k4).l).toUInt8), VI (zagU (numV 8 ((((s.nx 1).nx 8).tl k4).nx 1).l)), VI (zagU (numV 8 (((((s.nx 1).nx 8).tl k4).nx 1).nx 8).l)), .slice (hd a) i k] ++ (yy.l).map V8).toArray, VI 0]) _ Tryz.results41 rfl (H.resR (C := [V64 (numV 8 (s.nx 1).l), .string ⟨(t3).toArray⟩, V8 ((numV 1 (((s.nx 1).nx 8).tl k4).l).toUInt8), VI (zagU (numV 8 ((((s.nx 1).nx 8).tl k4).nx 1).l)), VI (zagU (numV 8 (((((s.nx 1).nx 8).tl k4).nx 1).nx 8).l)), .slice (hd a) i k] ++ (yy.l).map V8) (i := 0) rfl rfl rt46 (by rw [List.length_append, List.length_map, (show (yy.l).length = 32 from (by omega))]; rfl) (resT (v := VI 0) rfl (resZ))) ?_
         refine ⟨_, rfl, ?_⟩
         refine .inr ?_; have hin : (numV 1 ((((((s.nx 1).nx 8).tl k4).nx 1).nx 8).nx 8).l).toNat = i := by omega
         rw [hB] at hrun
         have hp := take_sound (k := i) hhd (by omega) (by rw [n7]; exact hin) (by rw [n8, hrun]; exact hc17) (by rw [n8, hrun]; have := hy.ln; show yy.l.length = 32; omega) (by
           rw [n8, hrun]
           have hmm := hc19
           rw [mayT_tv _ hgl] at hmm
           simp only [nx_l] at hmm ⊢
           exact hmm)
         rw [n8, hrun] at hp
         have hp2 : parseT s.l = some ⟨numV 8 (s.nx 1).l, t3, (numV 1 (((s.nx 1).nx 8).tl k4).l).toUInt8, zagU (numV 8 ((((s.nx 1).nx 8).tl k4).nx 1).l), zagU (numV 8 (((((s.nx 1).nx 8).tl k4).nx 1).nx 8).l), cs, yy.l⟩ := by rw [hp]; simp only [nx_l]
         refine ⟨_, a, k, hp2, ?_, ?_⟩
         · simp only [hgl]
         · simp only [hgl]; exact H.sub (.cons _ (.cons _ (.cons _ (.cons_cons _ (List.nil_sublist _)))))
        ·
         repeat refine c_seq ?_
         refine c_yes (by exact congrArg Value.bool (congrArg not hc19)) ?_; repeat refine c_seq ?_
         refine c_region ?_; refine l_op (o_val (r_bld' (cells := ([V64 (0 : UInt64), .string ⟨(([] : List UInt8)).toArray⟩, V8 (0 : UInt8), VI 0, VI 0, .slice none 0 0] ++ (List.replicate 32 (0 : UInt8)).map V8).toArray) (pv := []) bd46 rfl rfl) ?_); refine l_op (o_stW (C' := [V64 (0 : UInt64), .string ⟨(([] : List UInt8)).toArray⟩, V8 (0 : UInt8), VI 0, VI 0, .slice none 0 0] ++ (List.replicate 32 (0 : UInt8)).map V8) H (i := 0) rfl rfl rfl cs46 (by simp [Value.oneCell']) (by rw [List.length_append, List.length_map, (show (List.replicate 32 (0 : UInt8)).length = 32 from (List.length_replicate ..))]; rfl) (by rw [List.length_append, List.length_map, (show (List.replicate 32 (0 : UInt8)).length = 32 from (List.length_replicate ..))]; rfl) (fun w H => ?_)); replace H : Hp _ w _ [_, _, _, _] := H
         refine l_op (o_val r_as ?_); first | refine l_end ?_ | refine l_nil ?_
         refine c_ret ?_; try dsimp only [Exit.then, Exit.inBlock]
         refine e_retN (vs := [.agg ([V64 (0 : UInt64), .string ⟨(([] : List UInt8)).toArray⟩, V8 (0 : UInt8), VI 0, VI 0, .slice none 0 0] ++ (List.replicate 32 (0 : UInt8)).map V8).toArray, VI 4]) _ Tryz.results41 rfl (H.resR (C := [V64 (0 : UInt64), .string ⟨(([] : List UInt8)).toArray⟩, V8 (0 : UInt8), VI 0, VI 0, .slice none 0 0] ++ (List.replicate 32 (0 : UInt8)).map V8) (i := 0) rfl rfl rt46 (by rw [List.length_append, List.length_map, (show (List.replicate 32 (0 : UInt8)).length = 32 from (List.length_replicate ..))]; rfl) (resT (v := VI 4) rfl (resZ))) ?_
         refine ⟨_, rfl, ?_⟩
         refine .inl ⟨?_, rfl, H.sub (List.nil_sublist _)⟩
         cases hp : parseT s.l with
         | none => rfl
         | some T =>
           exfalso
           obtain ⟨z1, z2, z3, z4, z5, z6, z7, z8, z9⟩ := hd_complete hp hhd
           have hTok := (parse_iff _ _).1 hp
           rw [n7] at z8
           rw [n8] at z9
           have hin : i = T.cs.length := by omega
           have hrc := cavRun_of T.cs T.tag hTok.2.1.c i (by omega)
           rw [hB, z1, z9, hrc] at hrun
           obtain ⟨q1, q2⟩ := Prod.mk.inj hrun
           obtain ⟨q2, q3⟩ := Prod.mk.inj q2
           have hr1 : cs = T.cs := q1.symm.trans (by rw [hin]; exact List.take_length)
           have hr2 : yy.l = T.tag := q2.symm.trans (by rw [hin, List.drop_length]; rfl)
           have hr3 : bb = false := q3.symm
           have hmm := may_tagless T ⟨hd a, i, k, cs⟩ hTok.1 hr1 hgl (List.replicate 32 (0 : UInt8))
           rw [← z3, ← z4, ← z5, ← z6, ← z7] at hmm
           simp only [nx_l] at hmm hc19
           rw [hmm] at hc19; cases hc19
end Go.Proofs.YtiepekfcegdkoaaGreatDoor
