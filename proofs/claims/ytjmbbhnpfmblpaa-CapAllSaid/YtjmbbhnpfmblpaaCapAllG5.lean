/- Lemmas for the statement CapAll, part 5: rules of operations, walks through functions, plain laws. -/
import Derived.Test.YtjmbbhnpfmblpaaCapAllG4
namespace Go.Proofs.Ytjmbbhnpfmblpaa
open Go
set_option maxRecDepth 100000
theorem eqCav {w : World} (c e : Cav) : (Op.equal 78 (.agg (cavE c).toArray) (.agg (cavE e).toArray)).run Try.prog w = .ok (decide (c = e)) w := by
  refine eqS_of Try.underlying78 (by kernel_rfl) ?_
  have hb : (decide ((c.1.toNat : Int) = (e.1.toNat : Int)) && (decide (c.2 = e.2) && true)) = decide (c = e) := by
    rw [Bool.eq_iff_iff]
    simp only [Bool.and_eq_true, decide_eq_true_eq, and_true]
    constructor
    · rintro ⟨h1, h2⟩
      exact Prod.ext (UInt8.toNat_inj.1 (by omega)) h2
    · rintro rfl; exact ⟨rfl, rfl⟩
  rw [← hb]
  exact eqF_cons (by decide) (part_cell (by kernel_rfl) rfl) (part_cell (by kernel_rfl) rfl) (eqI_int (by kernel_rfl) 9998 _ _)
    (eqF_cons (by decide) (part_cell (by kernel_rfl) rfl) (part_cell (by kernel_rfl) rfl) (eqI_int (by kernel_rfl) 9998 _ _) (eqF_nil _ _ _))
theorem rMay_no (r : UInt8) : rMay r = false ↔ 15 < r.toNat := by
  have := rMay_iff r
  cases h : rMay r <;> simp [h] at this ⊢ <;> omega
theorem egCav : Try.prog.eqGuardType Try.prog.depth 78 = false := by kernel_rfl
theorem twin14_ret (w0 : World) (t : Tok) (hc : t.cs.ok cavE 2 w0) (htag : t.tag.length = 32) (h64 : t.cs.len ≤ 65536) :
    Ret Try.prog 67 [.agg ([V64 t.serial, .string ⟨(t.tenant).toArray⟩, V8 t.rights, VI t.from_, VI t.until_, t.cs.v] ++ (t.tag).map V8).toArray] w0 fun v w' => ∃ b, v = .agg ([V64 t.serial, .string ⟨(t.tenant).toArray⟩, V8 t.rights, VI t.from_, VI t.until_, .slice (some ⟨b, 0, none⟩) t.cs.len (t.cs.len + 2)] ++ (t.tag).map V8).toArray ∧ Hp w0 w' [] [.blk b (((t.cs.l ++ [((0 : UInt8), (0 : Int))]) ++ [((0 : UInt8), (0 : Int))]).flatMap cavE) 78] := by
  refine ret_mk Try.func67 rfl Try.ntmps67 (by simp) ?_
  have H := Hp.refl w0 []
  have hxl := hc.le
  have hxm := hc.mx
  have hcl := hc.ln
  have hmL : maxLen = 9223372036854775807 := rfl
  repeat refine c_seq ?_
  refine c_region ?_
  refine l_op (o_box (v := .agg ([V64 t.serial, .string ⟨(t.tenant).toArray⟩, V8 t.rights, VI t.from_, VI t.until_, t.cs.v] ++ (t.tag).map V8).toArray) H rfl (fun b1 w H hb1 => ?_))
  replace H : Hp _ w _ ([.blk b1 ([V64 t.serial, .string ⟨(t.tenant).toArray⟩, V8 t.rights, VI t.from_, VI t.until_, t.cs.v] ++ (t.tag).map V8) 76]) := H
  refine l_op (o_alloc H zc76 (fun b2 w H hb2 => ?_))
  replace H : Hp _ w _ ([_, .blk b2 ([V64 (0 : UInt64), .string ⟨(([] : List UInt8)).toArray⟩, V8 (0 : UInt8), VI 0, VI 0, .slice none 0 0] ++ (List.replicate 32 (0 : UInt8)).map V8) 76]) := H
  first | refine l_end ?_ | refine l_nil ?_
  repeat refine c_seq ?_
  refine wp_held (fun w => Hp w0 w [] [.blk b2 ([V64 (0 : UInt64), .string ⟨(([] : List UInt8)).toArray⟩, V8 (0 : UInt8), VI 0, VI 0, .slice none 0 0] ++ (List.replicate 32 (0 : UInt8)).map V8) 76]) mixed ?_
  replace H := H.drew
  have HS := H.sub (.cons _ (.cons_cons _ (List.nil_sublist _)))
  refine t_take 0 rfl (by kernel_rfl) (by kernel_rfl) (by kernel_rfl) (fun _ _ _ h => h) (fun w HS => r_fa rfl fo76_5) HS ?_
  refine t_take 5 rfl (by kernel_rfl) (by kernel_rfl) (by kernel_rfl) (fun _ _ _ h => h) (fun w HS => r_fa rfl fo76_5) HS ?_
  refine t_all [1, 6] (by kernel_rfl) (by simp) (all_cons (w_op 1 rfl ?_) (all_cons (w_op 6 rfl ?_) (all_nil)))
  ·
   refine (o_val (r_ld (v := t.cs.v) H (i := 0) rfl rfl ct74 rfl) ?_)
   refine ⟨H.sub (.cons _ (.cons_cons _ (List.nil_sublist _))), ?_⟩
   replace HS := H.sub (.cons _ (.cons_cons _ (List.nil_sublist _)))
   refine t_take 2 rfl (by kernel_rfl) (by kernel_rfl) (by kernel_rfl) (fun _ _ _ h => h) (fun w HS => r_lens el74 rfl) HS ?_
   refine t_take 3 rfl (by kernel_rfl) (by kernel_rfl) (by kernel_rfl) (fun _ _ _ h => h) (fun w HS => r_bin (a := (t.cs.len : Int)) (b := 2) rfl rfl (fun _ => b_add (by omega) (by omega))) HS ?_
   refine t_all [4, 6] (by kernel_rfl) (by simp) (all_cons (w_op 4 rfl ?_) (all_cons (w_op 6 rfl ?_) (all_nil)))
   ·
    refine (o_makeG (enc := cavE) ((0 : UInt8), (0 : Int)) 0 (t.cs.len + 2) H sl74 zc78 rfl (by decide) rfl rfl rfl (by omega) (Nat.zero_le _) (by omega) (by omega) (fun b3 w H hb3 => ?_))
    replace H : Hp _ w _ ([_, _, .blk b3 ((List.replicate (t.cs.len + 2) ((0 : UInt8), (0 : Int))).flatMap cavE) 78]) := H
    refine ⟨H.sub (.cons _ (.cons_cons _ (List.nil_sublist _))), ?_⟩
    replace HS := H.sub (.cons _ (.cons_cons _ (List.nil_sublist _)))
    refine t_step 6 rfl (by kernel_rfl) (o_val (r_ld (v := t.cs.v) H (i := 0) rfl rfl ct74 rfl) ?_)
    refine ⟨H.sub (.cons _ (.cons_cons _ (List.nil_sublist _))), ?_⟩
    replace HS := H.sub (.cons _ (.cons_cons _ (List.nil_sublist _)))
    refine t_step 7 rfl (by kernel_rfl) (o_appGB (enc := cavE) (s := t.cs) (len := 0) (len' := t.cs.len) (l := []) (rest := List.replicate (t.cs.len + 2) ((0 : UInt8), (0 : Int))) (l' := (t.cs.l ++ [((0 : UInt8), (0 : Int))]) ++ [((0 : UInt8), (0 : Int))]) H (i := 2) rfl (fun _ _ => rfl) rfl (by rw [List.length_replicate]; omega) (by rw [List.length_replicate]; omega) (by rw [List.drop_replicate, hcl, show t.cs.len + 2 - t.cs.len = 2 by omega]; simp [List.replicate]) (Nat.zero_add _) sl74 Try.underlying74 rfl rfl (hc.up H) (by decide) (fun _ _ => rfl) (fun w H => ?_))
    replace H : Hp _ w _ ([_, _, .blk b3 (((t.cs.l ++ [((0 : UInt8), (0 : Int))]) ++ [((0 : UInt8), (0 : Int))]).flatMap cavE) 78]) := H
    refine ⟨H.sub (.cons _ (.cons_cons _ (List.nil_sublist _))), ?_⟩
    replace HS := H.sub (.cons _ (.cons_cons _ (List.nil_sublist _)))
    refine t_take 8 rfl (by kernel_rfl) (by kernel_rfl) (by kernel_rfl) (fun _ _ _ h => h) (fun w HS => r_fa rfl fo76_5) HS ?_
    refine t_step 9 rfl (by kernel_rfl) (o_st (v := (⟨some ⟨b3, 0, none⟩, t.cs.len, t.cs.len + 2, t.cs.l⟩ : Gl Cav).v) H (i := 0) rfl rfl rfl cs74 rfl (by simp only [List.length_append, List.length_cons, List.length_nil]; omega) (fun w H => ?_))
    replace H : Hp _ w _ ([.blk b1 ([V64 t.serial, .string ⟨(t.tenant).toArray⟩, V8 t.rights, VI t.from_, VI t.until_, (⟨some ⟨b3, 0, none⟩, t.cs.len, t.cs.len + 2, t.cs.l⟩ : Gl Cav).v] ++ (t.tag).map V8) 76, _, _]) := H
    refine ⟨H.sub (.cons _ (.cons_cons _ (List.nil_sublist _))), ?_⟩
    replace HS := H.sub (.cons _ (.cons_cons _ (List.nil_sublist _)))
    refine t_done (by kernel_rfl) ?_
    clear HS
    repeat refine c_seq ?_
    refine c_region ?_
    refine l_op (o_val (r_ldA (C := [V64 t.serial, .string ⟨(t.tenant).toArray⟩, V8 t.rights, VI t.from_, VI t.until_, (⟨some ⟨b3, 0, none⟩, t.cs.len, t.cs.len + 2, t.cs.l⟩ : Gl Cav).v] ++ (t.tag).map V8) H (i := 0) rfl rfl rt76 (by rw [List.length_append, List.length_map, (show (t.tag).length = 32 from htag)]; rfl)) ?_)
    refine l_op (o_stW (C' := [V64 t.serial, .string ⟨(t.tenant).toArray⟩, V8 t.rights, VI t.from_, VI t.until_, (⟨some ⟨b3, 0, none⟩, t.cs.len, t.cs.len + 2, t.cs.l⟩ : Gl Cav).v] ++ (t.tag).map V8) H (i := 1) rfl rfl rfl cs76 (by simp [Value.oneCell', Gl.v]) (by rw [List.length_append, List.length_map, (show (List.replicate 32 (0 : UInt8)).length = 32 from (List.length_replicate ..))]; rfl) (by rw [List.length_append, List.length_map, (show (t.tag).length = 32 from htag)]; rfl) (fun w H => ?_))
    replace H : Hp _ w _ ([_, .blk b2 ([V64 t.serial, .string ⟨(t.tenant).toArray⟩, V8 t.rights, VI t.from_, VI t.until_, (⟨some ⟨b3, 0, none⟩, t.cs.len, t.cs.len + 2, t.cs.l⟩ : Gl Cav).v] ++ (t.tag).map V8) 76, _]) := H
    first | refine l_end ?_ | refine l_nil ?_
    refine c_ret ?_
    try dsimp only [Exit.then, Exit.inBlock]
    refine e_retc Try.results67 H (i := 1) rfl rfl rt76 (by rw [List.length_append, List.length_map, (show (t.tag).length = 32 from htag)]; rfl) ?_
    refine ⟨_, rfl, ?_⟩
    exact ⟨_, rfl, H.sub (.cons _ (.cons _ (.cons_cons _ (List.nil_sublist _))))⟩
   ·
    refine (o_val (r_ld (v := t.cs.v) H (i := 0) rfl rfl ct74 rfl) ?_)
    refine ⟨H.sub (.cons _ (.cons_cons _ (List.nil_sublist _))), ?_⟩
    replace HS := H.sub (.cons _ (.cons_cons _ (List.nil_sublist _)))
    refine t_step 4 rfl (by kernel_rfl) (o_makeG (enc := cavE) ((0 : UInt8), (0 : Int)) 0 (t.cs.len + 2) H sl74 zc78 rfl (by decide) rfl rfl rfl (by omega) (Nat.zero_le _) (by omega) (by omega) (fun b4 w H hb4 => ?_))
    replace H : Hp _ w _ ([_, _, .blk b4 ((List.replicate (t.cs.len + 2) ((0 : UInt8), (0 : Int))).flatMap cavE) 78]) := H
    refine ⟨H.sub (.cons _ (.cons_cons _ (List.nil_sublist _))), ?_⟩
    replace HS := H.sub (.cons _ (.cons_cons _ (List.nil_sublist _)))
    refine t_step 7 rfl (by kernel_rfl) (o_appGB (enc := cavE) (s := t.cs) (len := 0) (len' := t.cs.len) (l := []) (rest := List.replicate (t.cs.len + 2) ((0 : UInt8), (0 : Int))) (l' := (t.cs.l ++ [((0 : UInt8), (0 : Int))]) ++ [((0 : UInt8), (0 : Int))]) H (i := 2) rfl (fun _ _ => rfl) rfl (by rw [List.length_replicate]; omega) (by rw [List.length_replicate]; omega) (by rw [List.drop_replicate, hcl, show t.cs.len + 2 - t.cs.len = 2 by omega]; simp [List.replicate]) (Nat.zero_add _) sl74 Try.underlying74 rfl rfl (hc.up H) (by decide) (fun _ _ => rfl) (fun w H => ?_))
    replace H : Hp _ w _ ([_, _, .blk b4 (((t.cs.l ++ [((0 : UInt8), (0 : Int))]) ++ [((0 : UInt8), (0 : Int))]).flatMap cavE) 78]) := H
    refine ⟨H.sub (.cons _ (.cons_cons _ (List.nil_sublist _))), ?_⟩
    replace HS := H.sub (.cons _ (.cons_cons _ (List.nil_sublist _)))
    refine t_take 8 rfl (by kernel_rfl) (by kernel_rfl) (by kernel_rfl) (fun _ _ _ h => h) (fun w HS => r_fa rfl fo76_5) HS ?_
    refine t_step 9 rfl (by kernel_rfl) (o_st (v := (⟨some ⟨b4, 0, none⟩, t.cs.len, t.cs.len + 2, t.cs.l⟩ : Gl Cav).v) H (i := 0) rfl rfl rfl cs74 rfl (by simp only [List.length_append, List.length_cons, List.length_nil]; omega) (fun w H => ?_))
    replace H : Hp _ w _ ([.blk b1 ([V64 t.serial, .string ⟨(t.tenant).toArray⟩, V8 t.rights, VI t.from_, VI t.until_, (⟨some ⟨b4, 0, none⟩, t.cs.len, t.cs.len + 2, t.cs.l⟩ : Gl Cav).v] ++ (t.tag).map V8) 76, _, _]) := H
    refine ⟨H.sub (.cons _ (.cons_cons _ (List.nil_sublist _))), ?_⟩
    replace HS := H.sub (.cons _ (.cons_cons _ (List.nil_sublist _)))
    refine t_done (by kernel_rfl) ?_
    clear HS
    repeat refine c_seq ?_
    refine c_region ?_
    refine l_op (o_val (r_ldA (C := [V64 t.serial, .string ⟨(t.tenant).toArray⟩, V8 t.rights, VI t.from_, VI t.until_, (⟨some ⟨b4, 0, none⟩, t.cs.len, t.cs.len + 2, t.cs.l⟩ : Gl Cav).v] ++ (t.tag).map V8) H (i := 0) rfl rfl rt76 (by rw [List.length_append, List.length_map, (show (t.tag).length = 32 from htag)]; rfl)) ?_)
    refine l_op (o_stW (C' := [V64 t.serial, .string ⟨(t.tenant).toArray⟩, V8 t.rights, VI t.from_, VI t.until_, (⟨some ⟨b4, 0, none⟩, t.cs.len, t.cs.len + 2, t.cs.l⟩ : Gl Cav).v] ++ (t.tag).map V8) H (i := 1) rfl rfl rfl cs76 (by simp [Value.oneCell', Gl.v]) (by rw [List.length_append, List.length_map, (show (List.replicate 32 (0 : UInt8)).length = 32 from (List.length_replicate ..))]; rfl) (by rw [List.length_append, List.length_map, (show (t.tag).length = 32 from htag)]; rfl) (fun w H => ?_))
    replace H : Hp _ w _ ([_, .blk b2 ([V64 t.serial, .string ⟨(t.tenant).toArray⟩, V8 t.rights, VI t.from_, VI t.until_, (⟨some ⟨b4, 0, none⟩, t.cs.len, t.cs.len + 2, t.cs.l⟩ : Gl Cav).v] ++ (t.tag).map V8) 76, _]) := H
    first | refine l_end ?_ | refine l_nil ?_
    refine c_ret ?_
    try dsimp only [Exit.then, Exit.inBlock]
    refine e_retc Try.results67 H (i := 1) rfl rfl rt76 (by rw [List.length_append, List.length_map, (show (t.tag).length = 32 from htag)]; rfl) ?_
    refine ⟨_, rfl, ?_⟩
    exact ⟨_, rfl, H.sub (.cons _ (.cons _ (.cons_cons _ (List.nil_sublist _))))⟩
  ·
   refine (o_val (r_ld (v := t.cs.v) H (i := 0) rfl rfl ct74 rfl) ?_)
   refine ⟨H.sub (.cons _ (.cons_cons _ (List.nil_sublist _))), ?_⟩
   replace HS := H.sub (.cons _ (.cons_cons _ (List.nil_sublist _)))
   refine t_step 1 rfl (by kernel_rfl) (o_val (r_ld (v := t.cs.v) H (i := 0) rfl rfl ct74 rfl) ?_)
   refine ⟨H.sub (.cons _ (.cons_cons _ (List.nil_sublist _))), ?_⟩
   replace HS := H.sub (.cons _ (.cons_cons _ (List.nil_sublist _)))
   refine t_take 2 rfl (by kernel_rfl) (by kernel_rfl) (by kernel_rfl) (fun _ _ _ h => h) (fun w HS => r_lens el74 rfl) HS ?_
   refine t_take 3 rfl (by kernel_rfl) (by kernel_rfl) (by kernel_rfl) (fun _ _ _ h => h) (fun w HS => r_bin (a := (t.cs.len : Int)) (b := 2) rfl rfl (fun _ => b_add (by omega) (by omega))) HS ?_
   refine t_step 4 rfl (by kernel_rfl) (o_makeG (enc := cavE) ((0 : UInt8), (0 : Int)) 0 (t.cs.len + 2) H sl74 zc78 rfl (by decide) rfl rfl rfl (by omega) (Nat.zero_le _) (by omega) (by omega) (fun b5 w H hb5 => ?_))
   replace H : Hp _ w _ ([_, _, .blk b5 ((List.replicate (t.cs.len + 2) ((0 : UInt8), (0 : Int))).flatMap cavE) 78]) := H
   refine ⟨H.sub (.cons _ (.cons_cons _ (List.nil_sublist _))), ?_⟩
   replace HS := H.sub (.cons _ (.cons_cons _ (List.nil_sublist _)))
   refine t_step 7 rfl (by kernel_rfl) (o_appGB (enc := cavE) (s := t.cs) (len := 0) (len' := t.cs.len) (l := []) (rest := List.replicate (t.cs.len + 2) ((0 : UInt8), (0 : Int))) (l' := (t.cs.l ++ [((0 : UInt8), (0 : Int))]) ++ [((0 : UInt8), (0 : Int))]) H (i := 2) rfl (fun _ _ => rfl) rfl (by rw [List.length_replicate]; omega) (by rw [List.length_replicate]; omega) (by rw [List.drop_replicate, hcl, show t.cs.len + 2 - t.cs.len = 2 by omega]; simp [List.replicate]) (Nat.zero_add _) sl74 Try.underlying74 rfl rfl (hc.up H) (by decide) (fun _ _ => rfl) (fun w H => ?_))
   replace H : Hp _ w _ ([_, _, .blk b5 (((t.cs.l ++ [((0 : UInt8), (0 : Int))]) ++ [((0 : UInt8), (0 : Int))]).flatMap cavE) 78]) := H
   refine ⟨H.sub (.cons _ (.cons_cons _ (List.nil_sublist _))), ?_⟩
   replace HS := H.sub (.cons _ (.cons_cons _ (List.nil_sublist _)))
   refine t_take 8 rfl (by kernel_rfl) (by kernel_rfl) (by kernel_rfl) (fun _ _ _ h => h) (fun w HS => r_fa rfl fo76_5) HS ?_
   refine t_step 9 rfl (by kernel_rfl) (o_st (v := (⟨some ⟨b5, 0, none⟩, t.cs.len, t.cs.len + 2, t.cs.l⟩ : Gl Cav).v) H (i := 0) rfl rfl rfl cs74 rfl (by simp only [List.length_append, List.length_cons, List.length_nil]; omega) (fun w H => ?_))
   replace H : Hp _ w _ ([.blk b1 ([V64 t.serial, .string ⟨(t.tenant).toArray⟩, V8 t.rights, VI t.from_, VI t.until_, (⟨some ⟨b5, 0, none⟩, t.cs.len, t.cs.len + 2, t.cs.l⟩ : Gl Cav).v] ++ (t.tag).map V8) 76, _, _]) := H
   refine ⟨H.sub (.cons _ (.cons_cons _ (List.nil_sublist _))), ?_⟩
   replace HS := H.sub (.cons _ (.cons_cons _ (List.nil_sublist _)))
   refine t_done (by kernel_rfl) ?_
   clear HS
   repeat refine c_seq ?_
   refine c_region ?_
   refine l_op (o_val (r_ldA (C := [V64 t.serial, .string ⟨(t.tenant).toArray⟩, V8 t.rights, VI t.from_, VI t.until_, (⟨some ⟨b5, 0, none⟩, t.cs.len, t.cs.len + 2, t.cs.l⟩ : Gl Cav).v] ++ (t.tag).map V8) H (i := 0) rfl rfl rt76 (by rw [List.length_append, List.length_map, (show (t.tag).length = 32 from htag)]; rfl)) ?_)
   refine l_op (o_stW (C' := [V64 t.serial, .string ⟨(t.tenant).toArray⟩, V8 t.rights, VI t.from_, VI t.until_, (⟨some ⟨b5, 0, none⟩, t.cs.len, t.cs.len + 2, t.cs.l⟩ : Gl Cav).v] ++ (t.tag).map V8) H (i := 1) rfl rfl rfl cs76 (by simp [Value.oneCell', Gl.v]) (by rw [List.length_append, List.length_map, (show (List.replicate 32 (0 : UInt8)).length = 32 from (List.length_replicate ..))]; rfl) (by rw [List.length_append, List.length_map, (show (t.tag).length = 32 from htag)]; rfl) (fun w H => ?_))
   replace H : Hp _ w _ ([_, .blk b2 ([V64 t.serial, .string ⟨(t.tenant).toArray⟩, V8 t.rights, VI t.from_, VI t.until_, (⟨some ⟨b5, 0, none⟩, t.cs.len, t.cs.len + 2, t.cs.l⟩ : Gl Cav).v] ++ (t.tag).map V8) 76, _]) := H
   first | refine l_end ?_ | refine l_nil ?_
   refine c_ret ?_
   try dsimp only [Exit.then, Exit.inBlock]
   refine e_retc Try.results67 H (i := 1) rfl rfl rt76 (by rw [List.length_append, List.length_map, (show (t.tag).length = 32 from htag)]; rfl) ?_
   refine ⟨_, rfl, ?_⟩
   exact ⟨_, rfl, H.sub (.cons _ (.cons _ (.cons_cons _ (List.nil_sublist _))))⟩
theorem cap2_z (w0 : World) (t : Tok) (hc : t.cs.ok cavE 2 w0) (_htag : t.tag.length = 32) (h0 : t.cs.len = 0) :
    Ret Try.prog 79 [.agg ([V64 t.serial, .string ⟨(t.tenant).toArray⟩, V8 t.rights, VI t.from_, VI t.until_, t.cs.v] ++ (t.tag).map V8).toArray] w0 fun v w' => v = VI 0 ∧ Hp w0 w' [] [] := by
  refine ret_mk Try.func79 rfl Try.ntmps79 (by simp) ?_
  have H := Hp.refl w0 []
  have hxl := hc.le
  have hxm := hc.mx
  have hcl := hc.ln
  have hmL : maxLen = 9223372036854775807 := rfl
  repeat refine c_seq ?_
  refine c_region ?_
  refine l_op (o_box (v := .agg ([V64 t.serial, .string ⟨(t.tenant).toArray⟩, V8 t.rights, VI t.from_, VI t.until_, t.cs.v] ++ (t.tag).map V8).toArray) H rfl (fun b1 w H hb1 => ?_))
  replace H : Hp _ w _ ([.blk b1 ([V64 t.serial, .string ⟨(t.tenant).toArray⟩, V8 t.rights, VI t.from_, VI t.until_, t.cs.v] ++ (t.tag).map V8) 76]) := H
  refine l_op (o_val (r_as) ?_)
  first | refine l_end ?_ | refine l_nil ?_
  repeat refine c_seq ?_
  refine c_region ?_
  refine l_op (o_val (r_fa rfl fo76_5) ?_)
  refine l_op (o_val (r_ld (v := t.cs.v) H (i := 0) rfl rfl ct74 rfl) ?_)
  refine l_op (o_val (r_lens el74 rfl) ?_)
  refine l_op (o_val (r_bin (a := (t.cs.len : Int)) (b := 0) rfl rfl (fun _ => b_eqlB true (decide_eq_true (by omega)))) ?_)
  first | refine l_end ?_ | refine l_nil ?_
  repeat refine c_seq ?_
  refine c_yes rfl ?_
  repeat refine c_seq ?_
  refine c_region ?_
  refine l_op (o_val (r_as) ?_)
  first | refine l_end ?_ | refine l_nil ?_
  refine c_ret ?_
  try dsimp only [Exit.then, Exit.inBlock]
  refine e_ret1 (v := VI 0) Try.results79 rfl ?_
  refine ⟨_, rfl, ?_⟩
  exact ⟨rfl, H.sub (List.nil_sublist _)⟩
theorem cap2_s (w0 : World) (t : Tok) (hc : t.cs.ok cavE 2 w0) (_htag : t.tag.length = 32) (h64 : t.cs.len ≤ 65536) (h0 : ¬ t.cs.len = 0) :
    Ret Try.prog 79 [.agg ([V64 t.serial, .string ⟨(t.tenant).toArray⟩, V8 t.rights, VI t.from_, VI t.until_, t.cs.v] ++ (t.tag).map V8).toArray] w0 fun v w' => v = VI ((t.cs.len : Int) + 1) ∧ Hp w0 w' [] [] := by
  refine ret_mk Try.func79 rfl Try.ntmps79 (by simp) ?_
  have H := Hp.refl w0 []
  have hxl := hc.le
  have hxm := hc.mx
  have hcl := hc.ln
  have hmL : maxLen = 9223372036854775807 := rfl
  repeat refine c_seq ?_
  refine c_region ?_
  refine l_op (o_box (v := .agg ([V64 t.serial, .string ⟨(t.tenant).toArray⟩, V8 t.rights, VI t.from_, VI t.until_, t.cs.v] ++ (t.tag).map V8).toArray) H rfl (fun b1 w H hb1 => ?_))
  replace H : Hp _ w _ ([.blk b1 ([V64 t.serial, .string ⟨(t.tenant).toArray⟩, V8 t.rights, VI t.from_, VI t.until_, t.cs.v] ++ (t.tag).map V8) 76]) := H
  refine l_op (o_val (r_as) ?_)
  first | refine l_end ?_ | refine l_nil ?_
  repeat refine c_seq ?_
  refine c_region ?_
  refine l_op (o_val (r_fa rfl fo76_5) ?_)
  refine l_op (o_val (r_ld (v := t.cs.v) H (i := 0) rfl rfl ct74 rfl) ?_)
  refine l_op (o_val (r_lens el74 rfl) ?_)
  refine l_op (o_val (r_bin (a := (t.cs.len : Int)) (b := 0) rfl rfl (fun _ => b_eqlB false (decide_eq_false (by omega)))) ?_)
  first | refine l_end ?_ | refine l_nil ?_
  repeat refine c_seq ?_
  refine c_no rfl ?_
  refine c_skip ?_
  repeat refine c_seq ?_
  refine c_region ?_
  refine l_op (o_val (r_fa rfl fo76_5) ?_)
  refine l_op (o_val (r_ld (v := t.cs.v) H (i := 0) rfl rfl ct74 rfl) ?_)
  refine l_op (o_val (r_lens el74 rfl) ?_)
  refine l_op (o_val (r_bin (a := (t.cs.len : Int)) (b := 1) rfl rfl (fun _ => b_add (by omega) (by omega))) ?_)
  refine l_op (o_val (r_as) ?_)
  first | refine l_end ?_ | refine l_nil ?_
  refine c_ret ?_
  try dsimp only [Exit.then, Exit.inBlock]
  refine e_ret1 (v := VI ((t.cs.len : Int) + 1)) Try.results79 rfl ?_
  refine ⟨_, rfl, ?_⟩
  exact ⟨rfl, H.sub (List.nil_sublist _)⟩
theorem issue_n1 (w0 : World) (key : List UInt8) (_hk : key.length = 32) (t : Tok) (hc : t.cs.ok cavE 2 w0) (htag : t.tag.length = 32) (hn : t.tenant.length ≤ 65536) (hm : mayT t = false) :
    Ret Try.prog 68 [.agg ((key).map V8).toArray, .agg ([V64 t.serial, .string ⟨(t.tenant).toArray⟩, V8 t.rights, VI t.from_, VI t.until_, t.cs.v] ++ (t.tag).map V8).toArray] w0 fun v w' => v = .tuple #[.agg (([V64 0, .string ⟨([] : List UInt8).toArray⟩, V8 0, VI 0, VI 0, .slice none 0 0] : List Value) ++ (List.replicate 32 (0 : UInt8)).map V8).toArray, VI 1] ∧ Hp w0 w' [] [] := by
  refine ret_mk Try.func68 rfl Try.ntmps68 (by simp) ?_
  have H := Hp.refl w0 []
  repeat refine c_seq ?_
  refine c_region ?_
  refine l_op (o_box (v := .agg ((key).map V8).toArray) H rfl (fun b1 w H hb1 => ?_))
  replace H : Hp _ w _ ([.blk b1 ((key).map V8) 31]) := H
  refine l_op (o_box (v := .agg ([V64 t.serial, .string ⟨(t.tenant).toArray⟩, V8 t.rights, VI t.from_, VI t.until_, t.cs.v] ++ (t.tag).map V8).toArray) H rfl (fun b2 w H hb2 => ?_))
  replace H : Hp _ w _ ([_, .blk b2 ([V64 t.serial, .string ⟨(t.tenant).toArray⟩, V8 t.rights, VI t.from_, VI t.until_, t.cs.v] ++ (t.tag).map V8) 76]) := H
  refine l_op (o_alloc H zc76 (fun b3 w H hb3 => ?_))
  replace H : Hp _ w _ ([_, _, .blk b3 ([V64 (0 : UInt64), .string ⟨(([] : List UInt8)).toArray⟩, V8 (0 : UInt8), VI 0, VI 0, .slice none 0 0] ++ (List.replicate 32 (0 : UInt8)).map V8) 76]) := H
  refine l_op (o_val (r_as) ?_)
  first | refine l_end ?_ | refine l_nil ?_
  repeat refine c_seq ?_
  refine c_region ?_
  refine l_op (o_val (r_ldA (C := [V64 t.serial, .string ⟨(t.tenant).toArray⟩, V8 t.rights, VI t.from_, VI t.until_, t.cs.v] ++ (t.tag).map V8) H (i := 1) rfl rfl rt76 (by rw [List.length_append, List.length_map, (show (t.tag).length = 32 from htag)]; rfl)) ?_)
  refine l_op (o_callR Try.func75 rfl rfl rfl (may_ret _ t (hc.up H) (show (t.tag).length = 32 from htag) (by first | omega | (dsimp only; omega) | simp)) ?_)
  rintro _ w ⟨rfl, Hc⟩
  replace H : Hp _ w _ ([_, _, _]) := H.call Hc
  clear Hc
  have hk4 : (mayT t) = false := hm
  refine l_op (o_val (r_not rfl) ?_)
  refine l_op (o_val (r_mv) ?_)
  refine l_no rfl rfl (by exact congrArg Value.bool (congrArg not hk4)) rfl ?_
  refine l_no rfl rfl (by exact congrArg Value.bool (congrArg not hk4)) rfl ?_
  refine l_no rfl rfl (by exact congrArg Value.bool (congrArg not hk4)) rfl ?_
  refine l_no rfl rfl (by exact congrArg Value.bool (congrArg not hk4)) rfl ?_
  refine l_op (o_val (r_pick (b := true) (congrArg Value.bool (congrArg not hk4))) ?_)
  first | refine l_end ?_ | refine l_nil ?_
  repeat refine c_seq ?_
  refine c_yes rfl ?_
  repeat refine c_seq ?_
  refine c_region ?_
  refine l_op (o_val (r_bld' (cells := ([V64 (0 : UInt64), .string ⟨(([] : List UInt8)).toArray⟩, V8 (0 : UInt8), VI 0, VI 0, .slice none 0 0] ++ (List.replicate 32 (0 : UInt8)).map V8).toArray) (pv := []) bd76 rfl rfl) ?_)
  refine l_op (o_stW (C' := [V64 (0 : UInt64), .string ⟨(([] : List UInt8)).toArray⟩, V8 (0 : UInt8), VI 0, VI 0, .slice none 0 0] ++ (List.replicate 32 (0 : UInt8)).map V8) H (i := 2) rfl rfl rfl cs76 (by simp [Value.oneCell']) (by rw [List.length_append, List.length_map, (show (List.replicate 32 (0 : UInt8)).length = 32 from (List.length_replicate ..))]; rfl) (by rw [List.length_append, List.length_map, (show (List.replicate 32 (0 : UInt8)).length = 32 from (List.length_replicate ..))]; rfl) (fun w H => ?_))
  replace H : Hp _ w _ [_, _, _] := H
  refine l_op (o_val (r_as) ?_)
  first | refine l_end ?_ | refine l_nil ?_
  refine c_ret ?_
  try dsimp only [Exit.then, Exit.inBlock]
  refine e_retN (vs := [.agg ([V64 (0 : UInt64), .string ⟨(([] : List UInt8)).toArray⟩, V8 (0 : UInt8), VI 0, VI 0, .slice none 0 0] ++ (List.replicate 32 (0 : UInt8)).map V8).toArray, VI 1]) _ Try.results68 rfl (H.resR (C := [V64 (0 : UInt64), .string ⟨(([] : List UInt8)).toArray⟩, V8 (0 : UInt8), VI 0, VI 0, .slice none 0 0] ++ (List.replicate 32 (0 : UInt8)).map V8) (i := 2) rfl rfl rt76 (by rw [List.length_append, List.length_map, (show (List.replicate 32 (0 : UInt8)).length = 32 from (List.length_replicate ..))]; rfl) (resT (v := VI 1) rfl (resZ))) ?_
  refine ⟨_, rfl, ?_⟩
  exact ⟨rfl, H.sub (List.nil_sublist _)⟩
theorem issue_n2 (w0 : World) (key : List UInt8) (_hk : key.length = 32) (t : Tok) (hc : t.cs.ok cavE 2 w0) (htag : t.tag.length = 32) (hn : t.tenant.length ≤ 65536) (hm : mayT t = true) (h0 : ¬ t.cs.len = 0) :
    Ret Try.prog 68 [.agg ((key).map V8).toArray, .agg ([V64 t.serial, .string ⟨(t.tenant).toArray⟩, V8 t.rights, VI t.from_, VI t.until_, t.cs.v] ++ (t.tag).map V8).toArray] w0 fun v w' => v = .tuple #[.agg (([V64 0, .string ⟨([] : List UInt8).toArray⟩, V8 0, VI 0, VI 0, .slice none 0 0] : List Value) ++ (List.replicate 32 (0 : UInt8)).map V8).toArray, VI 1] ∧ Hp w0 w' [] [] := by
  refine ret_mk Try.func68 rfl Try.ntmps68 (by simp) ?_
  have H := Hp.refl w0 []
  repeat refine c_seq ?_
  refine c_region ?_
  refine l_op (o_box (v := .agg ((key).map V8).toArray) H rfl (fun b1 w H hb1 => ?_))
  replace H : Hp _ w _ ([.blk b1 ((key).map V8) 31]) := H
  refine l_op (o_box (v := .agg ([V64 t.serial, .string ⟨(t.tenant).toArray⟩, V8 t.rights, VI t.from_, VI t.until_, t.cs.v] ++ (t.tag).map V8).toArray) H rfl (fun b2 w H hb2 => ?_))
  replace H : Hp _ w _ ([_, .blk b2 ([V64 t.serial, .string ⟨(t.tenant).toArray⟩, V8 t.rights, VI t.from_, VI t.until_, t.cs.v] ++ (t.tag).map V8) 76]) := H
  refine l_op (o_alloc H zc76 (fun b3 w H hb3 => ?_))
  replace H : Hp _ w _ ([_, _, .blk b3 ([V64 (0 : UInt64), .string ⟨(([] : List UInt8)).toArray⟩, V8 (0 : UInt8), VI 0, VI 0, .slice none 0 0] ++ (List.replicate 32 (0 : UInt8)).map V8) 76]) := H
  refine l_op (o_val (r_as) ?_)
  first | refine l_end ?_ | refine l_nil ?_
  repeat refine c_seq ?_
  refine c_region ?_
  refine l_op (o_val (r_ldA (C := [V64 t.serial, .string ⟨(t.tenant).toArray⟩, V8 t.rights, VI t.from_, VI t.until_, t.cs.v] ++ (t.tag).map V8) H (i := 1) rfl rfl rt76 (by rw [List.length_append, List.length_map, (show (t.tag).length = 32 from htag)]; rfl)) ?_)
  refine l_op (o_callR Try.func75 rfl rfl rfl (may_ret _ t (hc.up H) (show (t.tag).length = 32 from htag) (by first | omega | (dsimp only; omega) | simp)) ?_)
  rintro _ w ⟨rfl, Hc⟩
  replace H : Hp _ w _ ([_, _, _]) := H.call Hc
  clear Hc
  have hk4 : (mayT t) = true := hm
  refine l_op (o_val (r_not rfl) ?_)
  refine l_op (o_val (r_mv) ?_)
  refine l_yes rfl rfl (by exact congrArg Value.bool (congrArg not hk4)) (o_val (r_fa rfl fo76_5) ?_)
  refine l_yes rfl rfl (by exact congrArg Value.bool (congrArg not hk4)) (o_val (r_ld (v := t.cs.v) H (i := 1) rfl rfl ct74 rfl) ?_)
  refine l_yes rfl rfl (by exact congrArg Value.bool (congrArg not hk4)) (o_val (r_lens el74 rfl) ?_)
  refine l_yes rfl rfl (by exact congrArg Value.bool (congrArg not hk4)) (o_val (r_bin (a := (t.cs.len : Int)) (b := 0) rfl rfl (fun _ => b_gtrB true (decide_eq_true (by omega)))) ?_)
  refine l_op (o_val (r_pick (b := false) (congrArg Value.bool (congrArg not hk4))) ?_)
  first | refine l_end ?_ | refine l_nil ?_
  repeat refine c_seq ?_
  refine c_yes rfl ?_
  repeat refine c_seq ?_
  refine c_region ?_
  refine l_op (o_val (r_bld' (cells := ([V64 (0 : UInt64), .string ⟨(([] : List UInt8)).toArray⟩, V8 (0 : UInt8), VI 0, VI 0, .slice none 0 0] ++ (List.replicate 32 (0 : UInt8)).map V8).toArray) (pv := []) bd76 rfl rfl) ?_)
  refine l_op (o_stW (C' := [V64 (0 : UInt64), .string ⟨(([] : List UInt8)).toArray⟩, V8 (0 : UInt8), VI 0, VI 0, .slice none 0 0] ++ (List.replicate 32 (0 : UInt8)).map V8) H (i := 2) rfl rfl rfl cs76 (by simp [Value.oneCell']) (by rw [List.length_append, List.length_map, (show (List.replicate 32 (0 : UInt8)).length = 32 from (List.length_replicate ..))]; rfl) (by rw [List.length_append, List.length_map, (show (List.replicate 32 (0 : UInt8)).length = 32 from (List.length_replicate ..))]; rfl) (fun w H => ?_))
  replace H : Hp _ w _ [_, _, _] := H
  refine l_op (o_val (r_as) ?_)
  first | refine l_end ?_ | refine l_nil ?_
  refine c_ret ?_
  try dsimp only [Exit.then, Exit.inBlock]
  refine e_retN (vs := [.agg ([V64 (0 : UInt64), .string ⟨(([] : List UInt8)).toArray⟩, V8 (0 : UInt8), VI 0, VI 0, .slice none 0 0] ++ (List.replicate 32 (0 : UInt8)).map V8).toArray, VI 1]) _ Try.results68 rfl (H.resR (C := [V64 (0 : UInt64), .string ⟨(([] : List UInt8)).toArray⟩, V8 (0 : UInt8), VI 0, VI 0, .slice none 0 0] ++ (List.replicate 32 (0 : UInt8)).map V8) (i := 2) rfl rfl rt76 (by rw [List.length_append, List.length_map, (show (List.replicate 32 (0 : UInt8)).length = 32 from (List.length_replicate ..))]; rfl) (resT (v := VI 1) rfl (resZ))) ?_
  refine ⟨_, rfl, ?_⟩
  exact ⟨rfl, H.sub (List.nil_sublist _)⟩
theorem issuer_n1 (w0 : World) (key : List UInt8) (_hk : key.length = 32) (t : Tok) (hc : t.cs.ok cavE 2 w0) (htag : t.tag.length = 32) (hn : t.tenant.length ≤ 65536) (hm : mayT t = false) :
    Ret Try.prog 69 [.agg ((key).map V8).toArray, .agg ([V64 t.serial, .string ⟨(t.tenant).toArray⟩, V8 t.rights, VI t.from_, VI t.until_, t.cs.v] ++ (t.tag).map V8).toArray] w0 fun v w' => v = .tuple #[.agg (([V64 0, .string ⟨([] : List UInt8).toArray⟩, V8 0, VI 0, VI 0, .slice none 0 0] : List Value) ++ (List.replicate 32 (0 : UInt8)).map V8).toArray, VI 1] ∧ Hp w0 w' [] [] := by
  refine ret_mk Try.func69 rfl Try.ntmps69 (by simp) ?_
  have H := Hp.refl w0 []
  repeat refine c_seq ?_
  refine c_region ?_
  refine l_op (o_box (v := .agg ((key).map V8).toArray) H rfl (fun b1 w H hb1 => ?_))
  replace H : Hp _ w _ ([.blk b1 ((key).map V8) 31]) := H
  refine l_op (o_box (v := .agg ([V64 t.serial, .string ⟨(t.tenant).toArray⟩, V8 t.rights, VI t.from_, VI t.until_, t.cs.v] ++ (t.tag).map V8).toArray) H rfl (fun b2 w H hb2 => ?_))
  replace H : Hp _ w _ ([_, .blk b2 ([V64 t.serial, .string ⟨(t.tenant).toArray⟩, V8 t.rights, VI t.from_, VI t.until_, t.cs.v] ++ (t.tag).map V8) 76]) := H
  refine l_op (o_alloc H zc76 (fun b3 w H hb3 => ?_))
  replace H : Hp _ w _ ([_, _, .blk b3 ([V64 (0 : UInt64), .string ⟨(([] : List UInt8)).toArray⟩, V8 (0 : UInt8), VI 0, VI 0, .slice none 0 0] ++ (List.replicate 32 (0 : UInt8)).map V8) 76]) := H
  refine l_op (o_val (r_as) ?_)
  first | refine l_end ?_ | refine l_nil ?_
  repeat refine c_seq ?_
  refine c_region ?_
  refine l_op (o_val (r_ldA (C := [V64 t.serial, .string ⟨(t.tenant).toArray⟩, V8 t.rights, VI t.from_, VI t.until_, t.cs.v] ++ (t.tag).map V8) H (i := 1) rfl rfl rt76 (by rw [List.length_append, List.length_map, (show (t.tag).length = 32 from htag)]; rfl)) ?_)
  refine l_op (o_callR Try.func76 rfl rfl rfl (may14_ret _ t (hc.up H) (show (t.tag).length = 32 from htag) (by first | omega | (dsimp only; omega) | simp)) ?_)
  rintro _ w ⟨rfl, Hc⟩
  replace H : Hp _ w _ ([_, _, _]) := H.call Hc
  clear Hc
  have hk4 : (mayT t) = false := hm
  refine l_op (o_val (r_not rfl) ?_)
  refine l_op (o_val (r_mv) ?_)
  refine l_no rfl rfl (by exact congrArg Value.bool (congrArg not hk4)) rfl ?_
  refine l_no rfl rfl (by exact congrArg Value.bool (congrArg not hk4)) rfl ?_
  refine l_no rfl rfl (by exact congrArg Value.bool (congrArg not hk4)) rfl ?_
  refine l_no rfl rfl (by exact congrArg Value.bool (congrArg not hk4)) rfl ?_
  refine l_op (o_val (r_pick (b := true) (congrArg Value.bool (congrArg not hk4))) ?_)
  first | refine l_end ?_ | refine l_nil ?_
  repeat refine c_seq ?_
  refine c_yes rfl ?_
  repeat refine c_seq ?_
  refine c_region ?_
  refine l_op (o_val (r_bld' (cells := ([V64 (0 : UInt64), .string ⟨(([] : List UInt8)).toArray⟩, V8 (0 : UInt8), VI 0, VI 0, .slice none 0 0] ++ (List.replicate 32 (0 : UInt8)).map V8).toArray) (pv := []) bd76 rfl rfl) ?_)
  refine l_op (o_stW (C' := [V64 (0 : UInt64), .string ⟨(([] : List UInt8)).toArray⟩, V8 (0 : UInt8), VI 0, VI 0, .slice none 0 0] ++ (List.replicate 32 (0 : UInt8)).map V8) H (i := 2) rfl rfl rfl cs76 (by simp [Value.oneCell']) (by rw [List.length_append, List.length_map, (show (List.replicate 32 (0 : UInt8)).length = 32 from (List.length_replicate ..))]; rfl) (by rw [List.length_append, List.length_map, (show (List.replicate 32 (0 : UInt8)).length = 32 from (List.length_replicate ..))]; rfl) (fun w H => ?_))
  replace H : Hp _ w _ [_, _, _] := H
  refine l_op (o_val (r_as) ?_)
  first | refine l_end ?_ | refine l_nil ?_
  refine c_ret ?_
  try dsimp only [Exit.then, Exit.inBlock]
  refine e_retN (vs := [.agg ([V64 (0 : UInt64), .string ⟨(([] : List UInt8)).toArray⟩, V8 (0 : UInt8), VI 0, VI 0, .slice none 0 0] ++ (List.replicate 32 (0 : UInt8)).map V8).toArray, VI 1]) _ Try.results69 rfl (H.resR (C := [V64 (0 : UInt64), .string ⟨(([] : List UInt8)).toArray⟩, V8 (0 : UInt8), VI 0, VI 0, .slice none 0 0] ++ (List.replicate 32 (0 : UInt8)).map V8) (i := 2) rfl rfl rt76 (by rw [List.length_append, List.length_map, (show (List.replicate 32 (0 : UInt8)).length = 32 from (List.length_replicate ..))]; rfl) (resT (v := VI 1) rfl (resZ))) ?_
  refine ⟨_, rfl, ?_⟩
  exact ⟨rfl, H.sub (List.nil_sublist _)⟩
theorem issuer_n2 (w0 : World) (key : List UInt8) (_hk : key.length = 32) (t : Tok) (hc : t.cs.ok cavE 2 w0) (htag : t.tag.length = 32) (hn : t.tenant.length ≤ 65536) (hm : mayT t = true) (h0 : ¬ t.cs.len = 0) :
    Ret Try.prog 69 [.agg ((key).map V8).toArray, .agg ([V64 t.serial, .string ⟨(t.tenant).toArray⟩, V8 t.rights, VI t.from_, VI t.until_, t.cs.v] ++ (t.tag).map V8).toArray] w0 fun v w' => v = .tuple #[.agg (([V64 0, .string ⟨([] : List UInt8).toArray⟩, V8 0, VI 0, VI 0, .slice none 0 0] : List Value) ++ (List.replicate 32 (0 : UInt8)).map V8).toArray, VI 1] ∧ Hp w0 w' [] [] := by
  refine ret_mk Try.func69 rfl Try.ntmps69 (by simp) ?_
  have H := Hp.refl w0 []
  repeat refine c_seq ?_
  refine c_region ?_
  refine l_op (o_box (v := .agg ((key).map V8).toArray) H rfl (fun b1 w H hb1 => ?_))
  replace H : Hp _ w _ ([.blk b1 ((key).map V8) 31]) := H
  refine l_op (o_box (v := .agg ([V64 t.serial, .string ⟨(t.tenant).toArray⟩, V8 t.rights, VI t.from_, VI t.until_, t.cs.v] ++ (t.tag).map V8).toArray) H rfl (fun b2 w H hb2 => ?_))
  replace H : Hp _ w _ ([_, .blk b2 ([V64 t.serial, .string ⟨(t.tenant).toArray⟩, V8 t.rights, VI t.from_, VI t.until_, t.cs.v] ++ (t.tag).map V8) 76]) := H
  refine l_op (o_alloc H zc76 (fun b3 w H hb3 => ?_))
  replace H : Hp _ w _ ([_, _, .blk b3 ([V64 (0 : UInt64), .string ⟨(([] : List UInt8)).toArray⟩, V8 (0 : UInt8), VI 0, VI 0, .slice none 0 0] ++ (List.replicate 32 (0 : UInt8)).map V8) 76]) := H
  refine l_op (o_val (r_as) ?_)
  first | refine l_end ?_ | refine l_nil ?_
  repeat refine c_seq ?_
  refine c_region ?_
  refine l_op (o_val (r_ldA (C := [V64 t.serial, .string ⟨(t.tenant).toArray⟩, V8 t.rights, VI t.from_, VI t.until_, t.cs.v] ++ (t.tag).map V8) H (i := 1) rfl rfl rt76 (by rw [List.length_append, List.length_map, (show (t.tag).length = 32 from htag)]; rfl)) ?_)
  refine l_op (o_callR Try.func76 rfl rfl rfl (may14_ret _ t (hc.up H) (show (t.tag).length = 32 from htag) (by first | omega | (dsimp only; omega) | simp)) ?_)
  rintro _ w ⟨rfl, Hc⟩
  replace H : Hp _ w _ ([_, _, _]) := H.call Hc
  clear Hc
  have hk4 : (mayT t) = true := hm
  refine l_op (o_val (r_not rfl) ?_)
  refine l_op (o_val (r_mv) ?_)
  refine l_yes rfl rfl (by exact congrArg Value.bool (congrArg not hk4)) (o_val (r_fa rfl fo76_5) ?_)
  refine l_yes rfl rfl (by exact congrArg Value.bool (congrArg not hk4)) (o_val (r_ld (v := t.cs.v) H (i := 1) rfl rfl ct74 rfl) ?_)
  refine l_yes rfl rfl (by exact congrArg Value.bool (congrArg not hk4)) (o_val (r_lens el74 rfl) ?_)
  refine l_yes rfl rfl (by exact congrArg Value.bool (congrArg not hk4)) (o_val (r_bin (a := (t.cs.len : Int)) (b := 0) rfl rfl (fun _ => b_gtrB true (decide_eq_true (by omega)))) ?_)
  refine l_op (o_val (r_pick (b := false) (congrArg Value.bool (congrArg not hk4))) ?_)
  first | refine l_end ?_ | refine l_nil ?_
  repeat refine c_seq ?_
  refine c_yes rfl ?_
  repeat refine c_seq ?_
  refine c_region ?_
  refine l_op (o_val (r_bld' (cells := ([V64 (0 : UInt64), .string ⟨(([] : List UInt8)).toArray⟩, V8 (0 : UInt8), VI 0, VI 0, .slice none 0 0] ++ (List.replicate 32 (0 : UInt8)).map V8).toArray) (pv := []) bd76 rfl rfl) ?_)
  refine l_op (o_stW (C' := [V64 (0 : UInt64), .string ⟨(([] : List UInt8)).toArray⟩, V8 (0 : UInt8), VI 0, VI 0, .slice none 0 0] ++ (List.replicate 32 (0 : UInt8)).map V8) H (i := 2) rfl rfl rfl cs76 (by simp [Value.oneCell']) (by rw [List.length_append, List.length_map, (show (List.replicate 32 (0 : UInt8)).length = 32 from (List.length_replicate ..))]; rfl) (by rw [List.length_append, List.length_map, (show (List.replicate 32 (0 : UInt8)).length = 32 from (List.length_replicate ..))]; rfl) (fun w H => ?_))
  replace H : Hp _ w _ [_, _, _] := H
  refine l_op (o_val (r_as) ?_)
  first | refine l_end ?_ | refine l_nil ?_
  refine c_ret ?_
  try dsimp only [Exit.then, Exit.inBlock]
  refine e_retN (vs := [.agg ([V64 (0 : UInt64), .string ⟨(([] : List UInt8)).toArray⟩, V8 (0 : UInt8), VI 0, VI 0, .slice none 0 0] ++ (List.replicate 32 (0 : UInt8)).map V8).toArray, VI 1]) _ Try.results69 rfl (H.resR (C := [V64 (0 : UInt64), .string ⟨(([] : List UInt8)).toArray⟩, V8 (0 : UInt8), VI 0, VI 0, .slice none 0 0] ++ (List.replicate 32 (0 : UInt8)).map V8) (i := 2) rfl rfl rt76 (by rw [List.length_append, List.length_map, (show (List.replicate 32 (0 : UInt8)).length = 32 from (List.length_replicate ..))]; rfl) (resT (v := VI 1) rfl (resZ))) ?_
  refine ⟨_, rfl, ?_⟩
  exact ⟨rfl, H.sub (List.nil_sublist _)⟩
theorem issuer_ok (w0 : World) (key : List UInt8) (hk : key.length = 32) (t : Tok) (hc : t.cs.ok cavE 2 w0) (htag : t.tag.length = 32) (hn : t.tenant.length ≤ 65536) (hb : t.bd) (hm : mayT t = true) (h0 : t.cs.len = 0) :
    Ret Try.prog 69 [.agg ((key).map V8).toArray, .agg ([V64 t.serial, .string ⟨(t.tenant).toArray⟩, V8 t.rights, VI t.from_, VI t.until_, t.cs.v] ++ (t.tag).map V8).toArray] w0 fun v w' => v = .tuple #[.agg ([V64 t.serial, .string ⟨(t.tenant).toArray⟩, V8 t.rights, VI t.from_, VI t.until_, t.cs.v] ++ (hmac key (framed [t.head])).map V8).toArray, VI 0] ∧ Hp w0 w' [] [] := by
  refine ret_mk Try.func69 rfl Try.ntmps69 (by simp) ?_
  have H := Hp.refl w0 []
  repeat refine c_seq ?_
  refine c_region ?_
  refine l_op (o_box (v := .agg ((key).map V8).toArray) H rfl (fun b1 w H hb1 => ?_))
  replace H : Hp _ w _ ([.blk b1 ((key).map V8) 31]) := H
  refine l_op (o_box (v := .agg ([V64 t.serial, .string ⟨(t.tenant).toArray⟩, V8 t.rights, VI t.from_, VI t.until_, t.cs.v] ++ (t.tag).map V8).toArray) H rfl (fun b2 w H hb2 => ?_))
  replace H : Hp _ w _ ([_, .blk b2 ([V64 t.serial, .string ⟨(t.tenant).toArray⟩, V8 t.rights, VI t.from_, VI t.until_, t.cs.v] ++ (t.tag).map V8) 76]) := H
  refine l_op (o_alloc H zc76 (fun b3 w H hb3 => ?_))
  replace H : Hp _ w _ ([_, _, .blk b3 ([V64 (0 : UInt64), .string ⟨(([] : List UInt8)).toArray⟩, V8 (0 : UInt8), VI 0, VI 0, .slice none 0 0] ++ (List.replicate 32 (0 : UInt8)).map V8) 76]) := H
  refine l_op (o_val (r_as) ?_)
  first | refine l_end ?_ | refine l_nil ?_
  repeat refine c_seq ?_
  refine c_region ?_
  refine l_op (o_val (r_ldA (C := [V64 t.serial, .string ⟨(t.tenant).toArray⟩, V8 t.rights, VI t.from_, VI t.until_, t.cs.v] ++ (t.tag).map V8) H (i := 1) rfl rfl rt76 (by rw [List.length_append, List.length_map, (show (t.tag).length = 32 from htag)]; rfl)) ?_)
  refine l_op (o_callR Try.func76 rfl rfl rfl (may14_ret _ t (hc.up H) (show (t.tag).length = 32 from htag) (by first | omega | (dsimp only; omega) | simp)) ?_)
  rintro _ w ⟨rfl, Hc⟩
  replace H : Hp _ w _ ([_, _, _]) := H.call Hc
  clear Hc
  have hk4 : (mayT t) = true := hm
  refine l_op (o_val (r_not rfl) ?_)
  refine l_op (o_val (r_mv) ?_)
  refine l_yes rfl rfl (by exact congrArg Value.bool (congrArg not hk4)) (o_val (r_fa rfl fo76_5) ?_)
  refine l_yes rfl rfl (by exact congrArg Value.bool (congrArg not hk4)) (o_val (r_ld (v := t.cs.v) H (i := 1) rfl rfl ct74 rfl) ?_)
  refine l_yes rfl rfl (by exact congrArg Value.bool (congrArg not hk4)) (o_val (r_lens el74 rfl) ?_)
  refine l_yes rfl rfl (by exact congrArg Value.bool (congrArg not hk4)) (o_val (r_bin (a := (t.cs.len : Int)) (b := 0) rfl rfl (fun _ => b_gtrB false (decide_eq_false (by omega)))) ?_)
  refine l_op (o_val (r_pick (b := false) (congrArg Value.bool (congrArg not hk4))) ?_)
  first | refine l_end ?_ | refine l_nil ?_
  repeat refine c_seq ?_
  refine c_no rfl ?_
  refine c_skip ?_
  repeat refine c_seq ?_
  refine c_region ?_
  refine l_op (o_val (r_ldAA (l := key) H (i := 0) rfl rfl rt31 (show (key).length = 32 from hk)) ?_)
  refine l_op (o_val (r_ldA (C := [V64 t.serial, .string ⟨(t.tenant).toArray⟩, V8 t.rights, VI t.from_, VI t.until_, t.cs.v] ++ (t.tag).map V8) H (i := 1) rfl rfl rt76 (by rw [List.length_append, List.length_map, (show (t.tag).length = 32 from htag)]; rfl)) ?_)
  refine l_op (o_callR Try.func116 rfl rfl rfl (tag14_ret _ (key) (show (key).length = 32 from hk) t (hc.up H) (show (t.tag).length = 32 from htag) (by first | omega | (dsimp only; omega) | simp) hb) ?_)
  rintro _ w ⟨rfl, Hc⟩
  replace H : Hp _ w _ ([_, _, _]) := H.call Hc
  clear Hc
  refine l_op (o_val (r_fa rfl fo76_6) ?_)
  refine l_op (o_stT (pre := [V64 t.serial, .string ⟨(t.tenant).toArray⟩, V8 t.rights, VI t.from_, VI t.until_, t.cs.v]) (l := t.tag) (l' := onF (hmac (key) (framed [t.head])) t.cs.l) H (i := 1) rfl rfl rfl cs31 rfl (show (t.tag).length = 32 from htag) (show (onF (hmac (key) (framed [t.head])) t.cs.l).length = 32 from onF_len _ (hmac_len _ _) _) (fun w H => ?_))
  replace H : Hp _ w _ ([_, .blk b2 ([V64 t.serial, .string ⟨(t.tenant).toArray⟩, V8 t.rights, VI t.from_, VI t.until_, t.cs.v] ++ (onF (hmac (key) (framed [t.head])) t.cs.l).map V8) 76, _]) := H
  first | refine l_end ?_ | refine l_nil ?_
  repeat refine c_seq ?_
  refine c_region ?_
  refine l_op (o_val (r_ldA (C := [V64 t.serial, .string ⟨(t.tenant).toArray⟩, V8 t.rights, VI t.from_, VI t.until_, t.cs.v] ++ (onF (hmac (key) (framed [t.head])) t.cs.l).map V8) H (i := 1) rfl rfl rt76 (by rw [List.length_append, List.length_map, (show (onF (hmac (key) (framed [t.head])) t.cs.l).length = 32 from onF_len _ (hmac_len _ _) _)]; rfl)) ?_)
  refine l_op (o_stW (C' := [V64 t.serial, .string ⟨(t.tenant).toArray⟩, V8 t.rights, VI t.from_, VI t.until_, t.cs.v] ++ (onF (hmac (key) (framed [t.head])) t.cs.l).map V8) H (i := 2) rfl rfl rfl cs76 (by simp [Value.oneCell', Gl.v]) (by rw [List.length_append, List.length_map, (show (List.replicate 32 (0 : UInt8)).length = 32 from (List.length_replicate ..))]; rfl) (by rw [List.length_append, List.length_map, (show (onF (hmac (key) (framed [t.head])) t.cs.l).length = 32 from onF_len _ (hmac_len _ _) _)]; rfl) (fun w H => ?_))
  replace H : Hp _ w _ ([_, _, .blk b3 ([V64 t.serial, .string ⟨(t.tenant).toArray⟩, V8 t.rights, VI t.from_, VI t.until_, t.cs.v] ++ (onF (hmac (key) (framed [t.head])) t.cs.l).map V8) 76]) := H
  refine l_op (o_val (r_as) ?_)
  first | refine l_end ?_ | refine l_nil ?_
  refine c_ret ?_
  try dsimp only [Exit.then, Exit.inBlock]
  refine e_retN (vs := [.agg ([V64 t.serial, .string ⟨(t.tenant).toArray⟩, V8 t.rights, VI t.from_, VI t.until_, t.cs.v] ++ (onF (hmac (key) (framed [t.head])) t.cs.l).map V8).toArray, VI 0]) _ Try.results69 rfl (H.resR (C := [V64 t.serial, .string ⟨(t.tenant).toArray⟩, V8 t.rights, VI t.from_, VI t.until_, t.cs.v] ++ (onF (hmac (key) (framed [t.head])) t.cs.l).map V8) (i := 2) rfl rfl rt76 (by rw [List.length_append, List.length_map, (show (onF (hmac (key) (framed [t.head])) t.cs.l).length = 32 from onF_len _ (hmac_len _ _) _)]; rfl) (resT (v := VI 0) rfl (resZ))) ?_
  refine ⟨_, rfl, ?_⟩
  have h0' : t.cs.l = [] := List.length_eq_zero_iff.1 (by rw [hc.ln]; exact h0)
  have e0 : onF (hmac key (framed [t.head])) t.cs.l = hmac key (framed [t.head]) := by rw [h0']; rfl
  rw [e0]
  exact ⟨rfl, H.sub (List.nil_sublist _)⟩
theorem less_n1 (w0 : World) (t : Tok) (c : Cav) (hc : t.cs.ok cavE 2 w0) (htag : t.tag.length = 32) (hn : t.tenant.length ≤ 65536) (hm : mayT t = false) :
    Ret Try.prog 70 [.agg ([V64 t.serial, .string ⟨(t.tenant).toArray⟩, V8 t.rights, VI t.from_, VI t.until_, t.cs.v] ++ (t.tag).map V8).toArray, .agg ([V8 c.1, VI c.2]).toArray] w0 fun v w' => v = .tuple #[.agg (([V64 0, .string ⟨([] : List UInt8).toArray⟩, V8 0, VI 0, VI 0, .slice none 0 0] : List Value) ++ (List.replicate 32 (0 : UInt8)).map V8).toArray, VI 1] ∧ Hp w0 w' [] [] := by
  refine ret_mk Try.func70 rfl Try.ntmps70 (by simp) ?_
  have H := Hp.refl w0 []
  repeat refine c_seq ?_
  refine c_region ?_
  refine l_op (o_box (v := .agg ([V64 t.serial, .string ⟨(t.tenant).toArray⟩, V8 t.rights, VI t.from_, VI t.until_, t.cs.v] ++ (t.tag).map V8).toArray) H rfl (fun b1 w H hb1 => ?_))
  replace H : Hp _ w _ ([.blk b1 ([V64 t.serial, .string ⟨(t.tenant).toArray⟩, V8 t.rights, VI t.from_, VI t.until_, t.cs.v] ++ (t.tag).map V8) 76]) := H
  refine l_op (o_box (v := .agg ([V8 c.1, VI c.2]).toArray) H rfl (fun b2 w H hb2 => ?_))
  replace H : Hp _ w _ ([_, .blk b2 ([V8 c.1, VI c.2]) 78]) := H
  refine l_op (o_alloc H zc76 (fun b3 w H hb3 => ?_))
  replace H : Hp _ w _ ([_, _, .blk b3 ([V64 (0 : UInt64), .string ⟨(([] : List UInt8)).toArray⟩, V8 (0 : UInt8), VI 0, VI 0, .slice none 0 0] ++ (List.replicate 32 (0 : UInt8)).map V8) 76]) := H
  refine l_op (o_val (r_as) ?_)
  first | refine l_end ?_ | refine l_nil ?_
  repeat refine c_seq ?_
  refine c_block ?_
  repeat refine c_seq ?_
  refine c_region ?_
  refine l_op (o_val (r_ldA (C := [V64 t.serial, .string ⟨(t.tenant).toArray⟩, V8 t.rights, VI t.from_, VI t.until_, t.cs.v] ++ (t.tag).map V8) H (i := 0) rfl rfl rt76 (by rw [List.length_append, List.length_map, (show (t.tag).length = 32 from htag)]; rfl)) ?_)
  refine l_op (o_callR Try.func75 rfl rfl rfl (may_ret _ t (hc.up H) (show (t.tag).length = 32 from htag) (by first | omega | (dsimp only; omega) | simp)) ?_)
  rintro _ w ⟨rfl, Hc⟩
  replace H : Hp _ w _ ([_, _, _]) := H.call Hc
  clear Hc
  have hk4 : (mayT t) = false := hm
  refine l_op (o_val (r_not rfl) ?_)
  refine l_op (o_val (r_mv) ?_)
  refine l_no rfl rfl (by exact congrArg Value.bool (congrArg not hk4)) rfl ?_
  refine l_no rfl rfl (by exact congrArg Value.bool (congrArg not hk4)) rfl ?_
  refine l_no rfl rfl (by exact congrArg Value.bool (congrArg not hk4)) rfl ?_
  refine l_no rfl rfl (by exact congrArg Value.bool (congrArg not hk4)) rfl ?_
  refine l_op (o_val (r_pick (b := true) (congrArg Value.bool (congrArg not hk4))) ?_)
  refine l_op (o_val (r_as) ?_)
  first | refine l_end ?_ | refine l_nil ?_
  repeat refine c_seq ?_
  refine c_yes rfl ?_
  repeat refine c_seq ?_
  refine c_region ?_
  refine l_op (o_val (r_bld' (cells := ([V64 (0 : UInt64), .string ⟨(([] : List UInt8)).toArray⟩, V8 (0 : UInt8), VI 0, VI 0, .slice none 0 0] ++ (List.replicate 32 (0 : UInt8)).map V8).toArray) (pv := []) bd76 rfl rfl) ?_)
  refine l_op (o_stW (C' := [V64 (0 : UInt64), .string ⟨(([] : List UInt8)).toArray⟩, V8 (0 : UInt8), VI 0, VI 0, .slice none 0 0] ++ (List.replicate 32 (0 : UInt8)).map V8) H (i := 2) rfl rfl rfl cs76 (by simp [Value.oneCell']) (by rw [List.length_append, List.length_map, (show (List.replicate 32 (0 : UInt8)).length = 32 from (List.length_replicate ..))]; rfl) (by rw [List.length_append, List.length_map, (show (List.replicate 32 (0 : UInt8)).length = 32 from (List.length_replicate ..))]; rfl) (fun w H => ?_))
  replace H : Hp _ w _ [_, _, _] := H
  refine l_op (o_val (r_as) ?_)
  first | refine l_end ?_ | refine l_nil ?_
  refine c_ret ?_
  try dsimp only [Exit.then, Exit.inBlock]
  refine e_retN (vs := [.agg ([V64 (0 : UInt64), .string ⟨(([] : List UInt8)).toArray⟩, V8 (0 : UInt8), VI 0, VI 0, .slice none 0 0] ++ (List.replicate 32 (0 : UInt8)).map V8).toArray, VI 1]) _ Try.results70 rfl (H.resR (C := [V64 (0 : UInt64), .string ⟨(([] : List UInt8)).toArray⟩, V8 (0 : UInt8), VI 0, VI 0, .slice none 0 0] ++ (List.replicate 32 (0 : UInt8)).map V8) (i := 2) rfl rfl rt76 (by rw [List.length_append, List.length_map, (show (List.replicate 32 (0 : UInt8)).length = 32 from (List.length_replicate ..))]; rfl) (resT (v := VI 1) rfl (resZ))) ?_
  refine ⟨_, rfl, ?_⟩
  exact ⟨rfl, H.sub (List.nil_sublist _)⟩
theorem less_n2 (w0 : World) (t : Tok) (c : Cav) (hc : t.cs.ok cavE 2 w0) (htag : t.tag.length = 32) (hn : t.tenant.length ≤ 65536) (hm : mayT t = true) (hr : rMay c.1 = false) :
    Ret Try.prog 70 [.agg ([V64 t.serial, .string ⟨(t.tenant).toArray⟩, V8 t.rights, VI t.from_, VI t.until_, t.cs.v] ++ (t.tag).map V8).toArray, .agg ([V8 c.1, VI c.2]).toArray] w0 fun v w' => v = .tuple #[.agg (([V64 0, .string ⟨([] : List UInt8).toArray⟩, V8 0, VI 0, VI 0, .slice none 0 0] : List Value) ++ (List.replicate 32 (0 : UInt8)).map V8).toArray, VI 1] ∧ Hp w0 w' [] [] := by
  refine ret_mk Try.func70 rfl Try.ntmps70 (by simp) ?_
  have H := Hp.refl w0 []
  repeat refine c_seq ?_
  refine c_region ?_
  refine l_op (o_box (v := .agg ([V64 t.serial, .string ⟨(t.tenant).toArray⟩, V8 t.rights, VI t.from_, VI t.until_, t.cs.v] ++ (t.tag).map V8).toArray) H rfl (fun b1 w H hb1 => ?_))
  replace H : Hp _ w _ ([.blk b1 ([V64 t.serial, .string ⟨(t.tenant).toArray⟩, V8 t.rights, VI t.from_, VI t.until_, t.cs.v] ++ (t.tag).map V8) 76]) := H
  refine l_op (o_box (v := .agg ([V8 c.1, VI c.2]).toArray) H rfl (fun b2 w H hb2 => ?_))
  replace H : Hp _ w _ ([_, .blk b2 ([V8 c.1, VI c.2]) 78]) := H
  refine l_op (o_alloc H zc76 (fun b3 w H hb3 => ?_))
  replace H : Hp _ w _ ([_, _, .blk b3 ([V64 (0 : UInt64), .string ⟨(([] : List UInt8)).toArray⟩, V8 (0 : UInt8), VI 0, VI 0, .slice none 0 0] ++ (List.replicate 32 (0 : UInt8)).map V8) 76]) := H
  refine l_op (o_val (r_as) ?_)
  first | refine l_end ?_ | refine l_nil ?_
  repeat refine c_seq ?_
  refine c_block ?_
  repeat refine c_seq ?_
  refine c_region ?_
  refine l_op (o_val (r_ldA (C := [V64 t.serial, .string ⟨(t.tenant).toArray⟩, V8 t.rights, VI t.from_, VI t.until_, t.cs.v] ++ (t.tag).map V8) H (i := 0) rfl rfl rt76 (by rw [List.length_append, List.length_map, (show (t.tag).length = 32 from htag)]; rfl)) ?_)
  refine l_op (o_callR Try.func75 rfl rfl rfl (may_ret _ t (hc.up H) (show (t.tag).length = 32 from htag) (by first | omega | (dsimp only; omega) | simp)) ?_)
  rintro _ w ⟨rfl, Hc⟩
  replace H : Hp _ w _ ([_, _, _]) := H.call Hc
  clear Hc
  have hk4 : (mayT t) = true := hm
  refine l_op (o_val (r_not rfl) ?_)
  refine l_op (o_val (r_mv) ?_)
  refine l_yes rfl rfl (by exact congrArg Value.bool (congrArg not hk4)) (o_val (r_fa rfl fo78_0) ?_)
  refine l_yes rfl rfl (by exact congrArg Value.bool (congrArg not hk4)) (o_val (r_ld (v := V8 c.1) H (i := 1) rfl rfl ct73 rfl) ?_)
  refine l_yes rfl rfl (by exact congrArg Value.bool (congrArg not hk4)) (o_callR Try.func117 rfl rfl rfl (rmay_ret _ (c.1)) ?_)
  rintro _ w' ⟨rfl, hw5⟩
  rw [hw5]; clear hw5 w'
  have hk6 : (rMay (c.1)) = false := hr
  refine l_yes rfl rfl (by exact congrArg Value.bool (congrArg not hk4)) (o_val (r_not rfl) ?_)
  refine l_op (o_val (r_pick (b := false) (congrArg Value.bool (congrArg not hk4))) ?_)
  refine l_op (o_val (r_as) ?_)
  first | refine l_end ?_ | refine l_nil ?_
  repeat refine c_seq ?_
  refine c_yes (by exact congrArg Value.bool (congrArg not hk6)) ?_
  repeat refine c_seq ?_
  refine c_region ?_
  refine l_op (o_val (r_bld' (cells := ([V64 (0 : UInt64), .string ⟨(([] : List UInt8)).toArray⟩, V8 (0 : UInt8), VI 0, VI 0, .slice none 0 0] ++ (List.replicate 32 (0 : UInt8)).map V8).toArray) (pv := []) bd76 rfl rfl) ?_)
  refine l_op (o_stW (C' := [V64 (0 : UInt64), .string ⟨(([] : List UInt8)).toArray⟩, V8 (0 : UInt8), VI 0, VI 0, .slice none 0 0] ++ (List.replicate 32 (0 : UInt8)).map V8) H (i := 2) rfl rfl rfl cs76 (by simp [Value.oneCell']) (by rw [List.length_append, List.length_map, (show (List.replicate 32 (0 : UInt8)).length = 32 from (List.length_replicate ..))]; rfl) (by rw [List.length_append, List.length_map, (show (List.replicate 32 (0 : UInt8)).length = 32 from (List.length_replicate ..))]; rfl) (fun w H => ?_))
  replace H : Hp _ w _ [_, _, _] := H
  refine l_op (o_val (r_as) ?_)
  first | refine l_end ?_ | refine l_nil ?_
  refine c_ret ?_
  try dsimp only [Exit.then, Exit.inBlock]
  refine e_retN (vs := [.agg ([V64 (0 : UInt64), .string ⟨(([] : List UInt8)).toArray⟩, V8 (0 : UInt8), VI 0, VI 0, .slice none 0 0] ++ (List.replicate 32 (0 : UInt8)).map V8).toArray, VI 1]) _ Try.results70 rfl (H.resR (C := [V64 (0 : UInt64), .string ⟨(([] : List UInt8)).toArray⟩, V8 (0 : UInt8), VI 0, VI 0, .slice none 0 0] ++ (List.replicate 32 (0 : UInt8)).map V8) (i := 2) rfl rfl rt76 (by rw [List.length_append, List.length_map, (show (List.replicate 32 (0 : UInt8)).length = 32 from (List.length_replicate ..))]; rfl) (resT (v := VI 1) rfl (resZ))) ?_
  refine ⟨_, rfl, ?_⟩
  exact ⟨rfl, H.sub (List.nil_sublist _)⟩
theorem less_n3 (w0 : World) (t : Tok) (c : Cav) (hc : t.cs.ok cavE 2 w0) (htag : t.tag.length = 32) (hn : t.tenant.length ≤ 65536) (hm : mayT t = true) (hr : rMay c.1 = true) (h8 : ¬ t.cs.len < 8) :
    Ret Try.prog 70 [.agg ([V64 t.serial, .string ⟨(t.tenant).toArray⟩, V8 t.rights, VI t.from_, VI t.until_, t.cs.v] ++ (t.tag).map V8).toArray, .agg ([V8 c.1, VI c.2]).toArray] w0 fun v w' => v = .tuple #[.agg (([V64 0, .string ⟨([] : List UInt8).toArray⟩, V8 0, VI 0, VI 0, .slice none 0 0] : List Value) ++ (List.replicate 32 (0 : UInt8)).map V8).toArray, VI 2] ∧ Hp w0 w' [] [] := by
  refine ret_mk Try.func70 rfl Try.ntmps70 (by simp) ?_
  have H := Hp.refl w0 []
  repeat refine c_seq ?_
  refine c_region ?_
  refine l_op (o_box (v := .agg ([V64 t.serial, .string ⟨(t.tenant).toArray⟩, V8 t.rights, VI t.from_, VI t.until_, t.cs.v] ++ (t.tag).map V8).toArray) H rfl (fun b1 w H hb1 => ?_))
  replace H : Hp _ w _ ([.blk b1 ([V64 t.serial, .string ⟨(t.tenant).toArray⟩, V8 t.rights, VI t.from_, VI t.until_, t.cs.v] ++ (t.tag).map V8) 76]) := H
  refine l_op (o_box (v := .agg ([V8 c.1, VI c.2]).toArray) H rfl (fun b2 w H hb2 => ?_))
  replace H : Hp _ w _ ([_, .blk b2 ([V8 c.1, VI c.2]) 78]) := H
  refine l_op (o_alloc H zc76 (fun b3 w H hb3 => ?_))
  replace H : Hp _ w _ ([_, _, .blk b3 ([V64 (0 : UInt64), .string ⟨(([] : List UInt8)).toArray⟩, V8 (0 : UInt8), VI 0, VI 0, .slice none 0 0] ++ (List.replicate 32 (0 : UInt8)).map V8) 76]) := H
  refine l_op (o_val (r_as) ?_)
  first | refine l_end ?_ | refine l_nil ?_
  repeat refine c_seq ?_
  refine c_block ?_
  repeat refine c_seq ?_
  refine c_region ?_
  refine l_op (o_val (r_ldA (C := [V64 t.serial, .string ⟨(t.tenant).toArray⟩, V8 t.rights, VI t.from_, VI t.until_, t.cs.v] ++ (t.tag).map V8) H (i := 0) rfl rfl rt76 (by rw [List.length_append, List.length_map, (show (t.tag).length = 32 from htag)]; rfl)) ?_)
  refine l_op (o_callR Try.func75 rfl rfl rfl (may_ret _ t (hc.up H) (show (t.tag).length = 32 from htag) (by first | omega | (dsimp only; omega) | simp)) ?_)
  rintro _ w ⟨rfl, Hc⟩
  replace H : Hp _ w _ ([_, _, _]) := H.call Hc
  clear Hc
  have hk4 : (mayT t) = true := hm
  refine l_op (o_val (r_not rfl) ?_)
  refine l_op (o_val (r_mv) ?_)
  refine l_yes rfl rfl (by exact congrArg Value.bool (congrArg not hk4)) (o_val (r_fa rfl fo78_0) ?_)
  refine l_yes rfl rfl (by exact congrArg Value.bool (congrArg not hk4)) (o_val (r_ld (v := V8 c.1) H (i := 1) rfl rfl ct73 rfl) ?_)
  refine l_yes rfl rfl (by exact congrArg Value.bool (congrArg not hk4)) (o_callR Try.func117 rfl rfl rfl (rmay_ret _ (c.1)) ?_)
  rintro _ w' ⟨rfl, hw5⟩
  rw [hw5]; clear hw5 w'
  have hk6 : (rMay (c.1)) = true := hr
  refine l_yes rfl rfl (by exact congrArg Value.bool (congrArg not hk4)) (o_val (r_not rfl) ?_)
  refine l_op (o_val (r_pick (b := false) (congrArg Value.bool (congrArg not hk4))) ?_)
  refine l_op (o_val (r_as) ?_)
  first | refine l_end ?_ | refine l_nil ?_
  repeat refine c_seq ?_
  refine c_no (by exact congrArg Value.bool (congrArg not hk6)) ?_
  repeat refine c_seq ?_
  refine c_region ?_
  refine l_op (o_val (r_fa rfl fo76_5) ?_)
  refine l_op (o_val (r_ld (v := t.cs.v) H (i := 0) rfl rfl ct74 rfl) ?_)
  refine l_op (o_val (r_lens el74 rfl) ?_)
  refine l_op (o_val (r_bin (a := (t.cs.len : Int)) (b := 8) rfl rfl (fun _ => b_eqlB true (decide_eq_true (by have := ((mayT_iff t).1 hm).2.2.1; omega)))) ?_)
  refine l_op (o_val (r_as) ?_)
  first | refine l_end ?_ | refine l_nil ?_
  repeat refine c_seq ?_
  refine c_yes rfl ?_
  repeat refine c_seq ?_
  refine c_region ?_
  refine l_op (o_val (r_bld' (cells := ([V64 (0 : UInt64), .string ⟨(([] : List UInt8)).toArray⟩, V8 (0 : UInt8), VI 0, VI 0, .slice none 0 0] ++ (List.replicate 32 (0 : UInt8)).map V8).toArray) (pv := []) bd76 rfl rfl) ?_)
  refine l_op (o_stW (C' := [V64 (0 : UInt64), .string ⟨(([] : List UInt8)).toArray⟩, V8 (0 : UInt8), VI 0, VI 0, .slice none 0 0] ++ (List.replicate 32 (0 : UInt8)).map V8) H (i := 2) rfl rfl rfl cs76 (by simp [Value.oneCell']) (by rw [List.length_append, List.length_map, (show (List.replicate 32 (0 : UInt8)).length = 32 from (List.length_replicate ..))]; rfl) (by rw [List.length_append, List.length_map, (show (List.replicate 32 (0 : UInt8)).length = 32 from (List.length_replicate ..))]; rfl) (fun w H => ?_))
  replace H : Hp _ w _ [_, _, _] := H
  refine l_op (o_val (r_as) ?_)
  first | refine l_end ?_ | refine l_nil ?_
  refine c_ret ?_
  try dsimp only [Exit.then, Exit.inBlock]
  refine e_retN (vs := [.agg ([V64 (0 : UInt64), .string ⟨(([] : List UInt8)).toArray⟩, V8 (0 : UInt8), VI 0, VI 0, .slice none 0 0] ++ (List.replicate 32 (0 : UInt8)).map V8).toArray, VI 2]) _ Try.results70 rfl (H.resR (C := [V64 (0 : UInt64), .string ⟨(([] : List UInt8)).toArray⟩, V8 (0 : UInt8), VI 0, VI 0, .slice none 0 0] ++ (List.replicate 32 (0 : UInt8)).map V8) (i := 2) rfl rfl rt76 (by rw [List.length_append, List.length_map, (show (List.replicate 32 (0 : UInt8)).length = 32 from (List.length_replicate ..))]; rfl) (resT (v := VI 2) rfl (resZ))) ?_
  refine ⟨_, rfl, ?_⟩
  exact ⟨rfl, H.sub (List.nil_sublist _)⟩
theorem lessr_n1 (w0 : World) (t : Tok) (c : Cav) (hc : t.cs.ok cavE 2 w0) (htag : t.tag.length = 32) (hn : t.tenant.length ≤ 65536) (hm : mayT t = false) :
    Ret Try.prog 71 [.agg ([V64 t.serial, .string ⟨(t.tenant).toArray⟩, V8 t.rights, VI t.from_, VI t.until_, t.cs.v] ++ (t.tag).map V8).toArray, .agg ([V8 c.1, VI c.2]).toArray] w0 fun v w' => v = .tuple #[.agg (([V64 0, .string ⟨([] : List UInt8).toArray⟩, V8 0, VI 0, VI 0, .slice none 0 0] : List Value) ++ (List.replicate 32 (0 : UInt8)).map V8).toArray, VI 1] ∧ Hp w0 w' [] [] := by
  refine ret_mk Try.func71 rfl Try.ntmps71 (by simp) ?_
  have H := Hp.refl w0 []
  repeat refine c_seq ?_
  refine c_region ?_
  refine l_op (o_box (v := .agg ([V64 t.serial, .string ⟨(t.tenant).toArray⟩, V8 t.rights, VI t.from_, VI t.until_, t.cs.v] ++ (t.tag).map V8).toArray) H rfl (fun b1 w H hb1 => ?_))
  replace H : Hp _ w _ ([.blk b1 ([V64 t.serial, .string ⟨(t.tenant).toArray⟩, V8 t.rights, VI t.from_, VI t.until_, t.cs.v] ++ (t.tag).map V8) 76]) := H
  refine l_op (o_box (v := .agg ([V8 c.1, VI c.2]).toArray) H rfl (fun b2 w H hb2 => ?_))
  replace H : Hp _ w _ ([_, .blk b2 ([V8 c.1, VI c.2]) 78]) := H
  refine l_op (o_alloc H zc76 (fun b3 w H hb3 => ?_))
  replace H : Hp _ w _ ([_, _, .blk b3 ([V64 (0 : UInt64), .string ⟨(([] : List UInt8)).toArray⟩, V8 (0 : UInt8), VI 0, VI 0, .slice none 0 0] ++ (List.replicate 32 (0 : UInt8)).map V8) 76]) := H
  refine l_op (o_val (r_as) ?_)
  first | refine l_end ?_ | refine l_nil ?_
  repeat refine c_seq ?_
  refine c_region ?_
  refine l_op (o_val (r_ldA (C := [V64 t.serial, .string ⟨(t.tenant).toArray⟩, V8 t.rights, VI t.from_, VI t.until_, t.cs.v] ++ (t.tag).map V8) H (i := 0) rfl rfl rt76 (by rw [List.length_append, List.length_map, (show (t.tag).length = 32 from htag)]; rfl)) ?_)
  refine l_op (o_callR Try.func76 rfl rfl rfl (may14_ret _ t (hc.up H) (show (t.tag).length = 32 from htag) (by first | omega | (dsimp only; omega) | simp)) ?_)
  rintro _ w ⟨rfl, Hc⟩
  replace H : Hp _ w _ ([_, _, _]) := H.call Hc
  clear Hc
  have hk4 : (mayT t) = false := hm
  refine l_op (o_val (r_not rfl) ?_)
  refine l_op (o_val (r_mv) ?_)
  refine l_no rfl rfl (by exact congrArg Value.bool (congrArg not hk4)) rfl ?_
  refine l_no rfl rfl (by exact congrArg Value.bool (congrArg not hk4)) rfl ?_
  refine l_no rfl rfl (by exact congrArg Value.bool (congrArg not hk4)) rfl ?_
  refine l_op (o_val (r_pick (b := true) (congrArg Value.bool (congrArg not hk4))) ?_)
  first | refine l_end ?_ | refine l_nil ?_
  repeat refine c_seq ?_
  refine c_yes rfl ?_
  repeat refine c_seq ?_
  refine c_region ?_
  refine l_op (o_val (r_bld' (cells := ([V64 (0 : UInt64), .string ⟨(([] : List UInt8)).toArray⟩, V8 (0 : UInt8), VI 0, VI 0, .slice none 0 0] ++ (List.replicate 32 (0 : UInt8)).map V8).toArray) (pv := []) bd76 rfl rfl) ?_)
  refine l_op (o_stW (C' := [V64 (0 : UInt64), .string ⟨(([] : List UInt8)).toArray⟩, V8 (0 : UInt8), VI 0, VI 0, .slice none 0 0] ++ (List.replicate 32 (0 : UInt8)).map V8) H (i := 2) rfl rfl rfl cs76 (by simp [Value.oneCell']) (by rw [List.length_append, List.length_map, (show (List.replicate 32 (0 : UInt8)).length = 32 from (List.length_replicate ..))]; rfl) (by rw [List.length_append, List.length_map, (show (List.replicate 32 (0 : UInt8)).length = 32 from (List.length_replicate ..))]; rfl) (fun w H => ?_))
  replace H : Hp _ w _ [_, _, _] := H
  refine l_op (o_val (r_as) ?_)
  first | refine l_end ?_ | refine l_nil ?_
  refine c_ret ?_
  try dsimp only [Exit.then, Exit.inBlock]
  refine e_retN (vs := [.agg ([V64 (0 : UInt64), .string ⟨(([] : List UInt8)).toArray⟩, V8 (0 : UInt8), VI 0, VI 0, .slice none 0 0] ++ (List.replicate 32 (0 : UInt8)).map V8).toArray, VI 1]) _ Try.results71 rfl (H.resR (C := [V64 (0 : UInt64), .string ⟨(([] : List UInt8)).toArray⟩, V8 (0 : UInt8), VI 0, VI 0, .slice none 0 0] ++ (List.replicate 32 (0 : UInt8)).map V8) (i := 2) rfl rfl rt76 (by rw [List.length_append, List.length_map, (show (List.replicate 32 (0 : UInt8)).length = 32 from (List.length_replicate ..))]; rfl) (resT (v := VI 1) rfl (resZ))) ?_
  refine ⟨_, rfl, ?_⟩
  exact ⟨rfl, H.sub (List.nil_sublist _)⟩
theorem lessr_n2 (w0 : World) (t : Tok) (c : Cav) (hc : t.cs.ok cavE 2 w0) (htag : t.tag.length = 32) (hn : t.tenant.length ≤ 65536) (hm : mayT t = true) (hr : rMay c.1 = false) :
    Ret Try.prog 71 [.agg ([V64 t.serial, .string ⟨(t.tenant).toArray⟩, V8 t.rights, VI t.from_, VI t.until_, t.cs.v] ++ (t.tag).map V8).toArray, .agg ([V8 c.1, VI c.2]).toArray] w0 fun v w' => v = .tuple #[.agg (([V64 0, .string ⟨([] : List UInt8).toArray⟩, V8 0, VI 0, VI 0, .slice none 0 0] : List Value) ++ (List.replicate 32 (0 : UInt8)).map V8).toArray, VI 1] ∧ Hp w0 w' [] [] := by
  refine ret_mk Try.func71 rfl Try.ntmps71 (by simp) ?_
  have H := Hp.refl w0 []
  repeat refine c_seq ?_
  refine c_region ?_
  refine l_op (o_box (v := .agg ([V64 t.serial, .string ⟨(t.tenant).toArray⟩, V8 t.rights, VI t.from_, VI t.until_, t.cs.v] ++ (t.tag).map V8).toArray) H rfl (fun b1 w H hb1 => ?_))
  replace H : Hp _ w _ ([.blk b1 ([V64 t.serial, .string ⟨(t.tenant).toArray⟩, V8 t.rights, VI t.from_, VI t.until_, t.cs.v] ++ (t.tag).map V8) 76]) := H
  refine l_op (o_box (v := .agg ([V8 c.1, VI c.2]).toArray) H rfl (fun b2 w H hb2 => ?_))
  replace H : Hp _ w _ ([_, .blk b2 ([V8 c.1, VI c.2]) 78]) := H
  refine l_op (o_alloc H zc76 (fun b3 w H hb3 => ?_))
  replace H : Hp _ w _ ([_, _, .blk b3 ([V64 (0 : UInt64), .string ⟨(([] : List UInt8)).toArray⟩, V8 (0 : UInt8), VI 0, VI 0, .slice none 0 0] ++ (List.replicate 32 (0 : UInt8)).map V8) 76]) := H
  refine l_op (o_val (r_as) ?_)
  first | refine l_end ?_ | refine l_nil ?_
  repeat refine c_seq ?_
  refine c_region ?_
  refine l_op (o_val (r_ldA (C := [V64 t.serial, .string ⟨(t.tenant).toArray⟩, V8 t.rights, VI t.from_, VI t.until_, t.cs.v] ++ (t.tag).map V8) H (i := 0) rfl rfl rt76 (by rw [List.length_append, List.length_map, (show (t.tag).length = 32 from htag)]; rfl)) ?_)
  refine l_op (o_callR Try.func76 rfl rfl rfl (may14_ret _ t (hc.up H) (show (t.tag).length = 32 from htag) (by first | omega | (dsimp only; omega) | simp)) ?_)
  rintro _ w ⟨rfl, Hc⟩
  replace H : Hp _ w _ ([_, _, _]) := H.call Hc
  clear Hc
  have hk4 : (mayT t) = true := hm
  refine l_op (o_val (r_not rfl) ?_)
  refine l_op (o_val (r_mv) ?_)
  refine l_yes rfl rfl (by exact congrArg Value.bool (congrArg not hk4)) (o_val (r_fa rfl fo78_0) ?_)
  refine l_yes rfl rfl (by exact congrArg Value.bool (congrArg not hk4)) (o_val (r_ld (v := V8 c.1) H (i := 1) rfl rfl ct73 rfl) ?_)
  refine l_yes rfl rfl (by exact congrArg Value.bool (congrArg not hk4)) (o_val (r_bin (a := (c.1.toNat : Int)) (b := 15) rfl rfl (fun _ => b_gtrB true (decide_eq_true (by rw [rMay_no] at hr; omega)))) ?_)
  refine l_op (o_val (r_pick (b := false) (congrArg Value.bool (congrArg not hk4))) ?_)
  first | refine l_end ?_ | refine l_nil ?_
  repeat refine c_seq ?_
  refine c_yes rfl ?_
  repeat refine c_seq ?_
  refine c_region ?_
  refine l_op (o_val (r_bld' (cells := ([V64 (0 : UInt64), .string ⟨(([] : List UInt8)).toArray⟩, V8 (0 : UInt8), VI 0, VI 0, .slice none 0 0] ++ (List.replicate 32 (0 : UInt8)).map V8).toArray) (pv := []) bd76 rfl rfl) ?_)
  refine l_op (o_stW (C' := [V64 (0 : UInt64), .string ⟨(([] : List UInt8)).toArray⟩, V8 (0 : UInt8), VI 0, VI 0, .slice none 0 0] ++ (List.replicate 32 (0 : UInt8)).map V8) H (i := 2) rfl rfl rfl cs76 (by simp [Value.oneCell']) (by rw [List.length_append, List.length_map, (show (List.replicate 32 (0 : UInt8)).length = 32 from (List.length_replicate ..))]; rfl) (by rw [List.length_append, List.length_map, (show (List.replicate 32 (0 : UInt8)).length = 32 from (List.length_replicate ..))]; rfl) (fun w H => ?_))
  replace H : Hp _ w _ [_, _, _] := H
  refine l_op (o_val (r_as) ?_)
  first | refine l_end ?_ | refine l_nil ?_
  refine c_ret ?_
  try dsimp only [Exit.then, Exit.inBlock]
  refine e_retN (vs := [.agg ([V64 (0 : UInt64), .string ⟨(([] : List UInt8)).toArray⟩, V8 (0 : UInt8), VI 0, VI 0, .slice none 0 0] ++ (List.replicate 32 (0 : UInt8)).map V8).toArray, VI 1]) _ Try.results71 rfl (H.resR (C := [V64 (0 : UInt64), .string ⟨(([] : List UInt8)).toArray⟩, V8 (0 : UInt8), VI 0, VI 0, .slice none 0 0] ++ (List.replicate 32 (0 : UInt8)).map V8) (i := 2) rfl rfl rt76 (by rw [List.length_append, List.length_map, (show (List.replicate 32 (0 : UInt8)).length = 32 from (List.length_replicate ..))]; rfl) (resT (v := VI 1) rfl (resZ))) ?_
  refine ⟨_, rfl, ?_⟩
  exact ⟨rfl, H.sub (List.nil_sublist _)⟩
theorem lessr_n3 (w0 : World) (t : Tok) (c : Cav) (hc : t.cs.ok cavE 2 w0) (htag : t.tag.length = 32) (hn : t.tenant.length ≤ 65536) (hm : mayT t = true) (hr : rMay c.1 = true) (h8 : ¬ t.cs.len < 8) :
    Ret Try.prog 71 [.agg ([V64 t.serial, .string ⟨(t.tenant).toArray⟩, V8 t.rights, VI t.from_, VI t.until_, t.cs.v] ++ (t.tag).map V8).toArray, .agg ([V8 c.1, VI c.2]).toArray] w0 fun v w' => v = .tuple #[.agg (([V64 0, .string ⟨([] : List UInt8).toArray⟩, V8 0, VI 0, VI 0, .slice none 0 0] : List Value) ++ (List.replicate 32 (0 : UInt8)).map V8).toArray, VI 2] ∧ Hp w0 w' [] [] := by
  refine ret_mk Try.func71 rfl Try.ntmps71 (by simp) ?_
  have H := Hp.refl w0 []
  repeat refine c_seq ?_
  refine c_region ?_
  refine l_op (o_box (v := .agg ([V64 t.serial, .string ⟨(t.tenant).toArray⟩, V8 t.rights, VI t.from_, VI t.until_, t.cs.v] ++ (t.tag).map V8).toArray) H rfl (fun b1 w H hb1 => ?_))
  replace H : Hp _ w _ ([.blk b1 ([V64 t.serial, .string ⟨(t.tenant).toArray⟩, V8 t.rights, VI t.from_, VI t.until_, t.cs.v] ++ (t.tag).map V8) 76]) := H
  refine l_op (o_box (v := .agg ([V8 c.1, VI c.2]).toArray) H rfl (fun b2 w H hb2 => ?_))
  replace H : Hp _ w _ ([_, .blk b2 ([V8 c.1, VI c.2]) 78]) := H
  refine l_op (o_alloc H zc76 (fun b3 w H hb3 => ?_))
  replace H : Hp _ w _ ([_, _, .blk b3 ([V64 (0 : UInt64), .string ⟨(([] : List UInt8)).toArray⟩, V8 (0 : UInt8), VI 0, VI 0, .slice none 0 0] ++ (List.replicate 32 (0 : UInt8)).map V8) 76]) := H
  refine l_op (o_val (r_as) ?_)
  first | refine l_end ?_ | refine l_nil ?_
  repeat refine c_seq ?_
  refine c_region ?_
  refine l_op (o_val (r_ldA (C := [V64 t.serial, .string ⟨(t.tenant).toArray⟩, V8 t.rights, VI t.from_, VI t.until_, t.cs.v] ++ (t.tag).map V8) H (i := 0) rfl rfl rt76 (by rw [List.length_append, List.length_map, (show (t.tag).length = 32 from htag)]; rfl)) ?_)
  refine l_op (o_callR Try.func76 rfl rfl rfl (may14_ret _ t (hc.up H) (show (t.tag).length = 32 from htag) (by first | omega | (dsimp only; omega) | simp)) ?_)
  rintro _ w ⟨rfl, Hc⟩
  replace H : Hp _ w _ ([_, _, _]) := H.call Hc
  clear Hc
  have hk4 : (mayT t) = true := hm
  refine l_op (o_val (r_not rfl) ?_)
  refine l_op (o_val (r_mv) ?_)
  refine l_yes rfl rfl (by exact congrArg Value.bool (congrArg not hk4)) (o_val (r_fa rfl fo78_0) ?_)
  refine l_yes rfl rfl (by exact congrArg Value.bool (congrArg not hk4)) (o_val (r_ld (v := V8 c.1) H (i := 1) rfl rfl ct73 rfl) ?_)
  refine l_yes rfl rfl (by exact congrArg Value.bool (congrArg not hk4)) (o_val (r_bin (a := (c.1.toNat : Int)) (b := 15) rfl rfl (fun _ => b_gtrB false (decide_eq_false (by rw [rMay_iff] at hr; omega)))) ?_)
  refine l_op (o_val (r_pick (b := false) (congrArg Value.bool (congrArg not hk4))) ?_)
  first | refine l_end ?_ | refine l_nil ?_
  repeat refine c_seq ?_
  refine c_no rfl ?_
  refine c_skip ?_
  repeat refine c_seq ?_
  refine c_region ?_
  refine l_op (o_val (r_fa rfl fo76_5) ?_)
  refine l_op (o_val (r_ld (v := t.cs.v) H (i := 0) rfl rfl ct74 rfl) ?_)
  refine l_op (o_val (r_lens el74 rfl) ?_)
  refine l_op (o_val (r_bin (a := (t.cs.len : Int)) (b := 8) rfl rfl (fun _ => b_geqB true (decide_eq_true (by have := ((mayT_iff t).1 hm).2.2.1; omega)))) ?_)
  first | refine l_end ?_ | refine l_nil ?_
  repeat refine c_seq ?_
  refine c_yes rfl ?_
  repeat refine c_seq ?_
  refine c_region ?_
  refine l_op (o_val (r_bld' (cells := ([V64 (0 : UInt64), .string ⟨(([] : List UInt8)).toArray⟩, V8 (0 : UInt8), VI 0, VI 0, .slice none 0 0] ++ (List.replicate 32 (0 : UInt8)).map V8).toArray) (pv := []) bd76 rfl rfl) ?_)
  refine l_op (o_stW (C' := [V64 (0 : UInt64), .string ⟨(([] : List UInt8)).toArray⟩, V8 (0 : UInt8), VI 0, VI 0, .slice none 0 0] ++ (List.replicate 32 (0 : UInt8)).map V8) H (i := 2) rfl rfl rfl cs76 (by simp [Value.oneCell']) (by rw [List.length_append, List.length_map, (show (List.replicate 32 (0 : UInt8)).length = 32 from (List.length_replicate ..))]; rfl) (by rw [List.length_append, List.length_map, (show (List.replicate 32 (0 : UInt8)).length = 32 from (List.length_replicate ..))]; rfl) (fun w H => ?_))
  replace H : Hp _ w _ [_, _, _] := H
  refine l_op (o_val (r_as) ?_)
  first | refine l_end ?_ | refine l_nil ?_
  refine c_ret ?_
  try dsimp only [Exit.then, Exit.inBlock]
  refine e_retN (vs := [.agg ([V64 (0 : UInt64), .string ⟨(([] : List UInt8)).toArray⟩, V8 (0 : UInt8), VI 0, VI 0, .slice none 0 0] ++ (List.replicate 32 (0 : UInt8)).map V8).toArray, VI 2]) _ Try.results71 rfl (H.resR (C := [V64 (0 : UInt64), .string ⟨(([] : List UInt8)).toArray⟩, V8 (0 : UInt8), VI 0, VI 0, .slice none 0 0] ++ (List.replicate 32 (0 : UInt8)).map V8) (i := 2) rfl rfl rt76 (by rw [List.length_append, List.length_map, (show (List.replicate 32 (0 : UInt8)).length = 32 from (List.length_replicate ..))]; rfl) (resT (v := VI 2) rfl (resZ))) ?_
  refine ⟨_, rfl, ?_⟩
  exact ⟨rfl, H.sub (List.nil_sublist _)⟩
theorem lessr_ok (w0 : World) (t : Tok) (c : Cav) (hc : t.cs.ok cavE 2 w0) (htag : t.tag.length = 32) (hn : t.tenant.length ≤ 65536) (_hb : t.bd) (hcb : i64in c.2) (hm : mayT t = true) (hr : rMay c.1 = true) (h8 : t.cs.len < 8) :
    Ret Try.prog 71 [.agg ([V64 t.serial, .string ⟨(t.tenant).toArray⟩, V8 t.rights, VI t.from_, VI t.until_, t.cs.v] ++ (t.tag).map V8).toArray, .agg ([V8 c.1, VI c.2]).toArray] w0 fun v w' => ∃ a k, v = .tuple #[.agg ([V64 t.serial, .string ⟨(t.tenant).toArray⟩, V8 t.rights, VI t.from_, VI t.until_, .slice (hd a) (t.cs.len + 1) k] ++ (onF t.tag [c]).map V8).toArray, VI 0] ∧ Hp w0 w' [] [.own a (t.cs.len + 1) k ((t.cs.l ++ [c]).flatMap cavE) 78 2] := by
  refine ret_mk Try.func71 rfl Try.ntmps71 (by simp) ?_
  have H := Hp.refl w0 []
  have hcb1 := hcb.1
  have hcb2 := hcb.2
  repeat refine c_seq ?_
  refine c_region ?_
  refine l_op (o_box (v := .agg ([V64 t.serial, .string ⟨(t.tenant).toArray⟩, V8 t.rights, VI t.from_, VI t.until_, t.cs.v] ++ (t.tag).map V8).toArray) H rfl (fun b1 w H hb1 => ?_))
  replace H : Hp _ w _ ([.blk b1 ([V64 t.serial, .string ⟨(t.tenant).toArray⟩, V8 t.rights, VI t.from_, VI t.until_, t.cs.v] ++ (t.tag).map V8) 76]) := H
  refine l_op (o_box (v := .agg ([V8 c.1, VI c.2]).toArray) H rfl (fun b2 w H hb2 => ?_))
  replace H : Hp _ w _ ([_, .blk b2 ([V8 c.1, VI c.2]) 78]) := H
  refine l_op (o_alloc H zc76 (fun b3 w H hb3 => ?_))
  replace H : Hp _ w _ ([_, _, .blk b3 ([V64 (0 : UInt64), .string ⟨(([] : List UInt8)).toArray⟩, V8 (0 : UInt8), VI 0, VI 0, .slice none 0 0] ++ (List.replicate 32 (0 : UInt8)).map V8) 76]) := H
  refine l_op (o_val (r_as) ?_)
  first | refine l_end ?_ | refine l_nil ?_
  repeat refine c_seq ?_
  refine c_region ?_
  refine l_op (o_val (r_ldA (C := [V64 t.serial, .string ⟨(t.tenant).toArray⟩, V8 t.rights, VI t.from_, VI t.until_, t.cs.v] ++ (t.tag).map V8) H (i := 0) rfl rfl rt76 (by rw [List.length_append, List.length_map, (show (t.tag).length = 32 from htag)]; rfl)) ?_)
  refine l_op (o_callR Try.func76 rfl rfl rfl (may14_ret _ t (hc.up H) (show (t.tag).length = 32 from htag) (by first | omega | (dsimp only; omega) | simp)) ?_)
  rintro _ w ⟨rfl, Hc⟩
  replace H : Hp _ w _ ([_, _, _]) := H.call Hc
  clear Hc
  have hk4 : (mayT t) = true := hm
  refine l_op (o_val (r_not rfl) ?_)
  refine l_op (o_val (r_mv) ?_)
  refine l_yes rfl rfl (by exact congrArg Value.bool (congrArg not hk4)) (o_val (r_fa rfl fo78_0) ?_)
  refine l_yes rfl rfl (by exact congrArg Value.bool (congrArg not hk4)) (o_val (r_ld (v := V8 c.1) H (i := 1) rfl rfl ct73 rfl) ?_)
  refine l_yes rfl rfl (by exact congrArg Value.bool (congrArg not hk4)) (o_val (r_bin (a := (c.1.toNat : Int)) (b := 15) rfl rfl (fun _ => b_gtrB false (decide_eq_false (by rw [rMay_iff] at hr; omega)))) ?_)
  refine l_op (o_val (r_pick (b := false) (congrArg Value.bool (congrArg not hk4))) ?_)
  first | refine l_end ?_ | refine l_nil ?_
  repeat refine c_seq ?_
  refine c_no rfl ?_
  refine c_skip ?_
  repeat refine c_seq ?_
  refine c_region ?_
  refine l_op (o_val (r_fa rfl fo76_5) ?_)
  refine l_op (o_val (r_ld (v := t.cs.v) H (i := 0) rfl rfl ct74 rfl) ?_)
  refine l_op (o_val (r_lens el74 rfl) ?_)
  refine l_op (o_val (r_bin (a := (t.cs.len : Int)) (b := 8) rfl rfl (fun _ => b_geqB false (decide_eq_false (by omega)))) ?_)
  first | refine l_end ?_ | refine l_nil ?_
  repeat refine c_seq ?_
  refine c_no rfl ?_
  refine c_skip ?_
  repeat refine c_seq ?_
  refine wp_held (fun w => Hp w0 w [] [.blk b2 ([V8 c.1, VI c.2]) 78, .blk b3 ([V64 (0 : UInt64), .string ⟨(([] : List UInt8)).toArray⟩, V8 (0 : UInt8), VI 0, VI 0, .slice none 0 0] ++ (List.replicate 32 (0 : UInt8)).map V8) 76]) mixed ?_
  replace H := H.drew
  have HS := H.sub (.cons _ (.cons_cons _ (.cons_cons _ (List.nil_sublist _))))
  refine t_take 1 rfl (by kernel_rfl) (by kernel_rfl) (by kernel_rfl) (fun _ _ _ h => h) (fun w HS => r_fa rfl fo76_5) HS ?_
  refine t_take 4 rfl (by kernel_rfl) (by kernel_rfl) (by kernel_rfl) (fun _ _ _ h => h) (fun w HS => r_ldA (C := [V8 c.1, VI c.2]) HS (i := 0) rfl rfl rt78 (by rfl)) HS ?_
  refine t_all [0, 2, 5] (by kernel_rfl) (by simp) (all_cons (w_op 0 rfl ?_) (all_cons (w_op 2 rfl ?_) (all_cons (w_op 5 rfl ?_) (all_nil))))
  ·
   refine (o_bslG0 (α := Cav) (enc := cavE) H sl74 zc78 (by decide) (fun b5 w H hb5 => ?_))
   replace H : Hp _ w _ ([_, _, _, .own (some b5) 0 0 ((([] : List Cav)).flatMap cavE) 78 2]) := H
   refine ⟨H.sub (.cons _ (.cons_cons _ (.cons_cons _ (List.nil_sublist _)))), ?_⟩
   replace HS := H.sub (.cons _ (.cons_cons _ (.cons_cons _ (List.nil_sublist _))))
   refine t_all [2, 5] (by kernel_rfl) (by simp) (all_cons (w_op 2 rfl ?_) (all_cons (w_op 5 rfl ?_) (all_nil)))
   ·
    refine (o_val (r_ld (v := t.cs.v) H (i := 0) rfl rfl ct74 rfl) ?_)
    refine ⟨H.sub (.cons _ (.cons_cons _ (.cons_cons _ (List.nil_sublist _)))), ?_⟩
    replace HS := H.sub (.cons _ (.cons_cons _ (.cons_cons _ (List.nil_sublist _))))
    refine t_all [3, 5] (by kernel_rfl) (by simp) (all_cons (w_op 3 rfl ?_) (all_cons (w_op 5 rfl ?_) (all_nil)))
    ·
     refine (o_appG (enc := cavE) (s := t.cs) (l' := t.cs.l) (len' := t.cs.len) rfl (Nat.zero_add _) H (i := 3) rfl sl74 Try.underlying74 rfl rfl (hc.up H) (by decide) (fun _ _ => rfl) (by omega) (by decide) (fun a6 c7 w H => ?_))
     replace H : Hp _ w _ ([_, _, _, .own a6 t.cs.len c7 ((t.cs.l).flatMap cavE) 78 2]) := H
     refine ⟨H.sub (.cons _ (.cons_cons _ (.cons_cons _ (List.nil_sublist _)))), ?_⟩
     replace HS := H.sub (.cons _ (.cons_cons _ (.cons_cons _ (List.nil_sublist _))))
     refine t_step 5 rfl (by kernel_rfl) (o_bslG1 (enc := cavE) (c) H sl74 zc78 (by rfl) (by decide) (by decide) rfl rfl (fun b8 w H hb8 => ?_))
     replace H : Hp _ w _ ([_, _, _, _, .own (some b8) 1 1 (([c]).flatMap cavE) 78 2]) := H
     refine ⟨H.sub (.cons _ (.cons_cons _ (.cons_cons _ (List.nil_sublist _)))), ?_⟩
     replace HS := H.sub (.cons _ (.cons_cons _ (.cons_cons _ (List.nil_sublist _))))
     refine t_step 6 rfl (by kernel_rfl) (o_appG (enc := cavE) (s := ⟨hd (some b8), 1, 1, [c]⟩) (l' := t.cs.l ++ ([c])) (len' := t.cs.len + 1) rfl rfl H (i := 3) rfl sl74 Try.underlying74 rfl rfl (H.glOwn (i := 4) rfl (by decide) (fun _ _ => rfl)) (by decide) (fun _ _ => rfl) (by omega) (by decide) (fun a9 c10 w H => ?_))
     replace H : Hp _ w _ ([_, _, _, .own a9 (t.cs.len + 1) c10 ((t.cs.l ++ ([c])).flatMap cavE) 78 2, _]) := H
     refine ⟨H.sub (.cons _ (.cons_cons _ (.cons_cons _ (List.nil_sublist _)))), ?_⟩
     replace HS := H.sub (.cons _ (.cons_cons _ (.cons_cons _ (List.nil_sublist _))))
     refine t_take 7 rfl (by kernel_rfl) (by kernel_rfl) (by kernel_rfl) (fun _ _ _ h => h) (fun w HS => r_fa rfl fo76_5) HS ?_
     refine t_step 8 rfl (by kernel_rfl) (o_st (v := .slice (hd a9) (t.cs.len + 1) c10) H (i := 0) rfl rfl rfl cs74 rfl (by simp only [List.length_append, List.length_cons, List.length_nil]; omega) (fun w H => ?_))
     replace H : Hp _ w _ ([.blk b1 ([V64 t.serial, .string ⟨(t.tenant).toArray⟩, V8 t.rights, VI t.from_, VI t.until_, .slice (hd a9) (t.cs.len + 1) c10] ++ (t.tag).map V8) 76, _, _, _, _]) := H
     refine ⟨H.sub (.cons _ (.cons_cons _ (.cons_cons _ (List.nil_sublist _)))), ?_⟩
     replace HS := H.sub (.cons _ (.cons_cons _ (.cons_cons _ (List.nil_sublist _))))
     refine t_done (by kernel_rfl) ?_
     clear HS
     repeat refine c_seq ?_
     refine wp_held (fun w => Hp w0 w [] [.blk b2 ([V8 c.1, VI c.2]) 78, .blk b3 ([V64 (0 : UInt64), .string ⟨(([] : List UInt8)).toArray⟩, V8 (0 : UInt8), VI 0, VI 0, .slice none 0 0] ++ (List.replicate 32 (0 : UInt8)).map V8) 76, .own a9 (t.cs.len + 1) c10 ((t.cs.l ++ ([c])).flatMap cavE) 78 2, .own (some b8) 1 1 (([c]).flatMap cavE) 78 2]) mixed ?_
     replace H := H.drew
     have HS := H.sub (.cons _ (.cons_cons _ (.cons_cons _ (.cons_cons _ (.cons_cons _ (List.nil_sublist _))))))
     refine t_take 0 rfl (by kernel_rfl) (by kernel_rfl) (by kernel_rfl) (fun _ _ _ h => h) (fun w HS => r_fa rfl fo76_6) HS ?_
     refine t_take 1 rfl (by kernel_rfl) (by kernel_rfl) (by kernel_rfl) (fun _ _ _ h => h) (fun w HS => r_slAo (o := 6) (h := 32) (m := 32) (lv := none) (hv := none) (mv := none) rfl ar31 rfl rfl rfl (fun w => sbn w)) HS ?_
     refine t_take 2 rfl (by kernel_rfl) (by kernel_rfl) (by kernel_rfl) (fun _ _ _ h => h) (fun w HS => r_ldA (C := [V8 c.1, VI c.2]) HS (i := 0) rfl rfl rt78 (by rfl)) HS ?_
     refine t_step 3 rfl (by kernel_rfl) (o_callR Try.func120 rfl rfl rfl (caveat14_ret _ c hcb) ?_)
     rintro _ w ⟨a11, c12, rfl, Hc⟩
     replace H : Hp _ w _ ([_, _, _, _, _, .own a11 9 c12 ((cavB c).map V8) 5 1]) := H.call Hc
     clear Hc
     refine ⟨H.sub (.cons _ (.cons_cons _ (.cons_cons _ (.cons_cons _ (.cons_cons _ (List.nil_sublist _)))))), ?_⟩
     replace HS := H.sub (.cons _ (.cons_cons _ (.cons_cons _ (.cons_cons _ (.cons_cons _ (List.nil_sublist _))))))
     refine t_step 4 rfl (by kernel_rfl) (o_bslV ([.slice (hd a11) 9 c12]) H sl22 zc29 rfl (by simp [Value.oneCell']) rfl (by decide) (fun b13 w H hb13 => ?_))
     replace H : Hp _ w _ ([_, _, _, _, _, _, .own (some b13) 1 1 ([.slice (hd a11) 9 c12]) 29 1]) := H
     refine ⟨H.sub (.cons _ (.cons_cons _ (.cons_cons _ (.cons_cons _ (.cons_cons _ (List.nil_sublist _)))))), ?_⟩
     replace HS := H.sub (.cons _ (.cons_cons _ (.cons_cons _ (.cons_cons _ (.cons_cons _ (List.nil_sublist _))))))
     refine t_step 5 rfl (by kernel_rfl) (o_callR Try.func53 rfl rfl rfl (of3_ret _ (⟨some ⟨b1, 6, none⟩, 32, 32, t.tag⟩ : Sl) (H.slTail (i := 0) (o := 6) (pre := [V64 t.serial, .string ⟨(t.tenant).toArray⟩, V8 t.rights, VI t.from_, VI t.until_, .slice (hd a9) (t.cs.len + 1) c10]) rfl rfl (show (t.tag).length = 32 from htag) (by decide)) (hd (some b13)) 1 1 [⟨hd a11, 9, c12, cavB c⟩] (H.own (i := 6) rfl) rfl (all1 (H.slOwn (i := 5) rfl)) (by (try dsimp only); omega) (by omega) (by simp [framed, be_len, cavB_len])) ?_)
     rintro _ w ⟨rfl, Hc⟩
     replace H : Hp _ w _ ([_, _, _, _, _, _, _]) := H.call Hc
     clear Hc
     refine ⟨H.sub (.cons _ (.cons_cons _ (.cons_cons _ (.cons_cons _ (.cons_cons _ (List.nil_sublist _)))))), ?_⟩
     replace HS := H.sub (.cons _ (.cons_cons _ (.cons_cons _ (.cons_cons _ (.cons_cons _ (List.nil_sublist _))))))
     refine t_take 6 rfl (by kernel_rfl) (by kernel_rfl) (by kernel_rfl) (fun _ _ _ h => h) (fun w HS => r_fa rfl fo76_6) HS ?_
     refine t_step 7 rfl (by kernel_rfl) (o_stT (pre := [V64 t.serial, .string ⟨(t.tenant).toArray⟩, V8 t.rights, VI t.from_, VI t.until_, .slice (hd a9) (t.cs.len + 1) c10]) (l := t.tag) (l' := hmac (t.tag) (framed [cavB c])) H (i := 0) rfl rfl rfl cs31 rfl (show (t.tag).length = 32 from htag) (show (hmac (t.tag) (framed [cavB c])).length = 32 from hmac_len _ _) (fun w H => ?_))
     replace H : Hp _ w _ ([.blk b1 ([V64 t.serial, .string ⟨(t.tenant).toArray⟩, V8 t.rights, VI t.from_, VI t.until_, .slice (hd a9) (t.cs.len + 1) c10] ++ (hmac (t.tag) (framed [cavB c])).map V8) 76, _, _, _, _, _, _]) := H
     refine ⟨H.sub (.cons _ (.cons_cons _ (.cons_cons _ (.cons_cons _ (.cons_cons _ (List.nil_sublist _)))))), ?_⟩
     replace HS := H.sub (.cons _ (.cons_cons _ (.cons_cons _ (.cons_cons _ (.cons_cons _ (List.nil_sublist _))))))
     refine t_done (by kernel_rfl) ?_
     clear HS
     repeat refine c_seq ?_
     refine c_region ?_
     refine l_op (o_val (r_ldA (C := [V64 t.serial, .string ⟨(t.tenant).toArray⟩, V8 t.rights, VI t.from_, VI t.until_, .slice (hd a9) (t.cs.len + 1) c10] ++ (hmac (t.tag) (framed [cavB c])).map V8) H (i := 0) rfl rfl rt76 (by rw [List.length_append, List.length_map, (show (hmac (t.tag) (framed [cavB c])).length = 32 from hmac_len _ _)]; rfl)) ?_)
     refine l_op (o_stW (C' := [V64 t.serial, .string ⟨(t.tenant).toArray⟩, V8 t.rights, VI t.from_, VI t.until_, .slice (hd a9) (t.cs.len + 1) c10] ++ (hmac (t.tag) (framed [cavB c])).map V8) H (i := 2) rfl rfl rfl cs76 (by simp [Value.oneCell']) (by rw [List.length_append, List.length_map, (show (List.replicate 32 (0 : UInt8)).length = 32 from (List.length_replicate ..))]; rfl) (by rw [List.length_append, List.length_map, (show (hmac (t.tag) (framed [cavB c])).length = 32 from hmac_len _ _)]; rfl) (fun w H => ?_))
     replace H : Hp _ w _ ([_, _, .blk b3 ([V64 t.serial, .string ⟨(t.tenant).toArray⟩, V8 t.rights, VI t.from_, VI t.until_, .slice (hd a9) (t.cs.len + 1) c10] ++ (hmac (t.tag) (framed [cavB c])).map V8) 76, _, _, _, _]) := H
     refine l_op (o_val (r_as) ?_)
     first | refine l_end ?_ | refine l_nil ?_
     refine c_ret ?_
     try dsimp only [Exit.then, Exit.inBlock]
     refine e_retN (vs := [.agg ([V64 t.serial, .string ⟨(t.tenant).toArray⟩, V8 t.rights, VI t.from_, VI t.until_, .slice (hd a9) (t.cs.len + 1) c10] ++ (hmac (t.tag) (framed [cavB c])).map V8).toArray, VI 0]) _ Try.results71 rfl (H.resR (C := [V64 t.serial, .string ⟨(t.tenant).toArray⟩, V8 t.rights, VI t.from_, VI t.until_, .slice (hd a9) (t.cs.len + 1) c10] ++ (hmac (t.tag) (framed [cavB c])).map V8) (i := 2) rfl rfl rt76 (by rw [List.length_append, List.length_map, (show (hmac (t.tag) (framed [cavB c])).length = 32 from hmac_len _ _)]; rfl) (resT (v := VI 0) rfl (resZ))) ?_
     refine ⟨_, rfl, ?_⟩
     exact ⟨_, _, rfl, H.sub (.cons _ (.cons _ (.cons _ (.cons_cons _ (List.nil_sublist _)))))⟩
    ·
     refine (o_bslG1 (enc := cavE) (c) H sl74 zc78 (by rfl) (by decide) (by decide) rfl rfl (fun b14 w H hb14 => ?_))
     replace H : Hp _ w _ ([_, _, _, _, .own (some b14) 1 1 (([c]).flatMap cavE) 78 2]) := H
     refine ⟨H.sub (.cons _ (.cons_cons _ (.cons_cons _ (List.nil_sublist _)))), ?_⟩
     replace HS := H.sub (.cons _ (.cons_cons _ (.cons_cons _ (List.nil_sublist _))))
     refine t_step 3 rfl (by kernel_rfl) (o_appG (enc := cavE) (s := t.cs) (l' := t.cs.l) (len' := t.cs.len) rfl (Nat.zero_add _) H (i := 3) rfl sl74 Try.underlying74 rfl rfl (hc.up H) (by decide) (fun _ _ => rfl) (by omega) (by decide) (fun a15 c16 w H => ?_))
     replace H : Hp _ w _ ([_, _, _, .own a15 t.cs.len c16 ((t.cs.l).flatMap cavE) 78 2, _]) := H
     refine ⟨H.sub (.cons _ (.cons_cons _ (.cons_cons _ (List.nil_sublist _)))), ?_⟩
     replace HS := H.sub (.cons _ (.cons_cons _ (.cons_cons _ (List.nil_sublist _))))
     refine t_step 6 rfl (by kernel_rfl) (o_appG (enc := cavE) (s := ⟨hd (some b14), 1, 1, [c]⟩) (l' := t.cs.l ++ ([c])) (len' := t.cs.len + 1) rfl rfl H (i := 3) rfl sl74 Try.underlying74 rfl rfl (H.glOwn (i := 4) rfl (by decide) (fun _ _ => rfl)) (by decide) (fun _ _ => rfl) (by omega) (by decide) (fun a17 c18 w H => ?_))
     replace H : Hp _ w _ ([_, _, _, .own a17 (t.cs.len + 1) c18 ((t.cs.l ++ ([c])).flatMap cavE) 78 2, _]) := H
     refine ⟨H.sub (.cons _ (.cons_cons _ (.cons_cons _ (List.nil_sublist _)))), ?_⟩
     replace HS := H.sub (.cons _ (.cons_cons _ (.cons_cons _ (List.nil_sublist _))))
     refine t_take 7 rfl (by kernel_rfl) (by kernel_rfl) (by kernel_rfl) (fun _ _ _ h => h) (fun w HS => r_fa rfl fo76_5) HS ?_
     refine t_step 8 rfl (by kernel_rfl) (o_st (v := .slice (hd a17) (t.cs.len + 1) c18) H (i := 0) rfl rfl rfl cs74 rfl (by simp only [List.length_append, List.length_cons, List.length_nil]; omega) (fun w H => ?_))
     replace H : Hp _ w _ ([.blk b1 ([V64 t.serial, .string ⟨(t.tenant).toArray⟩, V8 t.rights, VI t.from_, VI t.until_, .slice (hd a17) (t.cs.len + 1) c18] ++ (t.tag).map V8) 76, _, _, _, _]) := H
     refine ⟨H.sub (.cons _ (.cons_cons _ (.cons_cons _ (List.nil_sublist _)))), ?_⟩
     replace HS := H.sub (.cons _ (.cons_cons _ (.cons_cons _ (List.nil_sublist _))))
     refine t_done (by kernel_rfl) ?_
     clear HS
     repeat refine c_seq ?_
     refine wp_held (fun w => Hp w0 w [] [.blk b2 ([V8 c.1, VI c.2]) 78, .blk b3 ([V64 (0 : UInt64), .string ⟨(([] : List UInt8)).toArray⟩, V8 (0 : UInt8), VI 0, VI 0, .slice none 0 0] ++ (List.replicate 32 (0 : UInt8)).map V8) 76, .own a17 (t.cs.len + 1) c18 ((t.cs.l ++ ([c])).flatMap cavE) 78 2, .own (some b14) 1 1 (([c]).flatMap cavE) 78 2]) mixed ?_
     replace H := H.drew
     have HS := H.sub (.cons _ (.cons_cons _ (.cons_cons _ (.cons_cons _ (.cons_cons _ (List.nil_sublist _))))))
     refine t_take 0 rfl (by kernel_rfl) (by kernel_rfl) (by kernel_rfl) (fun _ _ _ h => h) (fun w HS => r_fa rfl fo76_6) HS ?_
     refine t_take 1 rfl (by kernel_rfl) (by kernel_rfl) (by kernel_rfl) (fun _ _ _ h => h) (fun w HS => r_slAo (o := 6) (h := 32) (m := 32) (lv := none) (hv := none) (mv := none) rfl ar31 rfl rfl rfl (fun w => sbn w)) HS ?_
     refine t_take 2 rfl (by kernel_rfl) (by kernel_rfl) (by kernel_rfl) (fun _ _ _ h => h) (fun w HS => r_ldA (C := [V8 c.1, VI c.2]) HS (i := 0) rfl rfl rt78 (by rfl)) HS ?_
     refine t_step 3 rfl (by kernel_rfl) (o_callR Try.func120 rfl rfl rfl (caveat14_ret _ c hcb) ?_)
     rintro _ w ⟨a19, c20, rfl, Hc⟩
     replace H : Hp _ w _ ([_, _, _, _, _, .own a19 9 c20 ((cavB c).map V8) 5 1]) := H.call Hc
     clear Hc
     refine ⟨H.sub (.cons _ (.cons_cons _ (.cons_cons _ (.cons_cons _ (.cons_cons _ (List.nil_sublist _)))))), ?_⟩
     replace HS := H.sub (.cons _ (.cons_cons _ (.cons_cons _ (.cons_cons _ (.cons_cons _ (List.nil_sublist _))))))
     refine t_step 4 rfl (by kernel_rfl) (o_bslV ([.slice (hd a19) 9 c20]) H sl22 zc29 rfl (by simp [Value.oneCell']) rfl (by decide) (fun b21 w H hb21 => ?_))
     replace H : Hp _ w _ ([_, _, _, _, _, _, .own (some b21) 1 1 ([.slice (hd a19) 9 c20]) 29 1]) := H
     refine ⟨H.sub (.cons _ (.cons_cons _ (.cons_cons _ (.cons_cons _ (.cons_cons _ (List.nil_sublist _)))))), ?_⟩
     replace HS := H.sub (.cons _ (.cons_cons _ (.cons_cons _ (.cons_cons _ (.cons_cons _ (List.nil_sublist _))))))
     refine t_step 5 rfl (by kernel_rfl) (o_callR Try.func53 rfl rfl rfl (of3_ret _ (⟨some ⟨b1, 6, none⟩, 32, 32, t.tag⟩ : Sl) (H.slTail (i := 0) (o := 6) (pre := [V64 t.serial, .string ⟨(t.tenant).toArray⟩, V8 t.rights, VI t.from_, VI t.until_, .slice (hd a17) (t.cs.len + 1) c18]) rfl rfl (show (t.tag).length = 32 from htag) (by decide)) (hd (some b21)) 1 1 [⟨hd a19, 9, c20, cavB c⟩] (H.own (i := 6) rfl) rfl (all1 (H.slOwn (i := 5) rfl)) (by (try dsimp only); omega) (by omega) (by simp [framed, be_len, cavB_len])) ?_)
     rintro _ w ⟨rfl, Hc⟩
     replace H : Hp _ w _ ([_, _, _, _, _, _, _]) := H.call Hc
     clear Hc
     refine ⟨H.sub (.cons _ (.cons_cons _ (.cons_cons _ (.cons_cons _ (.cons_cons _ (List.nil_sublist _)))))), ?_⟩
     replace HS := H.sub (.cons _ (.cons_cons _ (.cons_cons _ (.cons_cons _ (.cons_cons _ (List.nil_sublist _))))))
     refine t_take 6 rfl (by kernel_rfl) (by kernel_rfl) (by kernel_rfl) (fun _ _ _ h => h) (fun w HS => r_fa rfl fo76_6) HS ?_
     refine t_step 7 rfl (by kernel_rfl) (o_stT (pre := [V64 t.serial, .string ⟨(t.tenant).toArray⟩, V8 t.rights, VI t.from_, VI t.until_, .slice (hd a17) (t.cs.len + 1) c18]) (l := t.tag) (l' := hmac (t.tag) (framed [cavB c])) H (i := 0) rfl rfl rfl cs31 rfl (show (t.tag).length = 32 from htag) (show (hmac (t.tag) (framed [cavB c])).length = 32 from hmac_len _ _) (fun w H => ?_))
     replace H : Hp _ w _ ([.blk b1 ([V64 t.serial, .string ⟨(t.tenant).toArray⟩, V8 t.rights, VI t.from_, VI t.until_, .slice (hd a17) (t.cs.len + 1) c18] ++ (hmac (t.tag) (framed [cavB c])).map V8) 76, _, _, _, _, _, _]) := H
     refine ⟨H.sub (.cons _ (.cons_cons _ (.cons_cons _ (.cons_cons _ (.cons_cons _ (List.nil_sublist _)))))), ?_⟩
     replace HS := H.sub (.cons _ (.cons_cons _ (.cons_cons _ (.cons_cons _ (.cons_cons _ (List.nil_sublist _))))))
     refine t_done (by kernel_rfl) ?_
     clear HS
     repeat refine c_seq ?_
     refine c_region ?_
     refine l_op (o_val (r_ldA (C := [V64 t.serial, .string ⟨(t.tenant).toArray⟩, V8 t.rights, VI t.from_, VI t.until_, .slice (hd a17) (t.cs.len + 1) c18] ++ (hmac (t.tag) (framed [cavB c])).map V8) H (i := 0) rfl rfl rt76 (by rw [List.length_append, List.length_map, (show (hmac (t.tag) (framed [cavB c])).length = 32 from hmac_len _ _)]; rfl)) ?_)
     refine l_op (o_stW (C' := [V64 t.serial, .string ⟨(t.tenant).toArray⟩, V8 t.rights, VI t.from_, VI t.until_, .slice (hd a17) (t.cs.len + 1) c18] ++ (hmac (t.tag) (framed [cavB c])).map V8) H (i := 2) rfl rfl rfl cs76 (by simp [Value.oneCell']) (by rw [List.length_append, List.length_map, (show (List.replicate 32 (0 : UInt8)).length = 32 from (List.length_replicate ..))]; rfl) (by rw [List.length_append, List.length_map, (show (hmac (t.tag) (framed [cavB c])).length = 32 from hmac_len _ _)]; rfl) (fun w H => ?_))
     replace H : Hp _ w _ ([_, _, .blk b3 ([V64 t.serial, .string ⟨(t.tenant).toArray⟩, V8 t.rights, VI t.from_, VI t.until_, .slice (hd a17) (t.cs.len + 1) c18] ++ (hmac (t.tag) (framed [cavB c])).map V8) 76, _, _, _, _]) := H
     refine l_op (o_val (r_as) ?_)
     first | refine l_end ?_ | refine l_nil ?_
     refine c_ret ?_
     try dsimp only [Exit.then, Exit.inBlock]
     refine e_retN (vs := [.agg ([V64 t.serial, .string ⟨(t.tenant).toArray⟩, V8 t.rights, VI t.from_, VI t.until_, .slice (hd a17) (t.cs.len + 1) c18] ++ (hmac (t.tag) (framed [cavB c])).map V8).toArray, VI 0]) _ Try.results71 rfl (H.resR (C := [V64 t.serial, .string ⟨(t.tenant).toArray⟩, V8 t.rights, VI t.from_, VI t.until_, .slice (hd a17) (t.cs.len + 1) c18] ++ (hmac (t.tag) (framed [cavB c])).map V8) (i := 2) rfl rfl rt76 (by rw [List.length_append, List.length_map, (show (hmac (t.tag) (framed [cavB c])).length = 32 from hmac_len _ _)]; rfl) (resT (v := VI 0) rfl (resZ))) ?_
     refine ⟨_, rfl, ?_⟩
     exact ⟨_, _, rfl, H.sub (.cons _ (.cons _ (.cons _ (.cons_cons _ (List.nil_sublist _)))))⟩
   ·
    refine (o_bslG1 (enc := cavE) (c) H sl74 zc78 (by rfl) (by decide) (by decide) rfl rfl (fun b22 w H hb22 => ?_))
    replace H : Hp _ w _ ([_, _, _, _, .own (some b22) 1 1 (([c]).flatMap cavE) 78 2]) := H
    refine ⟨H.sub (.cons _ (.cons_cons _ (.cons_cons _ (List.nil_sublist _)))), ?_⟩
    replace HS := H.sub (.cons _ (.cons_cons _ (.cons_cons _ (List.nil_sublist _))))
    refine t_step 2 rfl (by kernel_rfl) (o_val (r_ld (v := t.cs.v) H (i := 0) rfl rfl ct74 rfl) ?_)
    refine ⟨H.sub (.cons _ (.cons_cons _ (.cons_cons _ (List.nil_sublist _)))), ?_⟩
    replace HS := H.sub (.cons _ (.cons_cons _ (.cons_cons _ (List.nil_sublist _))))
    refine t_step 3 rfl (by kernel_rfl) (o_appG (enc := cavE) (s := t.cs) (l' := t.cs.l) (len' := t.cs.len) rfl (Nat.zero_add _) H (i := 3) rfl sl74 Try.underlying74 rfl rfl (hc.up H) (by decide) (fun _ _ => rfl) (by omega) (by decide) (fun a23 c24 w H => ?_))
    replace H : Hp _ w _ ([_, _, _, .own a23 t.cs.len c24 ((t.cs.l).flatMap cavE) 78 2, _]) := H
    refine ⟨H.sub (.cons _ (.cons_cons _ (.cons_cons _ (List.nil_sublist _)))), ?_⟩
    replace HS := H.sub (.cons _ (.cons_cons _ (.cons_cons _ (List.nil_sublist _))))
    refine t_step 6 rfl (by kernel_rfl) (o_appG (enc := cavE) (s := ⟨hd (some b22), 1, 1, [c]⟩) (l' := t.cs.l ++ ([c])) (len' := t.cs.len + 1) rfl rfl H (i := 3) rfl sl74 Try.underlying74 rfl rfl (H.glOwn (i := 4) rfl (by decide) (fun _ _ => rfl)) (by decide) (fun _ _ => rfl) (by omega) (by decide) (fun a25 c26 w H => ?_))
    replace H : Hp _ w _ ([_, _, _, .own a25 (t.cs.len + 1) c26 ((t.cs.l ++ ([c])).flatMap cavE) 78 2, _]) := H
    refine ⟨H.sub (.cons _ (.cons_cons _ (.cons_cons _ (List.nil_sublist _)))), ?_⟩
    replace HS := H.sub (.cons _ (.cons_cons _ (.cons_cons _ (List.nil_sublist _))))
    refine t_take 7 rfl (by kernel_rfl) (by kernel_rfl) (by kernel_rfl) (fun _ _ _ h => h) (fun w HS => r_fa rfl fo76_5) HS ?_
    refine t_step 8 rfl (by kernel_rfl) (o_st (v := .slice (hd a25) (t.cs.len + 1) c26) H (i := 0) rfl rfl rfl cs74 rfl (by simp only [List.length_append, List.length_cons, List.length_nil]; omega) (fun w H => ?_))
    replace H : Hp _ w _ ([.blk b1 ([V64 t.serial, .string ⟨(t.tenant).toArray⟩, V8 t.rights, VI t.from_, VI t.until_, .slice (hd a25) (t.cs.len + 1) c26] ++ (t.tag).map V8) 76, _, _, _, _]) := H
    refine ⟨H.sub (.cons _ (.cons_cons _ (.cons_cons _ (List.nil_sublist _)))), ?_⟩
    replace HS := H.sub (.cons _ (.cons_cons _ (.cons_cons _ (List.nil_sublist _))))
    refine t_done (by kernel_rfl) ?_
    clear HS
    repeat refine c_seq ?_
    refine wp_held (fun w => Hp w0 w [] [.blk b2 ([V8 c.1, VI c.2]) 78, .blk b3 ([V64 (0 : UInt64), .string ⟨(([] : List UInt8)).toArray⟩, V8 (0 : UInt8), VI 0, VI 0, .slice none 0 0] ++ (List.replicate 32 (0 : UInt8)).map V8) 76, .own a25 (t.cs.len + 1) c26 ((t.cs.l ++ ([c])).flatMap cavE) 78 2, .own (some b22) 1 1 (([c]).flatMap cavE) 78 2]) mixed ?_
    replace H := H.drew
    have HS := H.sub (.cons _ (.cons_cons _ (.cons_cons _ (.cons_cons _ (.cons_cons _ (List.nil_sublist _))))))
    refine t_take 0 rfl (by kernel_rfl) (by kernel_rfl) (by kernel_rfl) (fun _ _ _ h => h) (fun w HS => r_fa rfl fo76_6) HS ?_
    refine t_take 1 rfl (by kernel_rfl) (by kernel_rfl) (by kernel_rfl) (fun _ _ _ h => h) (fun w HS => r_slAo (o := 6) (h := 32) (m := 32) (lv := none) (hv := none) (mv := none) rfl ar31 rfl rfl rfl (fun w => sbn w)) HS ?_
    refine t_take 2 rfl (by kernel_rfl) (by kernel_rfl) (by kernel_rfl) (fun _ _ _ h => h) (fun w HS => r_ldA (C := [V8 c.1, VI c.2]) HS (i := 0) rfl rfl rt78 (by rfl)) HS ?_
    refine t_step 3 rfl (by kernel_rfl) (o_callR Try.func120 rfl rfl rfl (caveat14_ret _ c hcb) ?_)
    rintro _ w ⟨a27, c28, rfl, Hc⟩
    replace H : Hp _ w _ ([_, _, _, _, _, .own a27 9 c28 ((cavB c).map V8) 5 1]) := H.call Hc
    clear Hc
    refine ⟨H.sub (.cons _ (.cons_cons _ (.cons_cons _ (.cons_cons _ (.cons_cons _ (List.nil_sublist _)))))), ?_⟩
    replace HS := H.sub (.cons _ (.cons_cons _ (.cons_cons _ (.cons_cons _ (.cons_cons _ (List.nil_sublist _))))))
    refine t_step 4 rfl (by kernel_rfl) (o_bslV ([.slice (hd a27) 9 c28]) H sl22 zc29 rfl (by simp [Value.oneCell']) rfl (by decide) (fun b29 w H hb29 => ?_))
    replace H : Hp _ w _ ([_, _, _, _, _, _, .own (some b29) 1 1 ([.slice (hd a27) 9 c28]) 29 1]) := H
    refine ⟨H.sub (.cons _ (.cons_cons _ (.cons_cons _ (.cons_cons _ (.cons_cons _ (List.nil_sublist _)))))), ?_⟩
    replace HS := H.sub (.cons _ (.cons_cons _ (.cons_cons _ (.cons_cons _ (.cons_cons _ (List.nil_sublist _))))))
    refine t_step 5 rfl (by kernel_rfl) (o_callR Try.func53 rfl rfl rfl (of3_ret _ (⟨some ⟨b1, 6, none⟩, 32, 32, t.tag⟩ : Sl) (H.slTail (i := 0) (o := 6) (pre := [V64 t.serial, .string ⟨(t.tenant).toArray⟩, V8 t.rights, VI t.from_, VI t.until_, .slice (hd a25) (t.cs.len + 1) c26]) rfl rfl (show (t.tag).length = 32 from htag) (by decide)) (hd (some b29)) 1 1 [⟨hd a27, 9, c28, cavB c⟩] (H.own (i := 6) rfl) rfl (all1 (H.slOwn (i := 5) rfl)) (by (try dsimp only); omega) (by omega) (by simp [framed, be_len, cavB_len])) ?_)
    rintro _ w ⟨rfl, Hc⟩
    replace H : Hp _ w _ ([_, _, _, _, _, _, _]) := H.call Hc
    clear Hc
    refine ⟨H.sub (.cons _ (.cons_cons _ (.cons_cons _ (.cons_cons _ (.cons_cons _ (List.nil_sublist _)))))), ?_⟩
    replace HS := H.sub (.cons _ (.cons_cons _ (.cons_cons _ (.cons_cons _ (.cons_cons _ (List.nil_sublist _))))))
    refine t_take 6 rfl (by kernel_rfl) (by kernel_rfl) (by kernel_rfl) (fun _ _ _ h => h) (fun w HS => r_fa rfl fo76_6) HS ?_
    refine t_step 7 rfl (by kernel_rfl) (o_stT (pre := [V64 t.serial, .string ⟨(t.tenant).toArray⟩, V8 t.rights, VI t.from_, VI t.until_, .slice (hd a25) (t.cs.len + 1) c26]) (l := t.tag) (l' := hmac (t.tag) (framed [cavB c])) H (i := 0) rfl rfl rfl cs31 rfl (show (t.tag).length = 32 from htag) (show (hmac (t.tag) (framed [cavB c])).length = 32 from hmac_len _ _) (fun w H => ?_))
    replace H : Hp _ w _ ([.blk b1 ([V64 t.serial, .string ⟨(t.tenant).toArray⟩, V8 t.rights, VI t.from_, VI t.until_, .slice (hd a25) (t.cs.len + 1) c26] ++ (hmac (t.tag) (framed [cavB c])).map V8) 76, _, _, _, _, _, _]) := H
    refine ⟨H.sub (.cons _ (.cons_cons _ (.cons_cons _ (.cons_cons _ (.cons_cons _ (List.nil_sublist _)))))), ?_⟩
    replace HS := H.sub (.cons _ (.cons_cons _ (.cons_cons _ (.cons_cons _ (.cons_cons _ (List.nil_sublist _))))))
    refine t_done (by kernel_rfl) ?_
    clear HS
    repeat refine c_seq ?_
    refine c_region ?_
    refine l_op (o_val (r_ldA (C := [V64 t.serial, .string ⟨(t.tenant).toArray⟩, V8 t.rights, VI t.from_, VI t.until_, .slice (hd a25) (t.cs.len + 1) c26] ++ (hmac (t.tag) (framed [cavB c])).map V8) H (i := 0) rfl rfl rt76 (by rw [List.length_append, List.length_map, (show (hmac (t.tag) (framed [cavB c])).length = 32 from hmac_len _ _)]; rfl)) ?_)
    refine l_op (o_stW (C' := [V64 t.serial, .string ⟨(t.tenant).toArray⟩, V8 t.rights, VI t.from_, VI t.until_, .slice (hd a25) (t.cs.len + 1) c26] ++ (hmac (t.tag) (framed [cavB c])).map V8) H (i := 2) rfl rfl rfl cs76 (by simp [Value.oneCell']) (by rw [List.length_append, List.length_map, (show (List.replicate 32 (0 : UInt8)).length = 32 from (List.length_replicate ..))]; rfl) (by rw [List.length_append, List.length_map, (show (hmac (t.tag) (framed [cavB c])).length = 32 from hmac_len _ _)]; rfl) (fun w H => ?_))
    replace H : Hp _ w _ ([_, _, .blk b3 ([V64 t.serial, .string ⟨(t.tenant).toArray⟩, V8 t.rights, VI t.from_, VI t.until_, .slice (hd a25) (t.cs.len + 1) c26] ++ (hmac (t.tag) (framed [cavB c])).map V8) 76, _, _, _, _]) := H
    refine l_op (o_val (r_as) ?_)
    first | refine l_end ?_ | refine l_nil ?_
    refine c_ret ?_
    try dsimp only [Exit.then, Exit.inBlock]
    refine e_retN (vs := [.agg ([V64 t.serial, .string ⟨(t.tenant).toArray⟩, V8 t.rights, VI t.from_, VI t.until_, .slice (hd a25) (t.cs.len + 1) c26] ++ (hmac (t.tag) (framed [cavB c])).map V8).toArray, VI 0]) _ Try.results71 rfl (H.resR (C := [V64 t.serial, .string ⟨(t.tenant).toArray⟩, V8 t.rights, VI t.from_, VI t.until_, .slice (hd a25) (t.cs.len + 1) c26] ++ (hmac (t.tag) (framed [cavB c])).map V8) (i := 2) rfl rfl rt76 (by rw [List.length_append, List.length_map, (show (hmac (t.tag) (framed [cavB c])).length = 32 from hmac_len _ _)]; rfl) (resT (v := VI 0) rfl (resZ))) ?_
    refine ⟨_, rfl, ?_⟩
    exact ⟨_, _, rfl, H.sub (.cons _ (.cons _ (.cons _ (.cons_cons _ (List.nil_sublist _)))))⟩
  ·
   refine (o_val (r_ld (v := t.cs.v) H (i := 0) rfl rfl ct74 rfl) ?_)
   refine ⟨H.sub (.cons _ (.cons_cons _ (.cons_cons _ (List.nil_sublist _)))), ?_⟩
   replace HS := H.sub (.cons _ (.cons_cons _ (.cons_cons _ (List.nil_sublist _))))
   refine t_all [0, 5] (by kernel_rfl) (by simp) (all_cons (w_op 0 rfl ?_) (all_cons (w_op 5 rfl ?_) (all_nil)))
   ·
    refine (o_bslG0 (α := Cav) (enc := cavE) H sl74 zc78 (by decide) (fun b30 w H hb30 => ?_))
    replace H : Hp _ w _ ([_, _, _, .own (some b30) 0 0 ((([] : List Cav)).flatMap cavE) 78 2]) := H
    refine ⟨H.sub (.cons _ (.cons_cons _ (.cons_cons _ (List.nil_sublist _)))), ?_⟩
    replace HS := H.sub (.cons _ (.cons_cons _ (.cons_cons _ (List.nil_sublist _))))
    refine t_all [3, 5] (by kernel_rfl) (by simp) (all_cons (w_op 3 rfl ?_) (all_cons (w_op 5 rfl ?_) (all_nil)))
    ·
     refine (o_appG (enc := cavE) (s := t.cs) (l' := t.cs.l) (len' := t.cs.len) rfl (Nat.zero_add _) H (i := 3) rfl sl74 Try.underlying74 rfl rfl (hc.up H) (by decide) (fun _ _ => rfl) (by omega) (by decide) (fun a31 c32 w H => ?_))
     replace H : Hp _ w _ ([_, _, _, .own a31 t.cs.len c32 ((t.cs.l).flatMap cavE) 78 2]) := H
     refine ⟨H.sub (.cons _ (.cons_cons _ (.cons_cons _ (List.nil_sublist _)))), ?_⟩
     replace HS := H.sub (.cons _ (.cons_cons _ (.cons_cons _ (List.nil_sublist _))))
     refine t_step 5 rfl (by kernel_rfl) (o_bslG1 (enc := cavE) (c) H sl74 zc78 (by rfl) (by decide) (by decide) rfl rfl (fun b33 w H hb33 => ?_))
     replace H : Hp _ w _ ([_, _, _, _, .own (some b33) 1 1 (([c]).flatMap cavE) 78 2]) := H
     refine ⟨H.sub (.cons _ (.cons_cons _ (.cons_cons _ (List.nil_sublist _)))), ?_⟩
     replace HS := H.sub (.cons _ (.cons_cons _ (.cons_cons _ (List.nil_sublist _))))
     refine t_step 6 rfl (by kernel_rfl) (o_appG (enc := cavE) (s := ⟨hd (some b33), 1, 1, [c]⟩) (l' := t.cs.l ++ ([c])) (len' := t.cs.len + 1) rfl rfl H (i := 3) rfl sl74 Try.underlying74 rfl rfl (H.glOwn (i := 4) rfl (by decide) (fun _ _ => rfl)) (by decide) (fun _ _ => rfl) (by omega) (by decide) (fun a34 c35 w H => ?_))
     replace H : Hp _ w _ ([_, _, _, .own a34 (t.cs.len + 1) c35 ((t.cs.l ++ ([c])).flatMap cavE) 78 2, _]) := H
     refine ⟨H.sub (.cons _ (.cons_cons _ (.cons_cons _ (List.nil_sublist _)))), ?_⟩
     replace HS := H.sub (.cons _ (.cons_cons _ (.cons_cons _ (List.nil_sublist _))))
     refine t_take 7 rfl (by kernel_rfl) (by kernel_rfl) (by kernel_rfl) (fun _ _ _ h => h) (fun w HS => r_fa rfl fo76_5) HS ?_
     refine t_step 8 rfl (by kernel_rfl) (o_st (v := .slice (hd a34) (t.cs.len + 1) c35) H (i := 0) rfl rfl rfl cs74 rfl (by simp only [List.length_append, List.length_cons, List.length_nil]; omega) (fun w H => ?_))
     replace H : Hp _ w _ ([.blk b1 ([V64 t.serial, .string ⟨(t.tenant).toArray⟩, V8 t.rights, VI t.from_, VI t.until_, .slice (hd a34) (t.cs.len + 1) c35] ++ (t.tag).map V8) 76, _, _, _, _]) := H
     refine ⟨H.sub (.cons _ (.cons_cons _ (.cons_cons _ (List.nil_sublist _)))), ?_⟩
     replace HS := H.sub (.cons _ (.cons_cons _ (.cons_cons _ (List.nil_sublist _))))
     refine t_done (by kernel_rfl) ?_
     clear HS
     repeat refine c_seq ?_
     refine wp_held (fun w => Hp w0 w [] [.blk b2 ([V8 c.1, VI c.2]) 78, .blk b3 ([V64 (0 : UInt64), .string ⟨(([] : List UInt8)).toArray⟩, V8 (0 : UInt8), VI 0, VI 0, .slice none 0 0] ++ (List.replicate 32 (0 : UInt8)).map V8) 76, .own a34 (t.cs.len + 1) c35 ((t.cs.l ++ ([c])).flatMap cavE) 78 2, .own (some b33) 1 1 (([c]).flatMap cavE) 78 2]) mixed ?_
     replace H := H.drew
     have HS := H.sub (.cons _ (.cons_cons _ (.cons_cons _ (.cons_cons _ (.cons_cons _ (List.nil_sublist _))))))
     refine t_take 0 rfl (by kernel_rfl) (by kernel_rfl) (by kernel_rfl) (fun _ _ _ h => h) (fun w HS => r_fa rfl fo76_6) HS ?_
     refine t_take 1 rfl (by kernel_rfl) (by kernel_rfl) (by kernel_rfl) (fun _ _ _ h => h) (fun w HS => r_slAo (o := 6) (h := 32) (m := 32) (lv := none) (hv := none) (mv := none) rfl ar31 rfl rfl rfl (fun w => sbn w)) HS ?_
     refine t_take 2 rfl (by kernel_rfl) (by kernel_rfl) (by kernel_rfl) (fun _ _ _ h => h) (fun w HS => r_ldA (C := [V8 c.1, VI c.2]) HS (i := 0) rfl rfl rt78 (by rfl)) HS ?_
     refine t_step 3 rfl (by kernel_rfl) (o_callR Try.func120 rfl rfl rfl (caveat14_ret _ c hcb) ?_)
     rintro _ w ⟨a36, c37, rfl, Hc⟩
     replace H : Hp _ w _ ([_, _, _, _, _, .own a36 9 c37 ((cavB c).map V8) 5 1]) := H.call Hc
     clear Hc
     refine ⟨H.sub (.cons _ (.cons_cons _ (.cons_cons _ (.cons_cons _ (.cons_cons _ (List.nil_sublist _)))))), ?_⟩
     replace HS := H.sub (.cons _ (.cons_cons _ (.cons_cons _ (.cons_cons _ (.cons_cons _ (List.nil_sublist _))))))
     refine t_step 4 rfl (by kernel_rfl) (o_bslV ([.slice (hd a36) 9 c37]) H sl22 zc29 rfl (by simp [Value.oneCell']) rfl (by decide) (fun b38 w H hb38 => ?_))
     replace H : Hp _ w _ ([_, _, _, _, _, _, .own (some b38) 1 1 ([.slice (hd a36) 9 c37]) 29 1]) := H
     refine ⟨H.sub (.cons _ (.cons_cons _ (.cons_cons _ (.cons_cons _ (.cons_cons _ (List.nil_sublist _)))))), ?_⟩
     replace HS := H.sub (.cons _ (.cons_cons _ (.cons_cons _ (.cons_cons _ (.cons_cons _ (List.nil_sublist _))))))
     refine t_step 5 rfl (by kernel_rfl) (o_callR Try.func53 rfl rfl rfl (of3_ret _ (⟨some ⟨b1, 6, none⟩, 32, 32, t.tag⟩ : Sl) (H.slTail (i := 0) (o := 6) (pre := [V64 t.serial, .string ⟨(t.tenant).toArray⟩, V8 t.rights, VI t.from_, VI t.until_, .slice (hd a34) (t.cs.len + 1) c35]) rfl rfl (show (t.tag).length = 32 from htag) (by decide)) (hd (some b38)) 1 1 [⟨hd a36, 9, c37, cavB c⟩] (H.own (i := 6) rfl) rfl (all1 (H.slOwn (i := 5) rfl)) (by (try dsimp only); omega) (by omega) (by simp [framed, be_len, cavB_len])) ?_)
     rintro _ w ⟨rfl, Hc⟩
     replace H : Hp _ w _ ([_, _, _, _, _, _, _]) := H.call Hc
     clear Hc
     refine ⟨H.sub (.cons _ (.cons_cons _ (.cons_cons _ (.cons_cons _ (.cons_cons _ (List.nil_sublist _)))))), ?_⟩
     replace HS := H.sub (.cons _ (.cons_cons _ (.cons_cons _ (.cons_cons _ (.cons_cons _ (List.nil_sublist _))))))
     refine t_take 6 rfl (by kernel_rfl) (by kernel_rfl) (by kernel_rfl) (fun _ _ _ h => h) (fun w HS => r_fa rfl fo76_6) HS ?_
     refine t_step 7 rfl (by kernel_rfl) (o_stT (pre := [V64 t.serial, .string ⟨(t.tenant).toArray⟩, V8 t.rights, VI t.from_, VI t.until_, .slice (hd a34) (t.cs.len + 1) c35]) (l := t.tag) (l' := hmac (t.tag) (framed [cavB c])) H (i := 0) rfl rfl rfl cs31 rfl (show (t.tag).length = 32 from htag) (show (hmac (t.tag) (framed [cavB c])).length = 32 from hmac_len _ _) (fun w H => ?_))
     replace H : Hp _ w _ ([.blk b1 ([V64 t.serial, .string ⟨(t.tenant).toArray⟩, V8 t.rights, VI t.from_, VI t.until_, .slice (hd a34) (t.cs.len + 1) c35] ++ (hmac (t.tag) (framed [cavB c])).map V8) 76, _, _, _, _, _, _]) := H
     refine ⟨H.sub (.cons _ (.cons_cons _ (.cons_cons _ (.cons_cons _ (.cons_cons _ (List.nil_sublist _)))))), ?_⟩
     replace HS := H.sub (.cons _ (.cons_cons _ (.cons_cons _ (.cons_cons _ (.cons_cons _ (List.nil_sublist _))))))
     refine t_done (by kernel_rfl) ?_
     clear HS
     repeat refine c_seq ?_
     refine c_region ?_
     refine l_op (o_val (r_ldA (C := [V64 t.serial, .string ⟨(t.tenant).toArray⟩, V8 t.rights, VI t.from_, VI t.until_, .slice (hd a34) (t.cs.len + 1) c35] ++ (hmac (t.tag) (framed [cavB c])).map V8) H (i := 0) rfl rfl rt76 (by rw [List.length_append, List.length_map, (show (hmac (t.tag) (framed [cavB c])).length = 32 from hmac_len _ _)]; rfl)) ?_)
     refine l_op (o_stW (C' := [V64 t.serial, .string ⟨(t.tenant).toArray⟩, V8 t.rights, VI t.from_, VI t.until_, .slice (hd a34) (t.cs.len + 1) c35] ++ (hmac (t.tag) (framed [cavB c])).map V8) H (i := 2) rfl rfl rfl cs76 (by simp [Value.oneCell']) (by rw [List.length_append, List.length_map, (show (List.replicate 32 (0 : UInt8)).length = 32 from (List.length_replicate ..))]; rfl) (by rw [List.length_append, List.length_map, (show (hmac (t.tag) (framed [cavB c])).length = 32 from hmac_len _ _)]; rfl) (fun w H => ?_))
     replace H : Hp _ w _ ([_, _, .blk b3 ([V64 t.serial, .string ⟨(t.tenant).toArray⟩, V8 t.rights, VI t.from_, VI t.until_, .slice (hd a34) (t.cs.len + 1) c35] ++ (hmac (t.tag) (framed [cavB c])).map V8) 76, _, _, _, _]) := H
     refine l_op (o_val (r_as) ?_)
     first | refine l_end ?_ | refine l_nil ?_
     refine c_ret ?_
     try dsimp only [Exit.then, Exit.inBlock]
     refine e_retN (vs := [.agg ([V64 t.serial, .string ⟨(t.tenant).toArray⟩, V8 t.rights, VI t.from_, VI t.until_, .slice (hd a34) (t.cs.len + 1) c35] ++ (hmac (t.tag) (framed [cavB c])).map V8).toArray, VI 0]) _ Try.results71 rfl (H.resR (C := [V64 t.serial, .string ⟨(t.tenant).toArray⟩, V8 t.rights, VI t.from_, VI t.until_, .slice (hd a34) (t.cs.len + 1) c35] ++ (hmac (t.tag) (framed [cavB c])).map V8) (i := 2) rfl rfl rt76 (by rw [List.length_append, List.length_map, (show (hmac (t.tag) (framed [cavB c])).length = 32 from hmac_len _ _)]; rfl) (resT (v := VI 0) rfl (resZ))) ?_
     refine ⟨_, rfl, ?_⟩
     exact ⟨_, _, rfl, H.sub (.cons _ (.cons _ (.cons _ (.cons_cons _ (List.nil_sublist _)))))⟩
    ·
     refine (o_bslG1 (enc := cavE) (c) H sl74 zc78 (by rfl) (by decide) (by decide) rfl rfl (fun b39 w H hb39 => ?_))
     replace H : Hp _ w _ ([_, _, _, _, .own (some b39) 1 1 (([c]).flatMap cavE) 78 2]) := H
     refine ⟨H.sub (.cons _ (.cons_cons _ (.cons_cons _ (List.nil_sublist _)))), ?_⟩
     replace HS := H.sub (.cons _ (.cons_cons _ (.cons_cons _ (List.nil_sublist _))))
     refine t_step 3 rfl (by kernel_rfl) (o_appG (enc := cavE) (s := t.cs) (l' := t.cs.l) (len' := t.cs.len) rfl (Nat.zero_add _) H (i := 3) rfl sl74 Try.underlying74 rfl rfl (hc.up H) (by decide) (fun _ _ => rfl) (by omega) (by decide) (fun a40 c41 w H => ?_))
     replace H : Hp _ w _ ([_, _, _, .own a40 t.cs.len c41 ((t.cs.l).flatMap cavE) 78 2, _]) := H
     refine ⟨H.sub (.cons _ (.cons_cons _ (.cons_cons _ (List.nil_sublist _)))), ?_⟩
     replace HS := H.sub (.cons _ (.cons_cons _ (.cons_cons _ (List.nil_sublist _))))
     refine t_step 6 rfl (by kernel_rfl) (o_appG (enc := cavE) (s := ⟨hd (some b39), 1, 1, [c]⟩) (l' := t.cs.l ++ ([c])) (len' := t.cs.len + 1) rfl rfl H (i := 3) rfl sl74 Try.underlying74 rfl rfl (H.glOwn (i := 4) rfl (by decide) (fun _ _ => rfl)) (by decide) (fun _ _ => rfl) (by omega) (by decide) (fun a42 c43 w H => ?_))
     replace H : Hp _ w _ ([_, _, _, .own a42 (t.cs.len + 1) c43 ((t.cs.l ++ ([c])).flatMap cavE) 78 2, _]) := H
     refine ⟨H.sub (.cons _ (.cons_cons _ (.cons_cons _ (List.nil_sublist _)))), ?_⟩
     replace HS := H.sub (.cons _ (.cons_cons _ (.cons_cons _ (List.nil_sublist _))))
     refine t_take 7 rfl (by kernel_rfl) (by kernel_rfl) (by kernel_rfl) (fun _ _ _ h => h) (fun w HS => r_fa rfl fo76_5) HS ?_
     refine t_step 8 rfl (by kernel_rfl) (o_st (v := .slice (hd a42) (t.cs.len + 1) c43) H (i := 0) rfl rfl rfl cs74 rfl (by simp only [List.length_append, List.length_cons, List.length_nil]; omega) (fun w H => ?_))
     replace H : Hp _ w _ ([.blk b1 ([V64 t.serial, .string ⟨(t.tenant).toArray⟩, V8 t.rights, VI t.from_, VI t.until_, .slice (hd a42) (t.cs.len + 1) c43] ++ (t.tag).map V8) 76, _, _, _, _]) := H
     refine ⟨H.sub (.cons _ (.cons_cons _ (.cons_cons _ (List.nil_sublist _)))), ?_⟩
     replace HS := H.sub (.cons _ (.cons_cons _ (.cons_cons _ (List.nil_sublist _))))
     refine t_done (by kernel_rfl) ?_
     clear HS
     repeat refine c_seq ?_
     refine wp_held (fun w => Hp w0 w [] [.blk b2 ([V8 c.1, VI c.2]) 78, .blk b3 ([V64 (0 : UInt64), .string ⟨(([] : List UInt8)).toArray⟩, V8 (0 : UInt8), VI 0, VI 0, .slice none 0 0] ++ (List.replicate 32 (0 : UInt8)).map V8) 76, .own a42 (t.cs.len + 1) c43 ((t.cs.l ++ ([c])).flatMap cavE) 78 2, .own (some b39) 1 1 (([c]).flatMap cavE) 78 2]) mixed ?_
     replace H := H.drew
     have HS := H.sub (.cons _ (.cons_cons _ (.cons_cons _ (.cons_cons _ (.cons_cons _ (List.nil_sublist _))))))
     refine t_take 0 rfl (by kernel_rfl) (by kernel_rfl) (by kernel_rfl) (fun _ _ _ h => h) (fun w HS => r_fa rfl fo76_6) HS ?_
     refine t_take 1 rfl (by kernel_rfl) (by kernel_rfl) (by kernel_rfl) (fun _ _ _ h => h) (fun w HS => r_slAo (o := 6) (h := 32) (m := 32) (lv := none) (hv := none) (mv := none) rfl ar31 rfl rfl rfl (fun w => sbn w)) HS ?_
     refine t_take 2 rfl (by kernel_rfl) (by kernel_rfl) (by kernel_rfl) (fun _ _ _ h => h) (fun w HS => r_ldA (C := [V8 c.1, VI c.2]) HS (i := 0) rfl rfl rt78 (by rfl)) HS ?_
     refine t_step 3 rfl (by kernel_rfl) (o_callR Try.func120 rfl rfl rfl (caveat14_ret _ c hcb) ?_)
     rintro _ w ⟨a44, c45, rfl, Hc⟩
     replace H : Hp _ w _ ([_, _, _, _, _, .own a44 9 c45 ((cavB c).map V8) 5 1]) := H.call Hc
     clear Hc
     refine ⟨H.sub (.cons _ (.cons_cons _ (.cons_cons _ (.cons_cons _ (.cons_cons _ (List.nil_sublist _)))))), ?_⟩
     replace HS := H.sub (.cons _ (.cons_cons _ (.cons_cons _ (.cons_cons _ (.cons_cons _ (List.nil_sublist _))))))
     refine t_step 4 rfl (by kernel_rfl) (o_bslV ([.slice (hd a44) 9 c45]) H sl22 zc29 rfl (by simp [Value.oneCell']) rfl (by decide) (fun b46 w H hb46 => ?_))
     replace H : Hp _ w _ ([_, _, _, _, _, _, .own (some b46) 1 1 ([.slice (hd a44) 9 c45]) 29 1]) := H
     refine ⟨H.sub (.cons _ (.cons_cons _ (.cons_cons _ (.cons_cons _ (.cons_cons _ (List.nil_sublist _)))))), ?_⟩
     replace HS := H.sub (.cons _ (.cons_cons _ (.cons_cons _ (.cons_cons _ (.cons_cons _ (List.nil_sublist _))))))
     refine t_step 5 rfl (by kernel_rfl) (o_callR Try.func53 rfl rfl rfl (of3_ret _ (⟨some ⟨b1, 6, none⟩, 32, 32, t.tag⟩ : Sl) (H.slTail (i := 0) (o := 6) (pre := [V64 t.serial, .string ⟨(t.tenant).toArray⟩, V8 t.rights, VI t.from_, VI t.until_, .slice (hd a42) (t.cs.len + 1) c43]) rfl rfl (show (t.tag).length = 32 from htag) (by decide)) (hd (some b46)) 1 1 [⟨hd a44, 9, c45, cavB c⟩] (H.own (i := 6) rfl) rfl (all1 (H.slOwn (i := 5) rfl)) (by (try dsimp only); omega) (by omega) (by simp [framed, be_len, cavB_len])) ?_)
     rintro _ w ⟨rfl, Hc⟩
     replace H : Hp _ w _ ([_, _, _, _, _, _, _]) := H.call Hc
     clear Hc
     refine ⟨H.sub (.cons _ (.cons_cons _ (.cons_cons _ (.cons_cons _ (.cons_cons _ (List.nil_sublist _)))))), ?_⟩
     replace HS := H.sub (.cons _ (.cons_cons _ (.cons_cons _ (.cons_cons _ (.cons_cons _ (List.nil_sublist _))))))
     refine t_take 6 rfl (by kernel_rfl) (by kernel_rfl) (by kernel_rfl) (fun _ _ _ h => h) (fun w HS => r_fa rfl fo76_6) HS ?_
     refine t_step 7 rfl (by kernel_rfl) (o_stT (pre := [V64 t.serial, .string ⟨(t.tenant).toArray⟩, V8 t.rights, VI t.from_, VI t.until_, .slice (hd a42) (t.cs.len + 1) c43]) (l := t.tag) (l' := hmac (t.tag) (framed [cavB c])) H (i := 0) rfl rfl rfl cs31 rfl (show (t.tag).length = 32 from htag) (show (hmac (t.tag) (framed [cavB c])).length = 32 from hmac_len _ _) (fun w H => ?_))
     replace H : Hp _ w _ ([.blk b1 ([V64 t.serial, .string ⟨(t.tenant).toArray⟩, V8 t.rights, VI t.from_, VI t.until_, .slice (hd a42) (t.cs.len + 1) c43] ++ (hmac (t.tag) (framed [cavB c])).map V8) 76, _, _, _, _, _, _]) := H
     refine ⟨H.sub (.cons _ (.cons_cons _ (.cons_cons _ (.cons_cons _ (.cons_cons _ (List.nil_sublist _)))))), ?_⟩
     replace HS := H.sub (.cons _ (.cons_cons _ (.cons_cons _ (.cons_cons _ (.cons_cons _ (List.nil_sublist _))))))
     refine t_done (by kernel_rfl) ?_
     clear HS
     repeat refine c_seq ?_
     refine c_region ?_
     refine l_op (o_val (r_ldA (C := [V64 t.serial, .string ⟨(t.tenant).toArray⟩, V8 t.rights, VI t.from_, VI t.until_, .slice (hd a42) (t.cs.len + 1) c43] ++ (hmac (t.tag) (framed [cavB c])).map V8) H (i := 0) rfl rfl rt76 (by rw [List.length_append, List.length_map, (show (hmac (t.tag) (framed [cavB c])).length = 32 from hmac_len _ _)]; rfl)) ?_)
     refine l_op (o_stW (C' := [V64 t.serial, .string ⟨(t.tenant).toArray⟩, V8 t.rights, VI t.from_, VI t.until_, .slice (hd a42) (t.cs.len + 1) c43] ++ (hmac (t.tag) (framed [cavB c])).map V8) H (i := 2) rfl rfl rfl cs76 (by simp [Value.oneCell']) (by rw [List.length_append, List.length_map, (show (List.replicate 32 (0 : UInt8)).length = 32 from (List.length_replicate ..))]; rfl) (by rw [List.length_append, List.length_map, (show (hmac (t.tag) (framed [cavB c])).length = 32 from hmac_len _ _)]; rfl) (fun w H => ?_))
     replace H : Hp _ w _ ([_, _, .blk b3 ([V64 t.serial, .string ⟨(t.tenant).toArray⟩, V8 t.rights, VI t.from_, VI t.until_, .slice (hd a42) (t.cs.len + 1) c43] ++ (hmac (t.tag) (framed [cavB c])).map V8) 76, _, _, _, _]) := H
     refine l_op (o_val (r_as) ?_)
     first | refine l_end ?_ | refine l_nil ?_
     refine c_ret ?_
     try dsimp only [Exit.then, Exit.inBlock]
     refine e_retN (vs := [.agg ([V64 t.serial, .string ⟨(t.tenant).toArray⟩, V8 t.rights, VI t.from_, VI t.until_, .slice (hd a42) (t.cs.len + 1) c43] ++ (hmac (t.tag) (framed [cavB c])).map V8).toArray, VI 0]) _ Try.results71 rfl (H.resR (C := [V64 t.serial, .string ⟨(t.tenant).toArray⟩, V8 t.rights, VI t.from_, VI t.until_, .slice (hd a42) (t.cs.len + 1) c43] ++ (hmac (t.tag) (framed [cavB c])).map V8) (i := 2) rfl rfl rt76 (by rw [List.length_append, List.length_map, (show (hmac (t.tag) (framed [cavB c])).length = 32 from hmac_len _ _)]; rfl) (resT (v := VI 0) rfl (resZ))) ?_
     refine ⟨_, rfl, ?_⟩
     exact ⟨_, _, rfl, H.sub (.cons _ (.cons _ (.cons _ (.cons_cons _ (List.nil_sublist _)))))⟩
   ·
    refine (o_bslG1 (enc := cavE) (c) H sl74 zc78 (by rfl) (by decide) (by decide) rfl rfl (fun b47 w H hb47 => ?_))
    replace H : Hp _ w _ ([_, _, _, .own (some b47) 1 1 (([c]).flatMap cavE) 78 2]) := H
    refine ⟨H.sub (.cons _ (.cons_cons _ (.cons_cons _ (List.nil_sublist _)))), ?_⟩
    replace HS := H.sub (.cons _ (.cons_cons _ (.cons_cons _ (List.nil_sublist _))))
    refine t_step 0 rfl (by kernel_rfl) (o_bslG0 (α := Cav) (enc := cavE) H sl74 zc78 (by decide) (fun b48 w H hb48 => ?_))
    replace H : Hp _ w _ ([_, _, _, _, .own (some b48) 0 0 ((([] : List Cav)).flatMap cavE) 78 2]) := H
    refine ⟨H.sub (.cons _ (.cons_cons _ (.cons_cons _ (List.nil_sublist _)))), ?_⟩
    replace HS := H.sub (.cons _ (.cons_cons _ (.cons_cons _ (List.nil_sublist _))))
    refine t_step 3 rfl (by kernel_rfl) (o_appG (enc := cavE) (s := t.cs) (l' := t.cs.l) (len' := t.cs.len) rfl (Nat.zero_add _) H (i := 4) rfl sl74 Try.underlying74 rfl rfl (hc.up H) (by decide) (fun _ _ => rfl) (by omega) (by decide) (fun a49 c50 w H => ?_))
    replace H : Hp _ w _ ([_, _, _, _, .own a49 t.cs.len c50 ((t.cs.l).flatMap cavE) 78 2]) := H
    refine ⟨H.sub (.cons _ (.cons_cons _ (.cons_cons _ (List.nil_sublist _)))), ?_⟩
    replace HS := H.sub (.cons _ (.cons_cons _ (.cons_cons _ (List.nil_sublist _))))
    refine t_step 6 rfl (by kernel_rfl) (o_appG (enc := cavE) (s := ⟨hd (some b47), 1, 1, [c]⟩) (l' := t.cs.l ++ ([c])) (len' := t.cs.len + 1) rfl rfl H (i := 4) rfl sl74 Try.underlying74 rfl rfl (H.glOwn (i := 3) rfl (by decide) (fun _ _ => rfl)) (by decide) (fun _ _ => rfl) (by omega) (by decide) (fun a51 c52 w H => ?_))
    replace H : Hp _ w _ ([_, _, _, _, .own a51 (t.cs.len + 1) c52 ((t.cs.l ++ ([c])).flatMap cavE) 78 2]) := H
    refine ⟨H.sub (.cons _ (.cons_cons _ (.cons_cons _ (List.nil_sublist _)))), ?_⟩
    replace HS := H.sub (.cons _ (.cons_cons _ (.cons_cons _ (List.nil_sublist _))))
    refine t_take 7 rfl (by kernel_rfl) (by kernel_rfl) (by kernel_rfl) (fun _ _ _ h => h) (fun w HS => r_fa rfl fo76_5) HS ?_
    refine t_step 8 rfl (by kernel_rfl) (o_st (v := .slice (hd a51) (t.cs.len + 1) c52) H (i := 0) rfl rfl rfl cs74 rfl (by simp only [List.length_append, List.length_cons, List.length_nil]; omega) (fun w H => ?_))
    replace H : Hp _ w _ ([.blk b1 ([V64 t.serial, .string ⟨(t.tenant).toArray⟩, V8 t.rights, VI t.from_, VI t.until_, .slice (hd a51) (t.cs.len + 1) c52] ++ (t.tag).map V8) 76, _, _, _, _]) := H
    refine ⟨H.sub (.cons _ (.cons_cons _ (.cons_cons _ (List.nil_sublist _)))), ?_⟩
    replace HS := H.sub (.cons _ (.cons_cons _ (.cons_cons _ (List.nil_sublist _))))
    refine t_done (by kernel_rfl) ?_
    clear HS
    repeat refine c_seq ?_
    refine wp_held (fun w => Hp w0 w [] [.blk b2 ([V8 c.1, VI c.2]) 78, .blk b3 ([V64 (0 : UInt64), .string ⟨(([] : List UInt8)).toArray⟩, V8 (0 : UInt8), VI 0, VI 0, .slice none 0 0] ++ (List.replicate 32 (0 : UInt8)).map V8) 76, .own (some b47) 1 1 (([c]).flatMap cavE) 78 2, .own a51 (t.cs.len + 1) c52 ((t.cs.l ++ ([c])).flatMap cavE) 78 2]) mixed ?_
    replace H := H.drew
    have HS := H.sub (.cons _ (.cons_cons _ (.cons_cons _ (.cons_cons _ (.cons_cons _ (List.nil_sublist _))))))
    refine t_take 0 rfl (by kernel_rfl) (by kernel_rfl) (by kernel_rfl) (fun _ _ _ h => h) (fun w HS => r_fa rfl fo76_6) HS ?_
    refine t_take 1 rfl (by kernel_rfl) (by kernel_rfl) (by kernel_rfl) (fun _ _ _ h => h) (fun w HS => r_slAo (o := 6) (h := 32) (m := 32) (lv := none) (hv := none) (mv := none) rfl ar31 rfl rfl rfl (fun w => sbn w)) HS ?_
    refine t_take 2 rfl (by kernel_rfl) (by kernel_rfl) (by kernel_rfl) (fun _ _ _ h => h) (fun w HS => r_ldA (C := [V8 c.1, VI c.2]) HS (i := 0) rfl rfl rt78 (by rfl)) HS ?_
    refine t_step 3 rfl (by kernel_rfl) (o_callR Try.func120 rfl rfl rfl (caveat14_ret _ c hcb) ?_)
    rintro _ w ⟨a53, c54, rfl, Hc⟩
    replace H : Hp _ w _ ([_, _, _, _, _, .own a53 9 c54 ((cavB c).map V8) 5 1]) := H.call Hc
    clear Hc
    refine ⟨H.sub (.cons _ (.cons_cons _ (.cons_cons _ (.cons_cons _ (.cons_cons _ (List.nil_sublist _)))))), ?_⟩
    replace HS := H.sub (.cons _ (.cons_cons _ (.cons_cons _ (.cons_cons _ (.cons_cons _ (List.nil_sublist _))))))
    refine t_step 4 rfl (by kernel_rfl) (o_bslV ([.slice (hd a53) 9 c54]) H sl22 zc29 rfl (by simp [Value.oneCell']) rfl (by decide) (fun b55 w H hb55 => ?_))
    replace H : Hp _ w _ ([_, _, _, _, _, _, .own (some b55) 1 1 ([.slice (hd a53) 9 c54]) 29 1]) := H
    refine ⟨H.sub (.cons _ (.cons_cons _ (.cons_cons _ (.cons_cons _ (.cons_cons _ (List.nil_sublist _)))))), ?_⟩
    replace HS := H.sub (.cons _ (.cons_cons _ (.cons_cons _ (.cons_cons _ (.cons_cons _ (List.nil_sublist _))))))
    refine t_step 5 rfl (by kernel_rfl) (o_callR Try.func53 rfl rfl rfl (of3_ret _ (⟨some ⟨b1, 6, none⟩, 32, 32, t.tag⟩ : Sl) (H.slTail (i := 0) (o := 6) (pre := [V64 t.serial, .string ⟨(t.tenant).toArray⟩, V8 t.rights, VI t.from_, VI t.until_, .slice (hd a51) (t.cs.len + 1) c52]) rfl rfl (show (t.tag).length = 32 from htag) (by decide)) (hd (some b55)) 1 1 [⟨hd a53, 9, c54, cavB c⟩] (H.own (i := 6) rfl) rfl (all1 (H.slOwn (i := 5) rfl)) (by (try dsimp only); omega) (by omega) (by simp [framed, be_len, cavB_len])) ?_)
    rintro _ w ⟨rfl, Hc⟩
    replace H : Hp _ w _ ([_, _, _, _, _, _, _]) := H.call Hc
    clear Hc
    refine ⟨H.sub (.cons _ (.cons_cons _ (.cons_cons _ (.cons_cons _ (.cons_cons _ (List.nil_sublist _)))))), ?_⟩
    replace HS := H.sub (.cons _ (.cons_cons _ (.cons_cons _ (.cons_cons _ (.cons_cons _ (List.nil_sublist _))))))
    refine t_take 6 rfl (by kernel_rfl) (by kernel_rfl) (by kernel_rfl) (fun _ _ _ h => h) (fun w HS => r_fa rfl fo76_6) HS ?_
    refine t_step 7 rfl (by kernel_rfl) (o_stT (pre := [V64 t.serial, .string ⟨(t.tenant).toArray⟩, V8 t.rights, VI t.from_, VI t.until_, .slice (hd a51) (t.cs.len + 1) c52]) (l := t.tag) (l' := hmac (t.tag) (framed [cavB c])) H (i := 0) rfl rfl rfl cs31 rfl (show (t.tag).length = 32 from htag) (show (hmac (t.tag) (framed [cavB c])).length = 32 from hmac_len _ _) (fun w H => ?_))
    replace H : Hp _ w _ ([.blk b1 ([V64 t.serial, .string ⟨(t.tenant).toArray⟩, V8 t.rights, VI t.from_, VI t.until_, .slice (hd a51) (t.cs.len + 1) c52] ++ (hmac (t.tag) (framed [cavB c])).map V8) 76, _, _, _, _, _, _]) := H
    refine ⟨H.sub (.cons _ (.cons_cons _ (.cons_cons _ (.cons_cons _ (.cons_cons _ (List.nil_sublist _)))))), ?_⟩
    replace HS := H.sub (.cons _ (.cons_cons _ (.cons_cons _ (.cons_cons _ (.cons_cons _ (List.nil_sublist _))))))
    refine t_done (by kernel_rfl) ?_
    clear HS
    repeat refine c_seq ?_
    refine c_region ?_
    refine l_op (o_val (r_ldA (C := [V64 t.serial, .string ⟨(t.tenant).toArray⟩, V8 t.rights, VI t.from_, VI t.until_, .slice (hd a51) (t.cs.len + 1) c52] ++ (hmac (t.tag) (framed [cavB c])).map V8) H (i := 0) rfl rfl rt76 (by rw [List.length_append, List.length_map, (show (hmac (t.tag) (framed [cavB c])).length = 32 from hmac_len _ _)]; rfl)) ?_)
    refine l_op (o_stW (C' := [V64 t.serial, .string ⟨(t.tenant).toArray⟩, V8 t.rights, VI t.from_, VI t.until_, .slice (hd a51) (t.cs.len + 1) c52] ++ (hmac (t.tag) (framed [cavB c])).map V8) H (i := 2) rfl rfl rfl cs76 (by simp [Value.oneCell']) (by rw [List.length_append, List.length_map, (show (List.replicate 32 (0 : UInt8)).length = 32 from (List.length_replicate ..))]; rfl) (by rw [List.length_append, List.length_map, (show (hmac (t.tag) (framed [cavB c])).length = 32 from hmac_len _ _)]; rfl) (fun w H => ?_))
    replace H : Hp _ w _ ([_, _, .blk b3 ([V64 t.serial, .string ⟨(t.tenant).toArray⟩, V8 t.rights, VI t.from_, VI t.until_, .slice (hd a51) (t.cs.len + 1) c52] ++ (hmac (t.tag) (framed [cavB c])).map V8) 76, _, _, _, _]) := H
    refine l_op (o_val (r_as) ?_)
    first | refine l_end ?_ | refine l_nil ?_
    refine c_ret ?_
    try dsimp only [Exit.then, Exit.inBlock]
    refine e_retN (vs := [.agg ([V64 t.serial, .string ⟨(t.tenant).toArray⟩, V8 t.rights, VI t.from_, VI t.until_, .slice (hd a51) (t.cs.len + 1) c52] ++ (hmac (t.tag) (framed [cavB c])).map V8).toArray, VI 0]) _ Try.results71 rfl (H.resR (C := [V64 t.serial, .string ⟨(t.tenant).toArray⟩, V8 t.rights, VI t.from_, VI t.until_, .slice (hd a51) (t.cs.len + 1) c52] ++ (hmac (t.tag) (framed [cavB c])).map V8) (i := 2) rfl rfl rt76 (by rw [List.length_append, List.length_map, (show (hmac (t.tag) (framed [cavB c])).length = 32 from hmac_len _ _)]; rfl) (resT (v := VI 0) rfl (resZ))) ?_
    refine ⟨_, rfl, ?_⟩
    exact ⟨_, _, rfl, H.sub (.cons _ (.cons _ (.cons _ (.cons _ (.cons_cons _ (List.nil_sublist _))))))⟩
  ·
   refine (o_bslG1 (enc := cavE) (c) H sl74 zc78 (by rfl) (by decide) (by decide) rfl rfl (fun b56 w H hb56 => ?_))
   replace H : Hp _ w _ ([_, _, _, .own (some b56) 1 1 (([c]).flatMap cavE) 78 2]) := H
   refine ⟨H.sub (.cons _ (.cons_cons _ (.cons_cons _ (List.nil_sublist _)))), ?_⟩
   replace HS := H.sub (.cons _ (.cons_cons _ (.cons_cons _ (List.nil_sublist _))))
   refine t_all [0, 2] (by kernel_rfl) (by simp) (all_cons (w_op 0 rfl ?_) (all_cons (w_op 2 rfl ?_) (all_nil)))
   ·
    refine (o_bslG0 (α := Cav) (enc := cavE) H sl74 zc78 (by decide) (fun b57 w H hb57 => ?_))
    replace H : Hp _ w _ ([_, _, _, _, .own (some b57) 0 0 ((([] : List Cav)).flatMap cavE) 78 2]) := H
    refine ⟨H.sub (.cons _ (.cons_cons _ (.cons_cons _ (List.nil_sublist _)))), ?_⟩
    replace HS := H.sub (.cons _ (.cons_cons _ (.cons_cons _ (List.nil_sublist _))))
    refine t_step 2 rfl (by kernel_rfl) (o_val (r_ld (v := t.cs.v) H (i := 0) rfl rfl ct74 rfl) ?_)
    refine ⟨H.sub (.cons _ (.cons_cons _ (.cons_cons _ (List.nil_sublist _)))), ?_⟩
    replace HS := H.sub (.cons _ (.cons_cons _ (.cons_cons _ (List.nil_sublist _))))
    refine t_step 3 rfl (by kernel_rfl) (o_appG (enc := cavE) (s := t.cs) (l' := t.cs.l) (len' := t.cs.len) rfl (Nat.zero_add _) H (i := 4) rfl sl74 Try.underlying74 rfl rfl (hc.up H) (by decide) (fun _ _ => rfl) (by omega) (by decide) (fun a58 c59 w H => ?_))
    replace H : Hp _ w _ ([_, _, _, _, .own a58 t.cs.len c59 ((t.cs.l).flatMap cavE) 78 2]) := H
    refine ⟨H.sub (.cons _ (.cons_cons _ (.cons_cons _ (List.nil_sublist _)))), ?_⟩
    replace HS := H.sub (.cons _ (.cons_cons _ (.cons_cons _ (List.nil_sublist _))))
    refine t_step 6 rfl (by kernel_rfl) (o_appG (enc := cavE) (s := ⟨hd (some b56), 1, 1, [c]⟩) (l' := t.cs.l ++ ([c])) (len' := t.cs.len + 1) rfl rfl H (i := 4) rfl sl74 Try.underlying74 rfl rfl (H.glOwn (i := 3) rfl (by decide) (fun _ _ => rfl)) (by decide) (fun _ _ => rfl) (by omega) (by decide) (fun a60 c61 w H => ?_))
    replace H : Hp _ w _ ([_, _, _, _, .own a60 (t.cs.len + 1) c61 ((t.cs.l ++ ([c])).flatMap cavE) 78 2]) := H
    refine ⟨H.sub (.cons _ (.cons_cons _ (.cons_cons _ (List.nil_sublist _)))), ?_⟩
    replace HS := H.sub (.cons _ (.cons_cons _ (.cons_cons _ (List.nil_sublist _))))
    refine t_take 7 rfl (by kernel_rfl) (by kernel_rfl) (by kernel_rfl) (fun _ _ _ h => h) (fun w HS => r_fa rfl fo76_5) HS ?_
    refine t_step 8 rfl (by kernel_rfl) (o_st (v := .slice (hd a60) (t.cs.len + 1) c61) H (i := 0) rfl rfl rfl cs74 rfl (by simp only [List.length_append, List.length_cons, List.length_nil]; omega) (fun w H => ?_))
    replace H : Hp _ w _ ([.blk b1 ([V64 t.serial, .string ⟨(t.tenant).toArray⟩, V8 t.rights, VI t.from_, VI t.until_, .slice (hd a60) (t.cs.len + 1) c61] ++ (t.tag).map V8) 76, _, _, _, _]) := H
    refine ⟨H.sub (.cons _ (.cons_cons _ (.cons_cons _ (List.nil_sublist _)))), ?_⟩
    replace HS := H.sub (.cons _ (.cons_cons _ (.cons_cons _ (List.nil_sublist _))))
    refine t_done (by kernel_rfl) ?_
    clear HS
    repeat refine c_seq ?_
    refine wp_held (fun w => Hp w0 w [] [.blk b2 ([V8 c.1, VI c.2]) 78, .blk b3 ([V64 (0 : UInt64), .string ⟨(([] : List UInt8)).toArray⟩, V8 (0 : UInt8), VI 0, VI 0, .slice none 0 0] ++ (List.replicate 32 (0 : UInt8)).map V8) 76, .own (some b56) 1 1 (([c]).flatMap cavE) 78 2, .own a60 (t.cs.len + 1) c61 ((t.cs.l ++ ([c])).flatMap cavE) 78 2]) mixed ?_
    replace H := H.drew
    have HS := H.sub (.cons _ (.cons_cons _ (.cons_cons _ (.cons_cons _ (.cons_cons _ (List.nil_sublist _))))))
    refine t_take 0 rfl (by kernel_rfl) (by kernel_rfl) (by kernel_rfl) (fun _ _ _ h => h) (fun w HS => r_fa rfl fo76_6) HS ?_
    refine t_take 1 rfl (by kernel_rfl) (by kernel_rfl) (by kernel_rfl) (fun _ _ _ h => h) (fun w HS => r_slAo (o := 6) (h := 32) (m := 32) (lv := none) (hv := none) (mv := none) rfl ar31 rfl rfl rfl (fun w => sbn w)) HS ?_
    refine t_take 2 rfl (by kernel_rfl) (by kernel_rfl) (by kernel_rfl) (fun _ _ _ h => h) (fun w HS => r_ldA (C := [V8 c.1, VI c.2]) HS (i := 0) rfl rfl rt78 (by rfl)) HS ?_
    refine t_step 3 rfl (by kernel_rfl) (o_callR Try.func120 rfl rfl rfl (caveat14_ret _ c hcb) ?_)
    rintro _ w ⟨a62, c63, rfl, Hc⟩
    replace H : Hp _ w _ ([_, _, _, _, _, .own a62 9 c63 ((cavB c).map V8) 5 1]) := H.call Hc
    clear Hc
    refine ⟨H.sub (.cons _ (.cons_cons _ (.cons_cons _ (.cons_cons _ (.cons_cons _ (List.nil_sublist _)))))), ?_⟩
    replace HS := H.sub (.cons _ (.cons_cons _ (.cons_cons _ (.cons_cons _ (.cons_cons _ (List.nil_sublist _))))))
    refine t_step 4 rfl (by kernel_rfl) (o_bslV ([.slice (hd a62) 9 c63]) H sl22 zc29 rfl (by simp [Value.oneCell']) rfl (by decide) (fun b64 w H hb64 => ?_))
    replace H : Hp _ w _ ([_, _, _, _, _, _, .own (some b64) 1 1 ([.slice (hd a62) 9 c63]) 29 1]) := H
    refine ⟨H.sub (.cons _ (.cons_cons _ (.cons_cons _ (.cons_cons _ (.cons_cons _ (List.nil_sublist _)))))), ?_⟩
    replace HS := H.sub (.cons _ (.cons_cons _ (.cons_cons _ (.cons_cons _ (.cons_cons _ (List.nil_sublist _))))))
    refine t_step 5 rfl (by kernel_rfl) (o_callR Try.func53 rfl rfl rfl (of3_ret _ (⟨some ⟨b1, 6, none⟩, 32, 32, t.tag⟩ : Sl) (H.slTail (i := 0) (o := 6) (pre := [V64 t.serial, .string ⟨(t.tenant).toArray⟩, V8 t.rights, VI t.from_, VI t.until_, .slice (hd a60) (t.cs.len + 1) c61]) rfl rfl (show (t.tag).length = 32 from htag) (by decide)) (hd (some b64)) 1 1 [⟨hd a62, 9, c63, cavB c⟩] (H.own (i := 6) rfl) rfl (all1 (H.slOwn (i := 5) rfl)) (by (try dsimp only); omega) (by omega) (by simp [framed, be_len, cavB_len])) ?_)
    rintro _ w ⟨rfl, Hc⟩
    replace H : Hp _ w _ ([_, _, _, _, _, _, _]) := H.call Hc
    clear Hc
    refine ⟨H.sub (.cons _ (.cons_cons _ (.cons_cons _ (.cons_cons _ (.cons_cons _ (List.nil_sublist _)))))), ?_⟩
    replace HS := H.sub (.cons _ (.cons_cons _ (.cons_cons _ (.cons_cons _ (.cons_cons _ (List.nil_sublist _))))))
    refine t_take 6 rfl (by kernel_rfl) (by kernel_rfl) (by kernel_rfl) (fun _ _ _ h => h) (fun w HS => r_fa rfl fo76_6) HS ?_
    refine t_step 7 rfl (by kernel_rfl) (o_stT (pre := [V64 t.serial, .string ⟨(t.tenant).toArray⟩, V8 t.rights, VI t.from_, VI t.until_, .slice (hd a60) (t.cs.len + 1) c61]) (l := t.tag) (l' := hmac (t.tag) (framed [cavB c])) H (i := 0) rfl rfl rfl cs31 rfl (show (t.tag).length = 32 from htag) (show (hmac (t.tag) (framed [cavB c])).length = 32 from hmac_len _ _) (fun w H => ?_))
    replace H : Hp _ w _ ([.blk b1 ([V64 t.serial, .string ⟨(t.tenant).toArray⟩, V8 t.rights, VI t.from_, VI t.until_, .slice (hd a60) (t.cs.len + 1) c61] ++ (hmac (t.tag) (framed [cavB c])).map V8) 76, _, _, _, _, _, _]) := H
    refine ⟨H.sub (.cons _ (.cons_cons _ (.cons_cons _ (.cons_cons _ (.cons_cons _ (List.nil_sublist _)))))), ?_⟩
    replace HS := H.sub (.cons _ (.cons_cons _ (.cons_cons _ (.cons_cons _ (.cons_cons _ (List.nil_sublist _))))))
    refine t_done (by kernel_rfl) ?_
    clear HS
    repeat refine c_seq ?_
    refine c_region ?_
    refine l_op (o_val (r_ldA (C := [V64 t.serial, .string ⟨(t.tenant).toArray⟩, V8 t.rights, VI t.from_, VI t.until_, .slice (hd a60) (t.cs.len + 1) c61] ++ (hmac (t.tag) (framed [cavB c])).map V8) H (i := 0) rfl rfl rt76 (by rw [List.length_append, List.length_map, (show (hmac (t.tag) (framed [cavB c])).length = 32 from hmac_len _ _)]; rfl)) ?_)
    refine l_op (o_stW (C' := [V64 t.serial, .string ⟨(t.tenant).toArray⟩, V8 t.rights, VI t.from_, VI t.until_, .slice (hd a60) (t.cs.len + 1) c61] ++ (hmac (t.tag) (framed [cavB c])).map V8) H (i := 2) rfl rfl rfl cs76 (by simp [Value.oneCell']) (by rw [List.length_append, List.length_map, (show (List.replicate 32 (0 : UInt8)).length = 32 from (List.length_replicate ..))]; rfl) (by rw [List.length_append, List.length_map, (show (hmac (t.tag) (framed [cavB c])).length = 32 from hmac_len _ _)]; rfl) (fun w H => ?_))
    replace H : Hp _ w _ ([_, _, .blk b3 ([V64 t.serial, .string ⟨(t.tenant).toArray⟩, V8 t.rights, VI t.from_, VI t.until_, .slice (hd a60) (t.cs.len + 1) c61] ++ (hmac (t.tag) (framed [cavB c])).map V8) 76, _, _, _, _]) := H
    refine l_op (o_val (r_as) ?_)
    first | refine l_end ?_ | refine l_nil ?_
    refine c_ret ?_
    try dsimp only [Exit.then, Exit.inBlock]
    refine e_retN (vs := [.agg ([V64 t.serial, .string ⟨(t.tenant).toArray⟩, V8 t.rights, VI t.from_, VI t.until_, .slice (hd a60) (t.cs.len + 1) c61] ++ (hmac (t.tag) (framed [cavB c])).map V8).toArray, VI 0]) _ Try.results71 rfl (H.resR (C := [V64 t.serial, .string ⟨(t.tenant).toArray⟩, V8 t.rights, VI t.from_, VI t.until_, .slice (hd a60) (t.cs.len + 1) c61] ++ (hmac (t.tag) (framed [cavB c])).map V8) (i := 2) rfl rfl rt76 (by rw [List.length_append, List.length_map, (show (hmac (t.tag) (framed [cavB c])).length = 32 from hmac_len _ _)]; rfl) (resT (v := VI 0) rfl (resZ))) ?_
    refine ⟨_, rfl, ?_⟩
    exact ⟨_, _, rfl, H.sub (.cons _ (.cons _ (.cons _ (.cons _ (.cons_cons _ (List.nil_sublist _))))))⟩
   ·
    refine (o_val (r_ld (v := t.cs.v) H (i := 0) rfl rfl ct74 rfl) ?_)
    refine ⟨H.sub (.cons _ (.cons_cons _ (.cons_cons _ (List.nil_sublist _)))), ?_⟩
    replace HS := H.sub (.cons _ (.cons_cons _ (.cons_cons _ (List.nil_sublist _))))
    refine t_step 0 rfl (by kernel_rfl) (o_bslG0 (α := Cav) (enc := cavE) H sl74 zc78 (by decide) (fun b65 w H hb65 => ?_))
    replace H : Hp _ w _ ([_, _, _, _, .own (some b65) 0 0 ((([] : List Cav)).flatMap cavE) 78 2]) := H
    refine ⟨H.sub (.cons _ (.cons_cons _ (.cons_cons _ (List.nil_sublist _)))), ?_⟩
    replace HS := H.sub (.cons _ (.cons_cons _ (.cons_cons _ (List.nil_sublist _))))
    refine t_step 3 rfl (by kernel_rfl) (o_appG (enc := cavE) (s := t.cs) (l' := t.cs.l) (len' := t.cs.len) rfl (Nat.zero_add _) H (i := 4) rfl sl74 Try.underlying74 rfl rfl (hc.up H) (by decide) (fun _ _ => rfl) (by omega) (by decide) (fun a66 c67 w H => ?_))
    replace H : Hp _ w _ ([_, _, _, _, .own a66 t.cs.len c67 ((t.cs.l).flatMap cavE) 78 2]) := H
    refine ⟨H.sub (.cons _ (.cons_cons _ (.cons_cons _ (List.nil_sublist _)))), ?_⟩
    replace HS := H.sub (.cons _ (.cons_cons _ (.cons_cons _ (List.nil_sublist _))))
    refine t_step 6 rfl (by kernel_rfl) (o_appG (enc := cavE) (s := ⟨hd (some b56), 1, 1, [c]⟩) (l' := t.cs.l ++ ([c])) (len' := t.cs.len + 1) rfl rfl H (i := 4) rfl sl74 Try.underlying74 rfl rfl (H.glOwn (i := 3) rfl (by decide) (fun _ _ => rfl)) (by decide) (fun _ _ => rfl) (by omega) (by decide) (fun a68 c69 w H => ?_))
    replace H : Hp _ w _ ([_, _, _, _, .own a68 (t.cs.len + 1) c69 ((t.cs.l ++ ([c])).flatMap cavE) 78 2]) := H
    refine ⟨H.sub (.cons _ (.cons_cons _ (.cons_cons _ (List.nil_sublist _)))), ?_⟩
    replace HS := H.sub (.cons _ (.cons_cons _ (.cons_cons _ (List.nil_sublist _))))
    refine t_take 7 rfl (by kernel_rfl) (by kernel_rfl) (by kernel_rfl) (fun _ _ _ h => h) (fun w HS => r_fa rfl fo76_5) HS ?_
    refine t_step 8 rfl (by kernel_rfl) (o_st (v := .slice (hd a68) (t.cs.len + 1) c69) H (i := 0) rfl rfl rfl cs74 rfl (by simp only [List.length_append, List.length_cons, List.length_nil]; omega) (fun w H => ?_))
    replace H : Hp _ w _ ([.blk b1 ([V64 t.serial, .string ⟨(t.tenant).toArray⟩, V8 t.rights, VI t.from_, VI t.until_, .slice (hd a68) (t.cs.len + 1) c69] ++ (t.tag).map V8) 76, _, _, _, _]) := H
    refine ⟨H.sub (.cons _ (.cons_cons _ (.cons_cons _ (List.nil_sublist _)))), ?_⟩
    replace HS := H.sub (.cons _ (.cons_cons _ (.cons_cons _ (List.nil_sublist _))))
    refine t_done (by kernel_rfl) ?_
    clear HS
    repeat refine c_seq ?_
    refine wp_held (fun w => Hp w0 w [] [.blk b2 ([V8 c.1, VI c.2]) 78, .blk b3 ([V64 (0 : UInt64), .string ⟨(([] : List UInt8)).toArray⟩, V8 (0 : UInt8), VI 0, VI 0, .slice none 0 0] ++ (List.replicate 32 (0 : UInt8)).map V8) 76, .own (some b56) 1 1 (([c]).flatMap cavE) 78 2, .own a68 (t.cs.len + 1) c69 ((t.cs.l ++ ([c])).flatMap cavE) 78 2]) mixed ?_
    replace H := H.drew
    have HS := H.sub (.cons _ (.cons_cons _ (.cons_cons _ (.cons_cons _ (.cons_cons _ (List.nil_sublist _))))))
    refine t_take 0 rfl (by kernel_rfl) (by kernel_rfl) (by kernel_rfl) (fun _ _ _ h => h) (fun w HS => r_fa rfl fo76_6) HS ?_
    refine t_take 1 rfl (by kernel_rfl) (by kernel_rfl) (by kernel_rfl) (fun _ _ _ h => h) (fun w HS => r_slAo (o := 6) (h := 32) (m := 32) (lv := none) (hv := none) (mv := none) rfl ar31 rfl rfl rfl (fun w => sbn w)) HS ?_
    refine t_take 2 rfl (by kernel_rfl) (by kernel_rfl) (by kernel_rfl) (fun _ _ _ h => h) (fun w HS => r_ldA (C := [V8 c.1, VI c.2]) HS (i := 0) rfl rfl rt78 (by rfl)) HS ?_
    refine t_step 3 rfl (by kernel_rfl) (o_callR Try.func120 rfl rfl rfl (caveat14_ret _ c hcb) ?_)
    rintro _ w ⟨a70, c71, rfl, Hc⟩
    replace H : Hp _ w _ ([_, _, _, _, _, .own a70 9 c71 ((cavB c).map V8) 5 1]) := H.call Hc
    clear Hc
    refine ⟨H.sub (.cons _ (.cons_cons _ (.cons_cons _ (.cons_cons _ (.cons_cons _ (List.nil_sublist _)))))), ?_⟩
    replace HS := H.sub (.cons _ (.cons_cons _ (.cons_cons _ (.cons_cons _ (.cons_cons _ (List.nil_sublist _))))))
    refine t_step 4 rfl (by kernel_rfl) (o_bslV ([.slice (hd a70) 9 c71]) H sl22 zc29 rfl (by simp [Value.oneCell']) rfl (by decide) (fun b72 w H hb72 => ?_))
    replace H : Hp _ w _ ([_, _, _, _, _, _, .own (some b72) 1 1 ([.slice (hd a70) 9 c71]) 29 1]) := H
    refine ⟨H.sub (.cons _ (.cons_cons _ (.cons_cons _ (.cons_cons _ (.cons_cons _ (List.nil_sublist _)))))), ?_⟩
    replace HS := H.sub (.cons _ (.cons_cons _ (.cons_cons _ (.cons_cons _ (.cons_cons _ (List.nil_sublist _))))))
    refine t_step 5 rfl (by kernel_rfl) (o_callR Try.func53 rfl rfl rfl (of3_ret _ (⟨some ⟨b1, 6, none⟩, 32, 32, t.tag⟩ : Sl) (H.slTail (i := 0) (o := 6) (pre := [V64 t.serial, .string ⟨(t.tenant).toArray⟩, V8 t.rights, VI t.from_, VI t.until_, .slice (hd a68) (t.cs.len + 1) c69]) rfl rfl (show (t.tag).length = 32 from htag) (by decide)) (hd (some b72)) 1 1 [⟨hd a70, 9, c71, cavB c⟩] (H.own (i := 6) rfl) rfl (all1 (H.slOwn (i := 5) rfl)) (by (try dsimp only); omega) (by omega) (by simp [framed, be_len, cavB_len])) ?_)
    rintro _ w ⟨rfl, Hc⟩
    replace H : Hp _ w _ ([_, _, _, _, _, _, _]) := H.call Hc
    clear Hc
    refine ⟨H.sub (.cons _ (.cons_cons _ (.cons_cons _ (.cons_cons _ (.cons_cons _ (List.nil_sublist _)))))), ?_⟩
    replace HS := H.sub (.cons _ (.cons_cons _ (.cons_cons _ (.cons_cons _ (.cons_cons _ (List.nil_sublist _))))))
    refine t_take 6 rfl (by kernel_rfl) (by kernel_rfl) (by kernel_rfl) (fun _ _ _ h => h) (fun w HS => r_fa rfl fo76_6) HS ?_
    refine t_step 7 rfl (by kernel_rfl) (o_stT (pre := [V64 t.serial, .string ⟨(t.tenant).toArray⟩, V8 t.rights, VI t.from_, VI t.until_, .slice (hd a68) (t.cs.len + 1) c69]) (l := t.tag) (l' := hmac (t.tag) (framed [cavB c])) H (i := 0) rfl rfl rfl cs31 rfl (show (t.tag).length = 32 from htag) (show (hmac (t.tag) (framed [cavB c])).length = 32 from hmac_len _ _) (fun w H => ?_))
    replace H : Hp _ w _ ([.blk b1 ([V64 t.serial, .string ⟨(t.tenant).toArray⟩, V8 t.rights, VI t.from_, VI t.until_, .slice (hd a68) (t.cs.len + 1) c69] ++ (hmac (t.tag) (framed [cavB c])).map V8) 76, _, _, _, _, _, _]) := H
    refine ⟨H.sub (.cons _ (.cons_cons _ (.cons_cons _ (.cons_cons _ (.cons_cons _ (List.nil_sublist _)))))), ?_⟩
    replace HS := H.sub (.cons _ (.cons_cons _ (.cons_cons _ (.cons_cons _ (.cons_cons _ (List.nil_sublist _))))))
    refine t_done (by kernel_rfl) ?_
    clear HS
    repeat refine c_seq ?_
    refine c_region ?_
    refine l_op (o_val (r_ldA (C := [V64 t.serial, .string ⟨(t.tenant).toArray⟩, V8 t.rights, VI t.from_, VI t.until_, .slice (hd a68) (t.cs.len + 1) c69] ++ (hmac (t.tag) (framed [cavB c])).map V8) H (i := 0) rfl rfl rt76 (by rw [List.length_append, List.length_map, (show (hmac (t.tag) (framed [cavB c])).length = 32 from hmac_len _ _)]; rfl)) ?_)
    refine l_op (o_stW (C' := [V64 t.serial, .string ⟨(t.tenant).toArray⟩, V8 t.rights, VI t.from_, VI t.until_, .slice (hd a68) (t.cs.len + 1) c69] ++ (hmac (t.tag) (framed [cavB c])).map V8) H (i := 2) rfl rfl rfl cs76 (by simp [Value.oneCell']) (by rw [List.length_append, List.length_map, (show (List.replicate 32 (0 : UInt8)).length = 32 from (List.length_replicate ..))]; rfl) (by rw [List.length_append, List.length_map, (show (hmac (t.tag) (framed [cavB c])).length = 32 from hmac_len _ _)]; rfl) (fun w H => ?_))
    replace H : Hp _ w _ ([_, _, .blk b3 ([V64 t.serial, .string ⟨(t.tenant).toArray⟩, V8 t.rights, VI t.from_, VI t.until_, .slice (hd a68) (t.cs.len + 1) c69] ++ (hmac (t.tag) (framed [cavB c])).map V8) 76, _, _, _, _]) := H
    refine l_op (o_val (r_as) ?_)
    first | refine l_end ?_ | refine l_nil ?_
    refine c_ret ?_
    try dsimp only [Exit.then, Exit.inBlock]
    refine e_retN (vs := [.agg ([V64 t.serial, .string ⟨(t.tenant).toArray⟩, V8 t.rights, VI t.from_, VI t.until_, .slice (hd a68) (t.cs.len + 1) c69] ++ (hmac (t.tag) (framed [cavB c])).map V8).toArray, VI 0]) _ Try.results71 rfl (H.resR (C := [V64 t.serial, .string ⟨(t.tenant).toArray⟩, V8 t.rights, VI t.from_, VI t.until_, .slice (hd a68) (t.cs.len + 1) c69] ++ (hmac (t.tag) (framed [cavB c])).map V8) (i := 2) rfl rfl rt76 (by rw [List.length_append, List.length_map, (show (hmac (t.tag) (framed [cavB c])).length = 32 from hmac_len _ _)]; rfl) (resT (v := VI 0) rfl (resZ))) ?_
    refine ⟨_, rfl, ?_⟩
    exact ⟨_, _, rfl, H.sub (.cons _ (.cons _ (.cons _ (.cons _ (.cons_cons _ (List.nil_sublist _))))))⟩
def sameT (t u : Tok) : Bool := decide (t.tv = u.tv)
theorem tv_ext {t u : Tok} (h0 : (t.serial.toNat : Int) = u.serial.toNat) (h1 : t.tenant = u.tenant) (h2 : (t.rights.toNat : Int) = u.rights.toNat) (h3 : t.from_ = u.from_) (h4 : t.until_ = u.until_) (h6 : t.tag = u.tag) (h5 : t.cs.l = u.cs.l) : t.tv = u.tv := by
  simp only [Tok.tv, TV.mk.injEq]
  exact ⟨UInt64.toNat_inj.1 (by omega), h1, UInt8.toNat_inj.1 (by omega), h3, h4, h5, h6⟩
theorem tv_eqs {t u : Tok} (e : t.tv = u.tv) : t.serial.toNat = u.serial.toNat ∧ t.tenant = u.tenant ∧ t.rights.toNat = u.rights.toNat ∧ t.from_ = u.from_ ∧ t.until_ = u.until_ ∧ t.tag = u.tag ∧ t.cs.l = u.cs.l ∧ t.cs.l.length = u.cs.l.length := by
  simp only [Tok.tv, TV.mk.injEq] at e
  obtain ⟨h0, h1, h2, h3, h4, h5, h6⟩ := e
  exact ⟨by rw [h0], h1, by rw [h2], h3, h4, h6, h5, by rw [h5]⟩
theorem same14_ret (w0 : World) (t u : Tok) (hc : t.cs.ok cavE 2 w0) (htag : t.tag.length = 32) (hcu : u.cs.ok cavE 2 w0) (hutag : u.tag.length = 32) :
    Ret Try.prog 74 [.agg ([V64 t.serial, .string ⟨(t.tenant).toArray⟩, V8 t.rights, VI t.from_, VI t.until_, t.cs.v] ++ (t.tag).map V8).toArray, .agg ([V64 u.serial, .string ⟨(u.tenant).toArray⟩, V8 u.rights, VI u.from_, VI u.until_, u.cs.v] ++ (u.tag).map V8).toArray] w0 fun v w' => v = .bool (sameT t u) ∧ Hp w0 w' [] [] := by
  refine ret_mk Try.func74 rfl Try.ntmps74 (by simp) ?_
  have H := Hp.refl w0 []
  have hcl := hc.ln
  have hul := hcu.ln
  have hxl := hc.le
  have hxm := hc.mx
  have hmL : maxLen = 9223372036854775807 := rfl
  repeat refine c_seq ?_
  refine c_region ?_
  refine l_op (o_box (v := .agg ([V64 t.serial, .string ⟨(t.tenant).toArray⟩, V8 t.rights, VI t.from_, VI t.until_, t.cs.v] ++ (t.tag).map V8).toArray) H rfl (fun b1 w H hb1 => ?_))
  replace H : Hp _ w _ ([.blk b1 ([V64 t.serial, .string ⟨(t.tenant).toArray⟩, V8 t.rights, VI t.from_, VI t.until_, t.cs.v] ++ (t.tag).map V8) 76]) := H
  refine l_op (o_box (v := .agg ([V64 u.serial, .string ⟨(u.tenant).toArray⟩, V8 u.rights, VI u.from_, VI u.until_, u.cs.v] ++ (u.tag).map V8).toArray) H rfl (fun b2 w H hb2 => ?_))
  replace H : Hp _ w _ ([_, .blk b2 ([V64 u.serial, .string ⟨(u.tenant).toArray⟩, V8 u.rights, VI u.from_, VI u.until_, u.cs.v] ++ (u.tag).map V8) 76]) := H
  refine l_op (o_val (r_as) ?_)
  first | refine l_end ?_ | refine l_nil ?_
  repeat refine c_seq ?_
  refine c_region ?_
  refine l_op (o_val (r_fa rfl fo76_0) ?_)
  refine l_op (o_val (r_ld (v := V64 t.serial) H (i := 0) rfl rfl ct35 rfl) ?_)
  refine l_op (o_val (r_fa rfl fo76_0) ?_)
  refine l_op (o_val (r_ld (v := V64 u.serial) H (i := 1) rfl rfl ct35 rfl) ?_)
  refine l_op (o_val (r_bin (a := (t.serial.toNat : Int)) (b := (u.serial.toNat : Int)) rfl rfl (fun _ => b_neq)) ?_)
  refine l_op (o_val (r_mv) ?_)
  by_cases hc3 : (t.serial.toNat : Int) ≠ (u.serial.toNat : Int)
  ·
   refine l_no rfl rfl (by exact congrArg Value.bool (decide_eq_true hc3)) rfl ?_
   refine l_no rfl rfl (by exact congrArg Value.bool (decide_eq_true hc3)) rfl ?_
   refine l_no rfl rfl (by exact congrArg Value.bool (decide_eq_true hc3)) rfl ?_
   refine l_no rfl rfl (by exact congrArg Value.bool (decide_eq_true hc3)) rfl ?_
   refine l_no rfl rfl (by exact congrArg Value.bool (decide_eq_true hc3)) rfl ?_
   refine l_op (o_val (r_pick (b := true) (congrArg Value.bool (decide_eq_true hc3))) ?_)
   refine l_op (o_val (r_mv) ?_)
   refine l_no rfl rfl rfl rfl ?_
   refine l_no rfl rfl rfl rfl ?_
   refine l_no rfl rfl rfl rfl ?_
   refine l_no rfl rfl rfl rfl ?_
   refine l_no rfl rfl rfl rfl ?_
   refine l_op (o_val (r_pick rfl) ?_)
   refine l_op (o_val (r_mv) ?_)
   refine l_no rfl rfl rfl rfl ?_
   refine l_no rfl rfl rfl rfl ?_
   refine l_no rfl rfl rfl rfl ?_
   refine l_no rfl rfl rfl rfl ?_
   refine l_no rfl rfl rfl rfl ?_
   refine l_op (o_val (r_pick rfl) ?_)
   refine l_op (o_val (r_mv) ?_)
   refine l_no rfl rfl rfl rfl ?_
   refine l_no rfl rfl rfl rfl ?_
   refine l_no rfl rfl rfl rfl ?_
   refine l_no rfl rfl rfl rfl ?_
   refine l_no rfl rfl rfl rfl ?_
   refine l_op (o_val (r_pick rfl) ?_)
   refine l_op (o_val (r_mv) ?_)
   refine l_no rfl rfl rfl rfl ?_
   refine l_no rfl rfl rfl rfl ?_
   refine l_no rfl rfl rfl rfl ?_
   refine l_no rfl rfl rfl rfl ?_
   refine l_no rfl rfl rfl rfl ?_
   refine l_op (o_val (r_pick rfl) ?_)
   refine l_op (o_val (r_mv) ?_)
   refine l_no rfl rfl rfl rfl ?_
   refine l_no rfl rfl rfl rfl ?_
   refine l_no rfl rfl rfl rfl ?_
   refine l_no rfl rfl rfl rfl ?_
   refine l_no rfl rfl rfl rfl ?_
   refine l_no rfl rfl rfl rfl ?_
   refine l_no rfl rfl rfl rfl ?_
   refine l_op (o_val (r_pick rfl) ?_)
   first | refine l_end ?_ | refine l_nil ?_
   repeat refine c_seq ?_
   refine c_yes rfl ?_
   repeat refine c_seq ?_
   refine c_region ?_
   refine l_op (o_val (r_as) ?_)
   first | refine l_end ?_ | refine l_nil ?_
   refine c_ret ?_
   try dsimp only [Exit.then, Exit.inBlock]
   refine e_ret1 (v := .bool false) Try.results74 rfl ?_
   refine ⟨_, rfl, ?_⟩
   refine ⟨?_, H.sub (List.nil_sublist _)⟩
   have e : sameT t u = false := decide_eq_false fun e => by
     obtain ⟨e0, e1, e2, e3, e4, e5, e6, e7⟩ := tv_eqs e
     first | contradiction | omega
   rw [e]
  ·
   refine l_yes rfl rfl (by exact congrArg Value.bool (decide_eq_false hc3)) (o_val (r_fa rfl fo76_1) ?_)
   refine l_yes rfl rfl (by exact congrArg Value.bool (decide_eq_false hc3)) (o_val (r_ld (v := .string ⟨(t.tenant).toArray⟩) H (i := 0) rfl rfl ct9 rfl) ?_)
   refine l_yes rfl rfl (by exact congrArg Value.bool (decide_eq_false hc3)) (o_val (r_fa rfl fo76_1) ?_)
   refine l_yes rfl rfl (by exact congrArg Value.bool (decide_eq_false hc3)) (o_val (r_ld (v := .string ⟨(u.tenant).toArray⟩) H (i := 1) rfl rfl ct9 rfl) ?_)
   refine l_yes rfl rfl (by exact congrArg Value.bool (decide_eq_false hc3)) (o_val (r_strne (a := t.tenant) (b := u.tenant) rfl rfl) ?_)
   refine l_op (o_val (r_pick (b := false) (congrArg Value.bool (decide_eq_false hc3))) ?_)
   refine l_op (o_val (r_mv) ?_)
   by_cases hc4 : t.tenant = u.tenant
   ·
    refine l_yes rfl rfl (by exact congrArg Value.bool (congrArg not (decide_eq_true hc4))) (o_val (r_fa rfl fo76_2) ?_)
    refine l_yes rfl rfl (by exact congrArg Value.bool (congrArg not (decide_eq_true hc4))) (o_val (r_ld (v := V8 t.rights) H (i := 0) rfl rfl ct73 rfl) ?_)
    refine l_yes rfl rfl (by exact congrArg Value.bool (congrArg not (decide_eq_true hc4))) (o_val (r_fa rfl fo76_2) ?_)
    refine l_yes rfl rfl (by exact congrArg Value.bool (congrArg not (decide_eq_true hc4))) (o_val (r_ld (v := V8 u.rights) H (i := 1) rfl rfl ct73 rfl) ?_)
    refine l_yes rfl rfl (by exact congrArg Value.bool (congrArg not (decide_eq_true hc4))) (o_val (r_bin (a := (t.rights.toNat : Int)) (b := (u.rights.toNat : Int)) rfl rfl (fun _ => b_neq)) ?_)
    refine l_op (o_val (r_pick (b := false) (congrArg Value.bool (congrArg not (decide_eq_true hc4)))) ?_)
    refine l_op (o_val (r_mv) ?_)
    by_cases hc5 : (t.rights.toNat : Int) ≠ (u.rights.toNat : Int)
    ·
     refine l_no rfl rfl (by exact congrArg Value.bool (decide_eq_true hc5)) rfl ?_
     refine l_no rfl rfl (by exact congrArg Value.bool (decide_eq_true hc5)) rfl ?_
     refine l_no rfl rfl (by exact congrArg Value.bool (decide_eq_true hc5)) rfl ?_
     refine l_no rfl rfl (by exact congrArg Value.bool (decide_eq_true hc5)) rfl ?_
     refine l_no rfl rfl (by exact congrArg Value.bool (decide_eq_true hc5)) rfl ?_
     refine l_op (o_val (r_pick (b := true) (congrArg Value.bool (decide_eq_true hc5))) ?_)
     refine l_op (o_val (r_mv) ?_)
     refine l_no rfl rfl rfl rfl ?_
     refine l_no rfl rfl rfl rfl ?_
     refine l_no rfl rfl rfl rfl ?_
     refine l_no rfl rfl rfl rfl ?_
     refine l_no rfl rfl rfl rfl ?_
     refine l_op (o_val (r_pick rfl) ?_)
     refine l_op (o_val (r_mv) ?_)
     refine l_no rfl rfl rfl rfl ?_
     refine l_no rfl rfl rfl rfl ?_
     refine l_no rfl rfl rfl rfl ?_
     refine l_no rfl rfl rfl rfl ?_
     refine l_no rfl rfl rfl rfl ?_
     refine l_op (o_val (r_pick rfl) ?_)
     refine l_op (o_val (r_mv) ?_)
     refine l_no rfl rfl rfl rfl ?_
     refine l_no rfl rfl rfl rfl ?_
     refine l_no rfl rfl rfl rfl ?_
     refine l_no rfl rfl rfl rfl ?_
     refine l_no rfl rfl rfl rfl ?_
     refine l_no rfl rfl rfl rfl ?_
     refine l_no rfl rfl rfl rfl ?_
     refine l_op (o_val (r_pick rfl) ?_)
     first | refine l_end ?_ | refine l_nil ?_
     repeat refine c_seq ?_
     refine c_yes rfl ?_
     repeat refine c_seq ?_
     refine c_region ?_
     refine l_op (o_val (r_as) ?_)
     first | refine l_end ?_ | refine l_nil ?_
     refine c_ret ?_
     try dsimp only [Exit.then, Exit.inBlock]
     refine e_ret1 (v := .bool false) Try.results74 rfl ?_
     refine ⟨_, rfl, ?_⟩
     refine ⟨?_, H.sub (List.nil_sublist _)⟩
     have e : sameT t u = false := decide_eq_false fun e => by
       obtain ⟨e0, e1, e2, e3, e4, e5, e6, e7⟩ := tv_eqs e
       first | contradiction | omega
     rw [e]
    ·
     refine l_yes rfl rfl (by exact congrArg Value.bool (decide_eq_false hc5)) (o_val (r_fa rfl fo76_3) ?_)
     refine l_yes rfl rfl (by exact congrArg Value.bool (decide_eq_false hc5)) (o_val (r_ld (v := VI t.from_) H (i := 0) rfl rfl ct2 rfl) ?_)
     refine l_yes rfl rfl (by exact congrArg Value.bool (decide_eq_false hc5)) (o_val (r_fa rfl fo76_3) ?_)
     refine l_yes rfl rfl (by exact congrArg Value.bool (decide_eq_false hc5)) (o_val (r_ld (v := VI u.from_) H (i := 1) rfl rfl ct2 rfl) ?_)
     refine l_yes rfl rfl (by exact congrArg Value.bool (decide_eq_false hc5)) (o_val (r_bin (a := t.from_) (b := u.from_) rfl rfl (fun _ => b_neq)) ?_)
     refine l_op (o_val (r_pick (b := false) (congrArg Value.bool (decide_eq_false hc5))) ?_)
     refine l_op (o_val (r_mv) ?_)
     by_cases hc6 : t.from_ ≠ u.from_
     ·
      refine l_no rfl rfl (by exact congrArg Value.bool (decide_eq_true hc6)) rfl ?_
      refine l_no rfl rfl (by exact congrArg Value.bool (decide_eq_true hc6)) rfl ?_
      refine l_no rfl rfl (by exact congrArg Value.bool (decide_eq_true hc6)) rfl ?_
      refine l_no rfl rfl (by exact congrArg Value.bool (decide_eq_true hc6)) rfl ?_
      refine l_no rfl rfl (by exact congrArg Value.bool (decide_eq_true hc6)) rfl ?_
      refine l_op (o_val (r_pick (b := true) (congrArg Value.bool (decide_eq_true hc6))) ?_)
      refine l_op (o_val (r_mv) ?_)
      refine l_no rfl rfl rfl rfl ?_
      refine l_no rfl rfl rfl rfl ?_
      refine l_no rfl rfl rfl rfl ?_
      refine l_no rfl rfl rfl rfl ?_
      refine l_no rfl rfl rfl rfl ?_
      refine l_op (o_val (r_pick rfl) ?_)
      refine l_op (o_val (r_mv) ?_)
      refine l_no rfl rfl rfl rfl ?_
      refine l_no rfl rfl rfl rfl ?_
      refine l_no rfl rfl rfl rfl ?_
      refine l_no rfl rfl rfl rfl ?_
      refine l_no rfl rfl rfl rfl ?_
      refine l_no rfl rfl rfl rfl ?_
      refine l_no rfl rfl rfl rfl ?_
      refine l_op (o_val (r_pick rfl) ?_)
      first | refine l_end ?_ | refine l_nil ?_
      repeat refine c_seq ?_
      refine c_yes rfl ?_
      repeat refine c_seq ?_
      refine c_region ?_
      refine l_op (o_val (r_as) ?_)
      first | refine l_end ?_ | refine l_nil ?_
      refine c_ret ?_
      try dsimp only [Exit.then, Exit.inBlock]
      refine e_ret1 (v := .bool false) Try.results74 rfl ?_
      refine ⟨_, rfl, ?_⟩
      refine ⟨?_, H.sub (List.nil_sublist _)⟩
      have e : sameT t u = false := decide_eq_false fun e => by
        obtain ⟨e0, e1, e2, e3, e4, e5, e6, e7⟩ := tv_eqs e
        first | contradiction | omega
      rw [e]
     ·
      refine l_yes rfl rfl (by exact congrArg Value.bool (decide_eq_false hc6)) (o_val (r_fa rfl fo76_4) ?_)
      refine l_yes rfl rfl (by exact congrArg Value.bool (decide_eq_false hc6)) (o_val (r_ld (v := VI t.until_) H (i := 0) rfl rfl ct2 rfl) ?_)
      refine l_yes rfl rfl (by exact congrArg Value.bool (decide_eq_false hc6)) (o_val (r_fa rfl fo76_4) ?_)
      refine l_yes rfl rfl (by exact congrArg Value.bool (decide_eq_false hc6)) (o_val (r_ld (v := VI u.until_) H (i := 1) rfl rfl ct2 rfl) ?_)
      refine l_yes rfl rfl (by exact congrArg Value.bool (decide_eq_false hc6)) (o_val (r_bin (a := t.until_) (b := u.until_) rfl rfl (fun _ => b_neq)) ?_)
      refine l_op (o_val (r_pick (b := false) (congrArg Value.bool (decide_eq_false hc6))) ?_)
      refine l_op (o_val (r_mv) ?_)
      by_cases hc7 : t.until_ ≠ u.until_
      ·
       refine l_no rfl rfl (by exact congrArg Value.bool (decide_eq_true hc7)) rfl ?_
       refine l_no rfl rfl (by exact congrArg Value.bool (decide_eq_true hc7)) rfl ?_
       refine l_no rfl rfl (by exact congrArg Value.bool (decide_eq_true hc7)) rfl ?_
       refine l_no rfl rfl (by exact congrArg Value.bool (decide_eq_true hc7)) rfl ?_
       refine l_no rfl rfl (by exact congrArg Value.bool (decide_eq_true hc7)) rfl ?_
       refine l_op (o_val (r_pick (b := true) (congrArg Value.bool (decide_eq_true hc7))) ?_)
       refine l_op (o_val (r_mv) ?_)
       refine l_no rfl rfl rfl rfl ?_
       refine l_no rfl rfl rfl rfl ?_
       refine l_no rfl rfl rfl rfl ?_
       refine l_no rfl rfl rfl rfl ?_
       refine l_no rfl rfl rfl rfl ?_
       refine l_no rfl rfl rfl rfl ?_
       refine l_no rfl rfl rfl rfl ?_
       refine l_op (o_val (r_pick rfl) ?_)
       first | refine l_end ?_ | refine l_nil ?_
       repeat refine c_seq ?_
       refine c_yes rfl ?_
       repeat refine c_seq ?_
       refine c_region ?_
       refine l_op (o_val (r_as) ?_)
       first | refine l_end ?_ | refine l_nil ?_
       refine c_ret ?_
       try dsimp only [Exit.then, Exit.inBlock]
       refine e_ret1 (v := .bool false) Try.results74 rfl ?_
       refine ⟨_, rfl, ?_⟩
       refine ⟨?_, H.sub (List.nil_sublist _)⟩
       have e : sameT t u = false := decide_eq_false fun e => by
         obtain ⟨e0, e1, e2, e3, e4, e5, e6, e7⟩ := tv_eqs e
         first | contradiction | omega
       rw [e]
      ·
       refine l_yes rfl rfl (by exact congrArg Value.bool (decide_eq_false hc7)) (o_val (r_fa rfl fo76_6) ?_)
       refine l_yes rfl rfl (by exact congrArg Value.bool (decide_eq_false hc7)) (o_val (r_ldT (pre := [V64 t.serial, .string ⟨(t.tenant).toArray⟩, V8 t.rights, VI t.from_, VI t.until_, t.cs.v]) (l := t.tag) H (i := 0) rfl rfl rt31 rfl (show (t.tag).length = 32 from htag)) ?_)
       refine l_yes rfl rfl (by exact congrArg Value.bool (decide_eq_false hc7)) (o_val (r_fa rfl fo76_6) ?_)
       refine l_yes rfl rfl (by exact congrArg Value.bool (decide_eq_false hc7)) (o_val (r_ldT (pre := [V64 u.serial, .string ⟨(u.tenant).toArray⟩, V8 u.rights, VI u.from_, VI u.until_, u.cs.v]) (l := u.tag) H (i := 1) rfl rfl rt31 rfl (show (u.tag).length = 32 from hutag)) ?_)
       refine l_yes rfl rfl (by exact congrArg Value.bool (decide_eq_false hc7)) (o_val (r_nea (a := t.tag) (b := u.tag) Try.underlying31 Try.underlying5 cs5 rfl rfl (show (t.tag).length = 32 from htag) (show (u.tag).length = 32 from hutag)) ?_)
       refine l_op (o_val (r_pick (b := false) (congrArg Value.bool (decide_eq_false hc7))) ?_)
       refine l_op (o_val (r_mv) ?_)
       by_cases hc8 : t.tag = u.tag
       ·
        refine l_yes rfl rfl (by exact congrArg Value.bool (congrArg not (decide_eq_true hc8))) (o_val (r_fa rfl fo76_5) ?_)
        refine l_yes rfl rfl (by exact congrArg Value.bool (congrArg not (decide_eq_true hc8))) (o_val (r_ld (v := t.cs.v) H (i := 0) rfl rfl ct74 rfl) ?_)
        refine l_yes rfl rfl (by exact congrArg Value.bool (congrArg not (decide_eq_true hc8))) (o_val (r_lens el74 rfl) ?_)
        refine l_yes rfl rfl (by exact congrArg Value.bool (congrArg not (decide_eq_true hc8))) (o_val (r_fa rfl fo76_5) ?_)
        refine l_yes rfl rfl (by exact congrArg Value.bool (congrArg not (decide_eq_true hc8))) (o_val (r_ld (v := u.cs.v) H (i := 1) rfl rfl ct74 rfl) ?_)
        refine l_yes rfl rfl (by exact congrArg Value.bool (congrArg not (decide_eq_true hc8))) (o_val (r_lens el74 rfl) ?_)
        refine l_yes rfl rfl (by exact congrArg Value.bool (congrArg not (decide_eq_true hc8))) (o_val (r_bin (a := (t.cs.len : Int)) (b := (u.cs.len : Int)) rfl rfl (fun _ => b_neq)) ?_)
        refine l_op (o_val (r_pick (b := false) (congrArg Value.bool (congrArg not (decide_eq_true hc8)))) ?_)
        first | refine l_end ?_ | refine l_nil ?_
        by_cases hc9 : (t.cs.len : Int) ≠ (u.cs.len : Int)
        ·
         repeat refine c_seq ?_
         refine c_yes (by exact congrArg Value.bool (decide_eq_true hc9)) ?_
         repeat refine c_seq ?_
         refine c_region ?_
         refine l_op (o_val (r_as) ?_)
         first | refine l_end ?_ | refine l_nil ?_
         refine c_ret ?_
         try dsimp only [Exit.then, Exit.inBlock]
         refine e_ret1 (v := .bool false) Try.results74 rfl ?_
         refine ⟨_, rfl, ?_⟩
         refine ⟨?_, H.sub (List.nil_sublist _)⟩
         have e : sameT t u = false := decide_eq_false fun e => by
           obtain ⟨e0, e1, e2, e3, e4, e5, e6, e7⟩ := tv_eqs e
           first | contradiction | omega
         rw [e]
        ·
         repeat refine c_seq ?_
         refine c_no (by exact congrArg Value.bool (decide_eq_false hc9)) ?_
         refine c_skip ?_
         repeat refine c_seq ?_
         refine c_region ?_
         refine l_op (o_val (r_as) ?_)
         first | refine l_end ?_ | refine l_nil ?_
         repeat refine c_seq ?_
         refine c_block ?_
         repeat refine c_seq ?_
         refine c_loop (fun (i : Nat) => [(2, .pointer (some ⟨b1, 0, none⟩)), (3, .pointer (some ⟨b2, 0, none⟩)), (5, VI (i : Int))])
           (fun (i : Nat) w => (i ≤ t.cs.len ∧ ∀ j, j < i → t.cs.l[j]? = u.cs.l[j]?) ∧ Hp w0 w [] ([.blk b1 ([V64 t.serial, .string ⟨(t.tenant).toArray⟩, V8 t.rights, VI t.from_, VI t.until_, t.cs.v] ++ (t.tag).map V8) 76, .blk b2 ([V64 u.serial, .string ⟨(u.tenant).toArray⟩, V8 u.rights, VI u.from_, VI u.until_, u.cs.v] ++ (u.tag).map V8) 76]))
           (fun (i : Nat) => t.cs.len - i) 0 ⟨rfl, rfl, rfl, trivial⟩ ⟨⟨Nat.zero_le _, fun j hj => absurd hj (by omega)⟩, H⟩ ?_
         clear H
         rintro i τ w ⟨⟨hi, hall⟩, H⟩
         repeat refine c_seq ?_
         refine c_region ?_
         refine l_op (o_val (r_mv) ?_)
         refine l_op (o_val (r_fa rfl fo76_5) ?_)
         refine l_op (o_val (r_ld (v := t.cs.v) H (i := 0) rfl rfl ct74 rfl) ?_)
         refine l_op (o_val (r_lens el74 rfl) ?_)
         refine l_op (o_val (r_bin (a := (i : Int)) (b := (t.cs.len : Int)) rfl rfl (fun _ => b_lss)) ?_)
         first | refine l_end ?_ | refine l_nil ?_
         by_cases hc10 : (i : Int) < (t.cs.len : Int)
         ·
          repeat refine c_seq ?_
          refine c_yes (by exact congrArg Value.bool (decide_eq_true hc10)) ?_
          refine c_skip ?_
          repeat refine c_seq ?_
          refine c_block ?_
          repeat refine c_seq ?_
          refine c_still mixed (by kernel_rfl) ?_
          replace H := H.drew
          refine s_op (r_fa rfl fo76_5) ?_
          refine s_op (r_ld (v := t.cs.v) H (i := 0) rfl rfl ct74 rfl) ?_
          refine s_op (r_mv) ?_
          have ah13 := ((hc.up H)).addr (by decide) (by first | omega | (dsimp only; omega))
          obtain ⟨ab11, ao12, ah13⟩ := ah13
          refine s_op (r_isN i rfl rfl el74 ah13 (by omega) (by (try simp only [Sl.cut]); omega)) ?_
          have he15 : ∃ c, t.cs.l[i]? = some c := ⟨_, List.getElem?_eq_getElem (by have := ((hc.up H)).ln; (try dsimp only at this ⊢); omega)⟩
          obtain ⟨e14, he15⟩ := he15
          have hez16 := ((hc.up H)).sz e14 (List.mem_of_getElem? he15)
          refine s_op (r_ldRow (s := t.cs) (k := i) (hc.up H) ah13 rfl rt78 (by decide) he15) ?_
          refine s_op (r_fa rfl fo76_5) ?_
          refine s_op (r_ld (v := u.cs.v) H (i := 1) rfl rfl ct74 rfl) ?_
          refine s_op (r_mv) ?_
          have ah19 := ((hcu.up H)).addr (by decide) (by first | omega | (dsimp only; omega))
          obtain ⟨ab17, ao18, ah19⟩ := ah19
          refine s_op (r_isN i rfl rfl el74 ah19 (by omega) (by (try simp only [Sl.cut]); omega)) ?_
          have he21 : ∃ c, u.cs.l[i]? = some c := ⟨_, List.getElem?_eq_getElem (by have := ((hcu.up H)).ln; (try dsimp only at this ⊢); omega)⟩
          obtain ⟨e20, he21⟩ := he21
          have hez22 := ((hcu.up H)).sz e20 (List.mem_of_getElem? he21)
          refine s_op (r_ldRow (s := u.cs) (k := i) (hcu.up H) ah19 rfl rt78 (by decide) he21) ?_
          refine s_op (r_neS egCav rfl rfl (eqCav e14 e20)) ?_
          refine s_nil ?_
          by_cases hc23 : e14 = e20
          ·
           repeat refine c_seq ?_
           refine c_no (by exact congrArg Value.bool (congrArg not (decide_eq_true hc23))) ?_
           refine c_skip ?_
           repeat refine c_seq ?_
           refine c_region ?_
           refine l_op (o_val (r_mv) ?_)
           refine l_op (o_val (r_bin (a := (i : Int)) (b := 1) rfl rfl (fun _ => b_add (by omega) (by omega))) ?_)
           refine l_op (o_val (r_as) ?_)
           first | refine l_end ?_ | refine l_nil ?_
           refine round_end (i + 1) ?_ ?_ ?_
           · exact ⟨rfl, rfl, show VI ((i : Int) + 1) = VI ((i + 1 : Nat) : Int) from congrArg VI (by omega), trivial⟩
           · refine ⟨?_, ?_⟩
             · try dsimp only
               exact ⟨by omega, fun j hj => by
                 by_cases hji : j < i
                 · exact hall j hji
                 · have e : j = i := by omega
                   rw [e, he15, he21]
                   exact congrArg some (by first | assumption | exact Classical.not_not.1 (by assumption))⟩
             · exact H
           · show t.cs.len - (i + 1 : Nat) < t.cs.len - i; omega
          ·
           repeat refine c_seq ?_
           refine c_yes (by exact congrArg Value.bool (congrArg not (decide_eq_false hc23))) ?_
           repeat refine c_seq ?_
           refine c_region ?_
           refine l_op (o_val (r_as) ?_)
           first | refine l_end ?_ | refine l_nil ?_
           refine c_ret ?_
           try dsimp only [Exit.then, Exit.inBlock]
           refine e_ret1 (v := .bool false) Try.results74 rfl ?_
           refine ⟨_, rfl, ?_⟩
           refine ⟨?_, H.sub (List.nil_sublist _)⟩
           have e : sameT t u = false := decide_eq_false fun e => by
             obtain ⟨e0, e1, e2, e3, e4, e5, e6, e7⟩ := tv_eqs e
             first | contradiction | omega | (rw [e6, he21] at he15; have e9 := Option.some.inj he15; exact absurd e9.symm (by assumption))
           rw [e]
         ·
          repeat refine c_seq ?_
          refine c_no (by exact congrArg Value.bool (decide_eq_false hc10)) ?_
          refine c_exit ?_
          repeat refine c_seq ?_
          refine c_region ?_
          refine l_op (o_val (r_as) ?_)
          first | refine l_end ?_ | refine l_nil ?_
          refine c_ret ?_
          try dsimp only [Exit.then, Exit.inBlock]
          refine e_ret1 (v := .bool true) Try.results74 rfl ?_
          refine ⟨_, rfl, ?_⟩
          refine ⟨?_, H.sub (List.nil_sublist _)⟩
          have e : sameT t u = true := decide_eq_true (tv_ext (by omega) (by first | assumption | exact Classical.not_not.1 (by assumption)) (by omega) (by omega) (by omega) (by first | assumption | exact Classical.not_not.1 (by assumption)) (by
            apply List.ext_getElem?
            intro j
            by_cases hj : j < i
            · exact hall j hj
            · rw [List.getElem?_eq_none (by omega), List.getElem?_eq_none (by omega)]))
          rw [e]
       ·
        refine l_no rfl rfl (by exact congrArg Value.bool (congrArg not (decide_eq_false hc8))) rfl ?_
        refine l_no rfl rfl (by exact congrArg Value.bool (congrArg not (decide_eq_false hc8))) rfl ?_
        refine l_no rfl rfl (by exact congrArg Value.bool (congrArg not (decide_eq_false hc8))) rfl ?_
        refine l_no rfl rfl (by exact congrArg Value.bool (congrArg not (decide_eq_false hc8))) rfl ?_
        refine l_no rfl rfl (by exact congrArg Value.bool (congrArg not (decide_eq_false hc8))) rfl ?_
        refine l_no rfl rfl (by exact congrArg Value.bool (congrArg not (decide_eq_false hc8))) rfl ?_
        refine l_no rfl rfl (by exact congrArg Value.bool (congrArg not (decide_eq_false hc8))) rfl ?_
        refine l_op (o_val (r_pick (b := true) (congrArg Value.bool (congrArg not (decide_eq_false hc8)))) ?_)
        first | refine l_end ?_ | refine l_nil ?_
        repeat refine c_seq ?_
        refine c_yes rfl ?_
        repeat refine c_seq ?_
        refine c_region ?_
        refine l_op (o_val (r_as) ?_)
        first | refine l_end ?_ | refine l_nil ?_
        refine c_ret ?_
        try dsimp only [Exit.then, Exit.inBlock]
        refine e_ret1 (v := .bool false) Try.results74 rfl ?_
        refine ⟨_, rfl, ?_⟩
        refine ⟨?_, H.sub (List.nil_sublist _)⟩
        have e : sameT t u = false := decide_eq_false fun e => by
          obtain ⟨e0, e1, e2, e3, e4, e5, e6, e7⟩ := tv_eqs e
          first | contradiction | omega
        rw [e]
   ·
    refine l_no rfl rfl (by exact congrArg Value.bool (congrArg not (decide_eq_false hc4))) rfl ?_
    refine l_no rfl rfl (by exact congrArg Value.bool (congrArg not (decide_eq_false hc4))) rfl ?_
    refine l_no rfl rfl (by exact congrArg Value.bool (congrArg not (decide_eq_false hc4))) rfl ?_
    refine l_no rfl rfl (by exact congrArg Value.bool (congrArg not (decide_eq_false hc4))) rfl ?_
    refine l_no rfl rfl (by exact congrArg Value.bool (congrArg not (decide_eq_false hc4))) rfl ?_
    refine l_op (o_val (r_pick (b := true) (congrArg Value.bool (congrArg not (decide_eq_false hc4)))) ?_)
    refine l_op (o_val (r_mv) ?_)
    refine l_no rfl rfl rfl rfl ?_
    refine l_no rfl rfl rfl rfl ?_
    refine l_no rfl rfl rfl rfl ?_
    refine l_no rfl rfl rfl rfl ?_
    refine l_no rfl rfl rfl rfl ?_
    refine l_op (o_val (r_pick rfl) ?_)
    refine l_op (o_val (r_mv) ?_)
    refine l_no rfl rfl rfl rfl ?_
    refine l_no rfl rfl rfl rfl ?_
    refine l_no rfl rfl rfl rfl ?_
    refine l_no rfl rfl rfl rfl ?_
    refine l_no rfl rfl rfl rfl ?_
    refine l_op (o_val (r_pick rfl) ?_)
    refine l_op (o_val (r_mv) ?_)
    refine l_no rfl rfl rfl rfl ?_
    refine l_no rfl rfl rfl rfl ?_
    refine l_no rfl rfl rfl rfl ?_
    refine l_no rfl rfl rfl rfl ?_
    refine l_no rfl rfl rfl rfl ?_
    refine l_op (o_val (r_pick rfl) ?_)
    refine l_op (o_val (r_mv) ?_)
    refine l_no rfl rfl rfl rfl ?_
    refine l_no rfl rfl rfl rfl ?_
    refine l_no rfl rfl rfl rfl ?_
    refine l_no rfl rfl rfl rfl ?_
    refine l_no rfl rfl rfl rfl ?_
    refine l_no rfl rfl rfl rfl ?_
    refine l_no rfl rfl rfl rfl ?_
    refine l_op (o_val (r_pick rfl) ?_)
    first | refine l_end ?_ | refine l_nil ?_
    repeat refine c_seq ?_
    refine c_yes rfl ?_
    repeat refine c_seq ?_
    refine c_region ?_
    refine l_op (o_val (r_as) ?_)
    first | refine l_end ?_ | refine l_nil ?_
    refine c_ret ?_
    try dsimp only [Exit.then, Exit.inBlock]
    refine e_ret1 (v := .bool false) Try.results74 rfl ?_
    refine ⟨_, rfl, ?_⟩
    refine ⟨?_, H.sub (List.nil_sublist _)⟩
    have e : sameT t u = false := decide_eq_false fun e => by
      obtain ⟨e0, e1, e2, e3, e4, e5, e6, e7⟩ := tv_eqs e
      first | contradiction | omega
    rw [e]
end Go.Proofs.Ytjmbbhnpfmblpaa
