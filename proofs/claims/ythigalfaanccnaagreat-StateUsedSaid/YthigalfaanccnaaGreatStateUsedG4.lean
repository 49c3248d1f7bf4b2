/- Lemmas for the statement StateUsed, part 4: rules of operations, walks through functions, plain laws. -/
import Derived.Test.YthigalfaanccnaaGreatStateUsedG3
namespace Go.Proofs.YthigalfaanccnaaGreat
open Go
set_option maxRecDepth 100000
theorem mkeysTen_ret (w0 : World) (b : Nat) :
    Ret Tryz.prog 52 [.map (some b)] w0 fun v w' => ∃ bb, v = .func (.func 93) #[] #[.pointer (some ⟨bb, 0, none⟩)] ∧ Hp w0 w' [] [.blk bb [.map (some b)] 68] := by
  refine ret_mk Tryz.func52 rfl Tryz.ntmps52 (by simp) ?_
  have H := Hp.refl w0 []
  repeat refine c_seq ?_
  refine c_region ?_; refine l_op (o_box (v := .map (some b)) H rfl (fun b1 w H hb1 => ?_)); replace H : Hp _ w _ ([.blk b1 ([.map (some b)]) 68]) := H
  refine l_op (o_val r_as ?_); first | refine l_end ?_ | refine l_nil ?_
  repeat refine c_seq ?_
  refine c_region ?_; refine l_op (o_val (r_mkfn (vs := [.pointer (some ⟨b1, 0, none⟩)]) rfl) ?_); refine l_op (o_val r_as ?_); first | refine l_end ?_ | refine l_nil ?_
  refine c_ret ?_; try dsimp only [Exit.then, Exit.inBlock]
  refine e_ret1 (v := .func (.func 93) #[] #[.pointer (some ⟨b1, 0, none⟩)]) Tryz.results52 rfl ?_
  refine ⟨_, rfl, ?_⟩
  exact ⟨_, rfl, H⟩
theorem appseqT_ret (w0 : World) (bb b : Nat) (hO : Own w0 [.blk bb [.map (some b)] 68, .obj b (mobj kS ([] : List (List UInt8 × Value × Nat)) 0)]) :
    Ret Tryz.prog 105 [.slice none 0 0, .func (.func 93) #[] #[.pointer (some ⟨bb, 0, none⟩)]] w0 fun v w' => v = .slice none 0 0 ∧ Hp w0 w' (keys [.blk bb [.map (some b)] 68, .obj b (mobj kS ([] : List (List UInt8 × Value × Nat)) 0)]) [.blk bb [.map (some b)] 68, .obj b (mobj kS ([] : List (List UInt8 × Value × Nat)) 0)] := by
  refine ret_mkM Tryz.func105 rfl Tryz.ntmps105 (by simp) ?_
  have H : Hp w0 w0 (keys [.blk bb [.map (some b)] 68, .obj b (mobj kS ([] : List (List UInt8 × Value × Nat)) 0)]) [.blk bb [.map (some b)] 68, .obj b (mobj kS ([] : List (List UInt8 × Value × Nat)) 0)] := hO.start
  repeat refine c_seq ?_
  refine c_region ?_; refine l_op (o_box (v := .slice none 0 0) H rfl (fun b1 w H hb1 => ?_)); replace H : Hp _ w _ ([.blk bb ([.map (some b)]) 68, .obj b (mobj kS ([] : List (List UInt8 × Value × Nat)) 0), .blk b1 ([.slice none 0 0]) 109]) := H
  refine l_op (o_val r_as ?_); first | refine l_end ?_ | refine l_nil ?_
  repeat refine c_seq ?_
  refine c_region ?_; refine l_op (o_val r_mv ?_); first | refine l_end ?_ | refine l_nil ?_
  repeat refine c_seq ?_
  refine c_block ?_; refine c_rangeK (FX := [.blk bb ([.map (some b)]) 68, .obj b (mobj kS ([] : List (List UInt8 × Value × Nat)) 0)]) (Got := fun kk aa => (fun _ => none : List UInt8 → Option Tn) kk = some aa) (All := fun vis => vis.Nodup ∧ ∀ j, j ∈ vis ↔ ((fun _ => none : List UInt8 → Option Tn) j).isSome = true) (I := fun (vis : List (List UInt8)) (x : Nat) => match x with | z => z = 0) (x0 := 0) (itC := fun it vis => Ch.obj it (itO b ([] : List (List UInt8 × Value × Nat)) 0 vis)) (kv := kS) Tryz.func93 rfl rfl (fun Lv l w1 H1 hY => (keysItTen MOk.nil (MIs.nil (enc := tnV)) Lv (fun (vis : List (List UInt8)) (x : Nat) => match x with | z => z = 0) 0 rfl H1 (fun it vis x kk aa W hI hf hk _ _ HW => hY it vis x kk aa W hI hf hk HW)).mono (fun _ _ ⟨vis, x, h1, h2, h3, h4⟩ => ⟨vis, x, h1, ⟨h2, h3⟩, h4⟩)) rfl (fun x : Nat => match x with | z => [.blk b1 ([.slice none 0 0]) 109]) H ?_ ?_
  ·
   rintro l T vis x kk aa w hI hgot hk H
   cases hgot
  ·
   rintro D vis x w hI hA H
   obtain ⟨z, hx_⟩ : ∃ y, y = x := ⟨x, rfl⟩
   subst hx_
   replace hI : z = 0 := hI
   replace H : Hp w0 w (keys [.blk bb [.map (some b)] 68, .obj b (mobj kS ([] : List (List UInt8 × Value × Nat)) 0)]) ([.obj D (.deferred (some [])), .blk bb ([.map (some b)]) 68, .obj b (mobj kS ([] : List (List UInt8 × Value × Nat)) 0), .blk b1 ([.slice none 0 0]) 109]) := H
   repeat refine c_seq ?_
   refine c_region ?_; refine l_op (d_val (r_ld H (i := 3) rfl rfl ct109 rfl) ?_); refine l_op (d_val (r_as) ?_); first | refine l_end ?_ | refine l_nil ?_
   refine c_ret ?_; try dsimp only [Exit.then, Exit.inBlock]
   refine m_ret1 (v := .slice none 0 0) Tryz.results105 rfl H (i := 0) rfl ?_
   intro w H
   replace H : Hp w0 w (keys [.blk bb [.map (some b)] 68, .obj b (mobj kS ([] : List (List UInt8 × Value × Nat)) 0)]) ([.blk bb ([.map (some b)]) 68, .obj b (mobj kS ([] : List (List UInt8 × Value × Nat)) 0), .blk b1 ([.slice none 0 0]) 109]) := H
   refine ⟨_, rfl, ?_⟩
   exact ⟨rfl, H.sub (.cons_cons _ (.cons_cons _ (List.nil_sublist _)))⟩
theorem collectT_ret (w0 : World) (bb b : Nat) (hO : Own w0 [.blk bb [.map (some b)] 68, .obj b (mobj kS ([] : List (List UInt8 × Value × Nat)) 0)]) :
    Ret Tryz.prog 91 [.func (.func 93) #[] #[.pointer (some ⟨bb, 0, none⟩)]] w0 fun v w' => v = .slice none 0 0 ∧ Hp w0 w' (keys [.blk bb [.map (some b)] 68, .obj b (mobj kS ([] : List (List UInt8 × Value × Nat)) 0)]) [.blk bb [.map (some b)] 68, .obj b (mobj kS ([] : List (List UInt8 × Value × Nat)) 0)] := by
  refine ret_mk Tryz.func91 rfl Tryz.ntmps91 (by simp) ?_
  have H : Hp w0 w0 (keys [.blk bb [.map (some b)] 68, .obj b (mobj kS ([] : List (List UInt8 × Value × Nat)) 0)]) [.blk bb [.map (some b)] 68, .obj b (mobj kS ([] : List (List UInt8 × Value × Nat)) 0)] := hO.start
  repeat refine c_seq ?_
  refine c_region ?_; refine l_op (o_val r_as ?_); first | refine l_end ?_ | refine l_nil ?_
  repeat refine c_seq ?_
  refine c_region ?_; refine l_op (o_val r_mv ?_); refine l_op (o_callR Tryz.func105 rfl rfl rfl (appseqT_ret _ bb b (H.ownP (LL := [.blk bb ([.map (some b)]) 68, .obj b (mobj kS ([] : List (List UInt8 × Value × Nat)) 0)]) (L1 := [.blk bb ([.map (some b)]) 68, .obj b (mobj kS ([] : List (List UInt8 × Value × Nat)) 0)]) (Lr := []) (.refl _) rfl)) ?_); rintro _ w ⟨rfl, Hc⟩
  replace H := H.callP (L1 := [.blk bb ([.map (some b)]) 68, .obj b (mobj kS ([] : List (List UInt8 × Value × Nat)) 0)]) (Lr := []) (LL := [.blk bb ([.map (some b)]) 68, .obj b (mobj kS ([] : List (List UInt8 × Value × Nat)) 0)]) (.refl _) rfl Hc (.refl _)
  clear Hc
  replace H : Hp _ w _ ([.blk bb ([.map (some b)]) 68, .obj b (mobj kS ([] : List (List UInt8 × Value × Nat)) 0)]) := H
  refine l_op (o_val r_as ?_); first | refine l_end ?_ | refine l_nil ?_
  refine c_ret ?_; try dsimp only [Exit.then, Exit.inBlock]
  refine e_ret1 (v := .slice none 0 0) Tryz.results91 rfl ?_
  refine ⟨_, rfl, ?_⟩
  exact ⟨rfl, H⟩
theorem sortedT_ret (w0 : World) (bb b : Nat) (hO : Own w0 [.blk bb [.map (some b)] 68, .obj b (mobj kS ([] : List (List UInt8 × Value × Nat)) 0)]) :
    Ret Tryz.prog 51 [.func (.func 93) #[] #[.pointer (some ⟨bb, 0, none⟩)]] w0 fun v w' => v = .slice none 0 0 ∧ Hp w0 w' (keys [.blk bb [.map (some b)] 68, .obj b (mobj kS ([] : List (List UInt8 × Value × Nat)) 0)]) [.blk bb [.map (some b)] 68, .obj b (mobj kS ([] : List (List UInt8 × Value × Nat)) 0)] := by
  refine ret_mk Tryz.func51 rfl Tryz.ntmps51 (by simp) ?_
  have H : Hp w0 w0 (keys [.blk bb [.map (some b)] 68, .obj b (mobj kS ([] : List (List UInt8 × Value × Nat)) 0)]) [.blk bb [.map (some b)] 68, .obj b (mobj kS ([] : List (List UInt8 × Value × Nat)) 0)] := hO.start
  repeat refine c_seq ?_
  refine c_region ?_; refine l_op (o_val r_as ?_); first | refine l_end ?_ | refine l_nil ?_
  repeat refine c_seq ?_
  refine c_region ?_; refine l_op (o_val r_mv ?_); refine l_op (o_callR Tryz.func91 rfl rfl rfl (collectT_ret _ bb b (H.ownP (LL := [.blk bb ([.map (some b)]) 68, .obj b (mobj kS ([] : List (List UInt8 × Value × Nat)) 0)]) (L1 := [.blk bb ([.map (some b)]) 68, .obj b (mobj kS ([] : List (List UInt8 × Value × Nat)) 0)]) (Lr := []) (.refl _) rfl)) ?_); rintro _ w ⟨rfl, Hc⟩
  replace H := H.callP (L1 := [.blk bb ([.map (some b)]) 68, .obj b (mobj kS ([] : List (List UInt8 × Value × Nat)) 0)]) (Lr := []) (LL := [.blk bb ([.map (some b)]) 68, .obj b (mobj kS ([] : List (List UInt8 × Value × Nat)) 0)]) (.refl _) rfl Hc (.refl _)
  clear Hc
  replace H : Hp _ w _ ([.blk bb ([.map (some b)]) 68, .obj b (mobj kS ([] : List (List UInt8 × Value × Nat)) 0)]) := H
  refine l_op (o_val r_as ?_); first | refine l_end ?_ | refine l_nil ?_
  repeat refine c_seq ?_
  refine c_region ?_; refine l_op (o_val r_mv ?_); refine l_op (o_callR Tryz.func92 rfl rfl rfl (sort_92 _ none 0) ?_); rintro _ w ⟨rfl, Hc⟩
  replace H : Hp _ w _ ([_, _]) := H.call Hc
  clear Hc
  first | refine l_end ?_ | refine l_nil ?_
  repeat refine c_seq ?_
  refine c_region ?_; refine l_op (o_val r_mv ?_); refine l_op (o_val r_as ?_); first | refine l_end ?_ | refine l_nil ?_
  refine c_ret ?_; try dsimp only [Exit.then, Exit.inBlock]
  refine e_ret1 (v := .slice none 0 0) Tryz.results51 rfl ?_
  refine ⟨_, rfl, ?_⟩
  exact ⟨rfl, H⟩
theorem bstate_ret (w0 : World) (bb tb : Nat) (r : Id32) (d : Int) (hO : Own w0 [.blk bb (bdE (⟨⟨r, d, 0, ⟨none, 0, 0, []⟩, ⟨none, 0, 0, []⟩, ⟨none, 0, 0, []⟩, zId⟩, 1, some tb⟩ : Bd)) 70, .obj tb (mobj kS ([] : List (List UInt8 × Value × Nat)) 0)]) :
    Ret Tryz.prog 22 [.pointer (some ⟨bb, 0, none⟩)] w0 fun v w' => v = .agg (staE (⟨r, d, 0, ⟨none, 0, 0, []⟩, ⟨none, 0, 0, []⟩, ⟨none, 0, 0, []⟩, zId⟩ : Sta)).toArray ∧ Hp w0 w' (keys [.blk bb (bdE (⟨⟨r, d, 0, ⟨none, 0, 0, []⟩, ⟨none, 0, 0, []⟩, ⟨none, 0, 0, []⟩, zId⟩, 1, some tb⟩ : Bd)) 70, .obj tb (mobj kS ([] : List (List UInt8 × Value × Nat)) 0)]) [.blk bb (bdE (⟨⟨r, d, 0, ⟨none, 0, 0, []⟩, ⟨none, 0, 0, []⟩, ⟨none, 0, 0, []⟩, zId⟩, 1, some tb⟩ : Bd)) 70, .obj tb (mobj kS ([] : List (List UInt8 × Value × Nat)) 0)] := by
  refine ret_mk Tryz.func22 rfl Tryz.ntmps22 (by simp) ?_
  have H : Hp w0 w0 (keys [.blk bb (bdE (⟨⟨r, d, 0, ⟨none, 0, 0, []⟩, ⟨none, 0, 0, []⟩, ⟨none, 0, 0, []⟩, zId⟩, 1, some tb⟩ : Bd)) 70, .obj tb (mobj kS ([] : List (List UInt8 × Value × Nat)) 0)]) [.blk bb (bdE (⟨⟨r, d, 0, ⟨none, 0, 0, []⟩, ⟨none, 0, 0, []⟩, ⟨none, 0, 0, []⟩, zId⟩, 1, some tb⟩ : Bd)) 70, .obj tb (mobj kS ([] : List (List UInt8 × Value × Nat)) 0)] := hO.start
  repeat refine c_seq ?_
  refine c_region ?_; refine l_op (o_alloc H zc41 (fun b1 w H hb1 => ?_)); replace H : Hp _ w _ ([.blk bb (bdE (⟨(⟨r, d, (0 : UInt64), ⟨none, 0, 0, []⟩, ⟨none, 0, 0, []⟩, ⟨none, 0, 0, []⟩, zId⟩ : Sta), 1, (some tb)⟩ : Bd)) 70, .obj tb (mobj kS ([] : List (List UInt8 × Value × Nat)) 0), .blk b1 (staE (⟨(⟨List.replicate 32 (0 : UInt8), (show (List.replicate 32 (0 : UInt8)).length = 32 from (List.length_replicate ..))⟩ : Id32), 0, (0 : UInt64), ⟨none, 0, 0, []⟩, ⟨none, 0, 0, []⟩, ⟨none, 0, 0, []⟩, (⟨List.replicate 32 (0 : UInt8), (show (List.replicate 32 (0 : UInt8)).length = 32 from (List.length_replicate ..))⟩ : Id32)⟩ : Sta)) 41]) := H
  first | refine l_end ?_ | refine l_nil ?_
  repeat refine c_seq ?_
  refine c_region ?_; refine l_op (o_val r_mv ?_); refine l_op (o_val (r_nilc rfl) ?_); refine l_op (o_val (r_fa rfl fo70_0) ?_); refine l_op (o_val (r_lk H (i := 0) rfl rfl rt41 (bdE_c0 _)) ?_); refine l_op (o_alloc H zc41 (fun b2 w H hb2 => ?_)); replace H : Hp _ w _ ([_, _, _, .blk b2 (staE (⟨(⟨List.replicate 32 (0 : UInt8), (show (List.replicate 32 (0 : UInt8)).length = 32 from (List.length_replicate ..))⟩ : Id32), 0, (0 : UInt64), ⟨none, 0, 0, []⟩, ⟨none, 0, 0, []⟩, ⟨none, 0, 0, []⟩, (⟨List.replicate 32 (0 : UInt8), (show (List.replicate 32 (0 : UInt8)).length = 32 from (List.length_replicate ..))⟩ : Id32)⟩ : Sta)) 41]) := H
  refine l_op (o_stW (C' := staE (⟨r, d, (0 : UInt64), ⟨none, 0, 0, []⟩, ⟨none, 0, 0, []⟩, ⟨none, 0, 0, []⟩, zId⟩ : Sta)) H (i := 3) rfl rfl rfl cs41 (staE_all _) (staE_len _) (staE_len _) (fun w H => ?_)); replace H : Hp _ w _ ([_, _, _, .blk b2 (staE (⟨r, d, (0 : UInt64), ⟨none, 0, 0, []⟩, ⟨none, 0, 0, []⟩, ⟨none, 0, 0, []⟩, zId⟩ : Sta)) 41]) := H
  first | refine l_end ?_ | refine l_nil ?_
  repeat refine c_seq ?_
  refine c_region ?_; refine l_op (o_val r_mv ?_); refine l_op (o_val (r_nilc rfl) ?_); refine l_op (o_val (r_fa rfl fo70_2) ?_); refine l_op (o_val (r_l1 (v := .map (some tb)) H (i := 0) rfl rfl ct68 (bdE_c2 _)) ?_); refine l_op (o_callR Tryz.func52 rfl rfl rfl (mkeysTen_ret _ tb) ?_); rintro _ w ⟨bb3, rfl, Hc⟩
  replace H : Hp _ w _ ([_, _, _, _, .blk bb3 ([.map (some tb)]) 68]) := H.call Hc
  clear Hc
  refine l_op (o_callR Tryz.func51 rfl rfl rfl (sortedT_ret _ bb3 tb (H.ownP (LL := [.blk bb3 ([.map (some tb)]) 68, .obj tb (mobj kS ([] : List (List UInt8 × Value × Nat)) 0), .blk bb (bdE (⟨(⟨r, d, (0 : UInt64), ⟨none, 0, 0, []⟩, ⟨none, 0, 0, []⟩, ⟨none, 0, 0, []⟩, zId⟩ : Sta), 1, (some tb)⟩ : Bd)) 70, .blk b1 (staE (⟨(⟨List.replicate 32 (0 : UInt8), (show (List.replicate 32 (0 : UInt8)).length = 32 from (List.length_replicate ..))⟩ : Id32), 0, (0 : UInt64), ⟨none, 0, 0, []⟩, ⟨none, 0, 0, []⟩, ⟨none, 0, 0, []⟩, (⟨List.replicate 32 (0 : UInt8), (show (List.replicate 32 (0 : UInt8)).length = 32 from (List.length_replicate ..))⟩ : Id32)⟩ : Sta)) 41, .blk b2 (staE (⟨r, d, (0 : UInt64), ⟨none, 0, 0, []⟩, ⟨none, 0, 0, []⟩, ⟨none, 0, 0, []⟩, zId⟩ : Sta)) 41]) (L1 := [.blk bb3 ([.map (some tb)]) 68, .obj tb (mobj kS ([] : List (List UInt8 × Value × Nat)) 0)]) (Lr := [.blk bb (bdE (⟨(⟨r, d, (0 : UInt64), ⟨none, 0, 0, []⟩, ⟨none, 0, 0, []⟩, ⟨none, 0, 0, []⟩, zId⟩ : Sta), 1, (some tb)⟩ : Bd)) 70, .blk b1 (staE (⟨(⟨List.replicate 32 (0 : UInt8), (show (List.replicate 32 (0 : UInt8)).length = 32 from (List.length_replicate ..))⟩ : Id32), 0, (0 : UInt64), ⟨none, 0, 0, []⟩, ⟨none, 0, 0, []⟩, ⟨none, 0, 0, []⟩, (⟨List.replicate 32 (0 : UInt8), (show (List.replicate 32 (0 : UInt8)).length = 32 from (List.length_replicate ..))⟩ : Id32)⟩ : Sta)) 41, .blk b2 (staE (⟨r, d, (0 : UInt64), ⟨none, 0, 0, []⟩, ⟨none, 0, 0, []⟩, ⟨none, 0, 0, []⟩, zId⟩ : Sta)) 41]) ((perm_front (j := 4) rfl).trans (.cons _ ((perm_front (j := 1) rfl).trans (.cons _ (.refl _))))) rfl)) ?_); rintro _ w ⟨rfl, Hc⟩
  replace H := H.callP (L1 := [.blk bb3 ([.map (some tb)]) 68, .obj tb (mobj kS ([] : List (List UInt8 × Value × Nat)) 0)]) (Lr := [.blk bb (bdE (⟨(⟨r, d, (0 : UInt64), ⟨none, 0, 0, []⟩, ⟨none, 0, 0, []⟩, ⟨none, 0, 0, []⟩, zId⟩ : Sta), 1, (some tb)⟩ : Bd)) 70, .blk b1 (staE (⟨(⟨List.replicate 32 (0 : UInt8), (show (List.replicate 32 (0 : UInt8)).length = 32 from (List.length_replicate ..))⟩ : Id32), 0, (0 : UInt64), ⟨none, 0, 0, []⟩, ⟨none, 0, 0, []⟩, ⟨none, 0, 0, []⟩, (⟨List.replicate 32 (0 : UInt8), (show (List.replicate 32 (0 : UInt8)).length = 32 from (List.length_replicate ..))⟩ : Id32)⟩ : Sta)) 41, .blk b2 (staE (⟨r, d, (0 : UInt64), ⟨none, 0, 0, []⟩, ⟨none, 0, 0, []⟩, ⟨none, 0, 0, []⟩, zId⟩ : Sta)) 41]) (LL := [.blk bb3 ([.map (some tb)]) 68, .obj tb (mobj kS ([] : List (List UInt8 × Value × Nat)) 0), .blk bb (bdE (⟨(⟨r, d, (0 : UInt64), ⟨none, 0, 0, []⟩, ⟨none, 0, 0, []⟩, ⟨none, 0, 0, []⟩, zId⟩ : Sta), 1, (some tb)⟩ : Bd)) 70, .blk b1 (staE (⟨(⟨List.replicate 32 (0 : UInt8), (show (List.replicate 32 (0 : UInt8)).length = 32 from (List.length_replicate ..))⟩ : Id32), 0, (0 : UInt64), ⟨none, 0, 0, []⟩, ⟨none, 0, 0, []⟩, ⟨none, 0, 0, []⟩, (⟨List.replicate 32 (0 : UInt8), (show (List.replicate 32 (0 : UInt8)).length = 32 from (List.length_replicate ..))⟩ : Id32)⟩ : Sta)) 41, .blk b2 (staE (⟨r, d, (0 : UInt64), ⟨none, 0, 0, []⟩, ⟨none, 0, 0, []⟩, ⟨none, 0, 0, []⟩, zId⟩ : Sta)) 41]) ((perm_front (j := 4) rfl).trans (.cons _ ((perm_front (j := 1) rfl).trans (.cons _ (.refl _))))) rfl Hc ((perm_front (j := 0) rfl).trans (.cons _ ((perm_front (j := 3) rfl).trans (.cons _ (.refl _)))))
  clear Hc
  replace H : Hp _ w _ [_, _, _, _, _] := H
  refine l_op (o_val (r_lens el109 rfl) ?_); refine l_op (o_val r_mv ?_); first | refine l_end ?_ | refine l_nil ?_
  repeat refine c_seq ?_
  refine c_block ?_; repeat refine c_seq ?_
  refine c_loop (fun (i4 : Nat) => [(0, .pointer (some ⟨bb, 0, none⟩)), (2, .pointer (some ⟨b1, 0, none⟩)), (3, .pointer (some ⟨b2, 0, none⟩)), (16, .slice none 0 0), (17, VI 0), (18, VI (i4 : Int))])
    (fun (i4 : Nat) w => (i4 = 0) ∧ Hp w0 w (keys [.blk bb (bdE (⟨⟨r, d, 0, ⟨none, 0, 0, []⟩, ⟨none, 0, 0, []⟩, ⟨none, 0, 0, []⟩, zId⟩, 1, some tb⟩ : Bd)) 70, .obj tb (mobj kS ([] : List (List UInt8 × Value × Nat)) 0)]) ([.blk bb (bdE (⟨(⟨r, d, (0 : UInt64), ⟨none, 0, 0, []⟩, ⟨none, 0, 0, []⟩, ⟨none, 0, 0, []⟩, zId⟩ : Sta), 1, (some tb)⟩ : Bd)) 70, .obj tb (mobj kS ([] : List (List UInt8 × Value × Nat)) 0), .blk b1 (staE (⟨(⟨List.replicate 32 (0 : UInt8), (show (List.replicate 32 (0 : UInt8)).length = 32 from (List.length_replicate ..))⟩ : Id32), 0, (0 : UInt64), ⟨none, 0, 0, []⟩, ⟨none, 0, 0, []⟩, ⟨none, 0, 0, []⟩, (⟨List.replicate 32 (0 : UInt8), (show (List.replicate 32 (0 : UInt8)).length = 32 from (List.length_replicate ..))⟩ : Id32)⟩ : Sta)) 41, .blk b2 (staE (⟨r, d, (0 : UInt64), ⟨none, 0, 0, []⟩, ⟨none, 0, 0, []⟩, ⟨none, 0, 0, []⟩, zId⟩ : Sta)) 41, .blk bb3 ([.map (some tb)]) 68]))
    (fun (i4 : Nat) => 0) 0 ⟨rfl, rfl, rfl, rfl, rfl, rfl, trivial⟩ ⟨rfl, H⟩ ?_
  clear H
  rintro i4 τ w ⟨hi4, H⟩
  repeat refine c_seq ?_
  refine c_region ?_; refine l_op (o_val (r_bin (a := (i4 : Int)) (b := 0) rfl rfl (fun _ => b_lssB false (decide_eq_false (by omega)))) ?_); first | refine l_end ?_ | refine l_nil ?_
  repeat refine c_seq ?_
  refine c_no rfl ?_; refine c_exit ?_; repeat refine c_seq ?_
  refine c_region ?_; refine l_op (o_val (r_fa rfl fo41_4) ?_); refine l_op (o_val (r_l1 (v := .slice none 0 0) H (i := 3) rfl rfl ct38 (staE_c4 _)) ?_); refine l_op (o_callR Tryz.func57 rfl rfl rfl (sort_57 _ none 0) ?_); rintro _ w ⟨rfl, Hc⟩
  replace H : Hp _ w _ ([_, _, _, _, _]) := H.call Hc
  clear Hc
  first | refine l_end ?_ | refine l_nil ?_
  repeat refine c_seq ?_
  refine c_region ?_; refine l_op (o_val (r_fa rfl fo41_5) ?_); refine l_op (o_val (r_l1 (v := .slice none 0 0) H (i := 3) rfl rfl ct39 (staE_c5 _)) ?_); refine l_op (o_callR Tryz.func58 rfl rfl rfl (sort_58 _ none 0 (.func (.func 59) #[] #[])) ?_); rintro _ w ⟨rfl, Hc⟩
  replace H : Hp _ w _ ([_, _, _, _, _]) := H.call Hc
  clear Hc
  first | refine l_end ?_ | refine l_nil ?_
  repeat refine c_seq ?_
  refine c_region ?_; refine l_op (o_val (r_ldA (C := staE (⟨r, d, (0 : UInt64), ⟨none, 0, 0, []⟩, ⟨none, 0, 0, []⟩, ⟨none, 0, 0, []⟩, zId⟩ : Sta)) H (i := 3) rfl rfl rt41 (staE_len _)) ?_); refine l_op (o_stW (C' := staE (⟨r, d, (0 : UInt64), ⟨none, 0, 0, []⟩, ⟨none, 0, 0, []⟩, ⟨none, 0, 0, []⟩, zId⟩ : Sta)) H (i := 2) rfl rfl rfl cs41 (staE_all _) (staE_len _) (staE_len _) (fun w H => ?_)); replace H : Hp _ w _ ([_, _, .blk b1 (staE (⟨r, d, (0 : UInt64), ⟨none, 0, 0, []⟩, ⟨none, 0, 0, []⟩, ⟨none, 0, 0, []⟩, zId⟩ : Sta)) 41, _, _]) := H
  first | refine l_end ?_ | refine l_nil ?_
  refine c_ret ?_; try dsimp only [Exit.then, Exit.inBlock]
  refine e_retc Tryz.results22 H (i := 2) rfl rfl rt41 (staE_len _).symm ?_
  refine ⟨_, rfl, ?_⟩
  exact ⟨rfl, H.sub (.cons_cons _ (.cons_cons _ (List.nil_sublist _)))⟩
end Go.Proofs.YthigalfaanccnaaGreat
namespace Go.Proofs.YthigalfaanccnaaGreat
open Go Go.MapKept
set_option maxRecDepth 100000
def kA (x : Id32) : Value := .agg (x.1.map V8).toArray
theorem chkA_u8s (e : Bool) (l : List UInt8) (hl : l.length = 32) (w : World) (n : Nat) : (Instr.checkKey e (n + 2) 23 (.agg (l.map V8).toArray)).run Tryz.prog w = .ok () w := by
  obtain ⟨i, hi⟩ : ∃ i, Tryz.prog.info? 5 = some i := info_of_underlying (by kernel_rfl : Tryz.prog.underlying 5 = some (.int .u8))
  have hs : Tryz.prog.cellsOf 5 = 1 := by kernel_rfl
  rw [show n + 2 = (n + 1) + 1 from rfl, Instr.checkKey]
  simp only [Sem.run_bind, run_underlying (by kernel_rfl : Tryz.prog.underlying 23 = some (.array 32 5)), Result.andThen_ok]
  simp only [Std.Legacy.Range.forIn_eq_forIn_range', Std.Legacy.Range.size, Nat.sub_zero, Nat.add_one_sub_one, Nat.div_one]
  have each : ∀ j ∈ List.range' 0 32, j < 32 := by intro j hj; simpa using hj
  generalize List.range' 0 32 = is at each
  induction is with
  | nil => simp
  | cons j is ih =>
    have hj := each j (by simp)
    have p1 : (part 5 (l.map V8).toArray (j * Tryz.prog.cellsOf 5)).run Tryz.prog w = .ok (V8 (l.getD j 0)) w := by
      rw [hs, Nat.mul_one]
      exact part_cell (by kernel_rfl) (by rw [List.getElem?_toArray, Sl.get l j (by omega)])
    have p2 : (Instr.checkKey e (n + 1) 5 (V8 (l.getD j 0))).run Tryz.prog w = .ok () w := run_checkKey (d := .int .u8) (by kernel_rfl) (by simp [IsKey]) e n
    simp only [List.forIn_cons, Sem.run_bind, run_sizeOf w hi, Result.andThen_ok, p1, p2, Sem.run_pure]
    exact ih (fun y hy => each y (by simp [hy]))
theorem eqA (p q : Id32) (w : World) : (Op.equal 23 (kA p) (kA q)).run Tryz.prog w = .ok (decide (p = q)) w := by
  have h := eqI_u8s (P := Tryz.prog) (t := 23) (m := 32) (by kernel_rfl) (e := 5) (by kernel_rfl) (by kernel_rfl) 9998 p.1 q.1 p.2 q.2 (w := w)
  have e : decide (p.1 = q.1) = decide (p = q) := by
    rw [Bool.eq_iff_iff]
    simp only [decide_eq_true_eq]
    exact ⟨fun h => Subtype.ext h, fun h => by rw [h]⟩
  rw [← e]
  exact h
theorem sameA (p : Id32) : Instr.sameBits 10000 (kA p) (kA p) = true := by
  show Instr.sameBits (9999 + 1) (.agg _) (.agg _) = true
  simp only [Instr.sameBits, beq_self_eq_true, Bool.true_and, List.all_eq_true]
  intro x hx
  obtain ⟨i, hi, e⟩ := List.getElem_of_mem hx
  rw [List.getElem_zip] at e
  rw [← e]
  have hm := List.getElem_mem (l := p.1.map V8) (n := i) (by simpa using hi)
  simp only at hm ⊢
  generalize (p.1.map V8)[i]'(by simpa using hi) = v at hm
  obtain ⟨u, _, rfl⟩ := List.mem_map.1 hm; exact sameBits_self (d := .int .u8) (by simp [IsKey]) _
theorem keyA : KeyOf Tryz.prog 23 kA := KeyOf.ask (by kernel_rfl) (fun e p w => chkA_u8s e p.1 p.2 w 9998) eqA sameA
end Go.Proofs.YthigalfaanccnaaGreat
namespace Go.Proofs.YthigalfaanccnaaGreat
open Go
set_option maxRecDepth 100000
def nilS : Sl := ⟨none, 0, 0, []⟩
theorem zv_sl (w : World) : (zeroValue 50).run Tryz.prog w = .ok (Sl.v nilS) w := by
  have h : (Tryz.prog.info? 50).map (·.zero) = some (some (Sl.v nilS)) := by kernel_rfl
  cases hi : Tryz.prog.info? 50 with
  | none => rw [hi] at h; cases h
  | some i =>
    rw [hi] at h
    have hz : i.zero = some (Sl.v nilS) := by simpa using h
    rw [zeroValue]
    simp [typeInfo, hi, hz]
/-- what gathers a state, behind i records. -/
def bdN (r : Id32) (d : Int) (tb : Nat) : Nat → Bd
  | 0 => (⟨⟨zId, 0, 0, ⟨none, 0, 0, []⟩, ⟨none, 0, 0, []⟩, ⟨none, 0, 0, []⟩, zId⟩, 0, some tb⟩ : Bd)
  | _ + 1 => (⟨⟨r, d, 0, ⟨none, 0, 0, []⟩, ⟨none, 0, 0, []⟩, ⟨none, 0, 0, []⟩, zId⟩, 1, some tb⟩ : Bd)
def hadM (x : Rk) : Nat → List (Id32 × Value × Nat)
  | 0 => []
  | _ + 1 => mput x.key (Sl.v x.data) 0 []
def hadC (x : Rk) : Nat → Nat
  | 0 => 0
  | _ + 1 => mclk ([] : List (Id32 × Value × Nat)) x.key 0
theorem bequal9_ret (w0 : World) (s u : Sl) (hs : s.ok w0) (hu : u.ok w0) :
    Ret Tryz.prog 23 [s.v, u.v] w0 fun v w' => v = .bool (decide (s.l = u.l)) ∧ Hp w0 w' [] [] := by
  refine ret_mk Tryz.func23 rfl Tryz.ntmps23 (by simp) ?_
  have H := Hp.refl w0 []
  repeat refine c_seq ?_
  refine c_region ?_; refine l_op (o_val r_as ?_); first | refine l_end ?_ | refine l_nil ?_
  repeat refine c_seq ?_
  refine c_region ?_; refine l_op (o_val r_mv ?_); refine l_op (o_val (r_b2S (s := s) Tryz.underlying50 Tryz.underlying5 Tryz.underlying9 rfl (hs.up H (fun _ => apart_nil _))) ?_); refine l_op (o_val r_mv ?_); refine l_op (o_val (r_b2S (s := u) Tryz.underlying50 Tryz.underlying5 Tryz.underlying9 rfl (hu.up H (fun _ => apart_nil _))) ?_); refine l_op (o_val (r_streq (a := s.l) (b := u.l) rfl rfl) ?_); refine l_op (o_val r_as ?_); first | refine l_end ?_ | refine l_nil ?_
  refine c_ret ?_; try dsimp only [Exit.then, Exit.inBlock]
  refine e_ret1 (v := .bool (decide (s.l = u.l))) Tryz.results23 rfl ?_
  refine ⟨_, rfl, ?_⟩
  exact ⟨rfl, H⟩
section
variable {P : Program} {n : Nat} {σ : Nat → Value} {w w0 : World} {ty : TypeId} {pos : String} {aft : Array Edge} {g : Option (Nat × Bool)} {d : Nat} {t kt et : TypeId} {x y : Operand} {S : List Nat} {L : List Ch}
theorem r_lookT9 {κ α : Type} [DecidableEq κ] {kv : κ → Value} {enc : α → Value} {F : κ → Option α} {M : List (κ × Value × Nat)} {c i b : Nat} {k : κ} {v : α} (z : α) (hF : MIs enc M F) (H : Hp w0 w S L) (hi : L[i]? = some (.obj b (mobj kv M c))) (hu : P.underlying t = some (.map kt et)) (hk : KeyOf P kt kv) (hz : ∀ w, (zeroValue et).run P w = .ok (enc z) w)
    (hx : ev n σ x = .map (some b)) (hy : ev n σ y = kv k) (hf : F k = some v) :
    (execOp (ev n σ) ⟨some d, .lookup t x y true, ty, pos, aft, g⟩).run P w = .ok (.value (.tuple #[enc v, .bool true])) w := by
  have h := r_lookT (P := P) (d := d) (ty := ty) (pos := pos) (aft := aft) (g := g) (k := k) z hF H (i := i) hi hu hk hz hx hy
  rw [hf] at h
  exact h
end
theorem load0_ret (w0 : World) (r : Id32) (d : Int) (hd0 : 0 ≤ d) (hd1 : d ≤ 9223372036854775807) (g : Gl Rk) (hg : g.ok rkE 33 w0) (b : Option Nat) (k : Nat) (hg0 : g.l = [rk0 r d b k]) (hdx : (rk0 r d b k).data.ok w0) :
    Ret Tryz.prog 9 [g.v] w0 fun v w' => v = .tuple #[.agg (staE (⟨r, d, 0, ⟨none, 0, 0, []⟩, ⟨none, 0, 0, []⟩, ⟨none, 0, 0, []⟩, zId⟩ : Sta)).toArray, VI 0] ∧ Hp w0 w' [] [] := by
  refine ret_mk Tryz.func9 rfl Tryz.ntmps9 (by simp) ?_
  have H := Hp.refl w0 []
  have hgn := hg.ln
  rw [hg0] at hgn
  have hg1 : g.len = 1 := hgn.symm
  repeat refine c_seq ?_
  refine c_region ?_; refine l_op (o_alloc H zc41 (fun b1 w H hb1 => ?_)); replace H : Hp _ w _ ([.blk b1 (staE (⟨(⟨List.replicate 32 (0 : UInt8), (show (List.replicate 32 (0 : UInt8)).length = 32 from (List.length_replicate ..))⟩ : Id32), 0, (0 : UInt64), ⟨none, 0, 0, []⟩, ⟨none, 0, 0, []⟩, ⟨none, 0, 0, []⟩, (⟨List.replicate 32 (0 : UInt8), (show (List.replicate 32 (0 : UInt8)).length = 32 from (List.length_replicate ..))⟩ : Id32)⟩ : Sta)) 41]) := H
  refine l_op (o_val r_as ?_); first | refine l_end ?_ | refine l_nil ?_
  repeat refine c_seq ?_
  refine c_region ?_; refine l_op (o_mmake kS H (fun b2 w H hb2 => ?_)); replace H : Hp _ w _ ([_, .obj b2 (mobj kS ([] : List (List UInt8 × Value × Nat)) 0)]) := H
  refine l_op (o_val (r_bldG (Z := bdE (⟨(⟨(⟨List.replicate 32 (0 : UInt8), (show (List.replicate 32 (0 : UInt8)).length = 32 from (List.length_replicate ..))⟩ : Id32), 0, (0 : UInt64), ⟨none, 0, 0, []⟩, ⟨none, 0, 0, []⟩, ⟨none, 0, 0, []⟩, (⟨List.replicate 32 (0 : UInt8), (show (List.replicate 32 (0 : UInt8)).length = 32 from (List.length_replicate ..))⟩ : Id32)⟩ : Sta), 0, none⟩ : Bd)) (E := bdE (⟨(⟨(⟨List.replicate 32 (0 : UInt8), (show (List.replicate 32 (0 : UInt8)).length = 32 from (List.length_replicate ..))⟩ : Id32), 0, (0 : UInt64), ⟨none, 0, 0, []⟩, ⟨none, 0, 0, []⟩, ⟨none, 0, 0, []⟩, (⟨List.replicate 32 (0 : UInt8), (show (List.replicate 32 (0 : UInt8)).length = 32 from (List.length_replicate ..))⟩ : Id32)⟩ : Sta), 0, (some b2)⟩ : Bd)) (pv := [(2, .map (some b2))]) bd70 rfl rfl (.consP rfl (bdE_p2 _ (some b2)) rfl (.nil _))) ?_); refine l_op (o_box (v := .agg (bdE (⟨(⟨(⟨List.replicate 32 (0 : UInt8), (show (List.replicate 32 (0 : UInt8)).length = 32 from (List.length_replicate ..))⟩ : Id32), 0, (0 : UInt64), ⟨none, 0, 0, []⟩, ⟨none, 0, 0, []⟩, ⟨none, 0, 0, []⟩, (⟨List.replicate 32 (0 : UInt8), (show (List.replicate 32 (0 : UInt8)).length = 32 from (List.length_replicate ..))⟩ : Id32)⟩ : Sta), 0, (some b2)⟩ : Bd)).toArray) H rfl (fun b3 w H hb3 => ?_)); replace H : Hp _ w _ ([_, _, .blk b3 (bdE (⟨(⟨(⟨List.replicate 32 (0 : UInt8), (show (List.replicate 32 (0 : UInt8)).length = 32 from (List.length_replicate ..))⟩ : Id32), 0, (0 : UInt64), ⟨none, 0, 0, []⟩, ⟨none, 0, 0, []⟩, ⟨none, 0, 0, []⟩, (⟨List.replicate 32 (0 : UInt8), (show (List.replicate 32 (0 : UInt8)).length = 32 from (List.length_replicate ..))⟩ : Id32)⟩ : Sta), 0, (some b2)⟩ : Bd)) 70]) := H
  refine l_op (o_val r_as ?_); first | refine l_end ?_ | refine l_nil ?_
  repeat refine c_seq ?_
  refine c_region ?_; refine l_op (o_val r_mv ?_); refine l_op (o_val (r_lens el43 rfl) ?_); refine l_op (o_val r_mv ?_); first | refine l_end ?_ | refine l_nil ?_
  repeat refine c_seq ?_
  refine c_block ?_; repeat refine c_seq ?_
  refine c_loop (fun (i : Nat) => [(0, g.v), (2, .pointer (some ⟨b1, 0, none⟩)), (4, .pointer (some ⟨b3, 0, none⟩)), (20, g.v), (21, VI (g.len : Int)), (22, VI (i : Int))])
    (fun (i : Nat) w => (i ≤ 1) ∧ Hp w0 w [] ([.blk b1 (staE (⟨(⟨List.replicate 32 (0 : UInt8), (show (List.replicate 32 (0 : UInt8)).length = 32 from (List.length_replicate ..))⟩ : Id32), 0, (0 : UInt64), ⟨none, 0, 0, []⟩, ⟨none, 0, 0, []⟩, ⟨none, 0, 0, []⟩, (⟨List.replicate 32 (0 : UInt8), (show (List.replicate 32 (0 : UInt8)).length = 32 from (List.length_replicate ..))⟩ : Id32)⟩ : Sta)) 41, .obj b2 (mobj kS ([] : List (List UInt8 × Value × Nat)) 0), .blk b3 (bdE (bdN r d b2 i)) 70]))
    (fun (i : Nat) => 1 - i) 0 ⟨rfl, rfl, rfl, rfl, rfl, rfl, trivial⟩ ⟨by decide, H⟩ ?_
  clear H
  rintro i τ w ⟨hl_i, H⟩
  repeat refine c_seq ?_
  refine c_region ?_; refine l_op (o_val (r_bin (a := (i : Int)) (b := (g.len : Int)) rfl rfl (fun _ => b_lss)) ?_); first | refine l_end ?_ | refine l_nil ?_
  by_cases hc4 : (i : Int) < (g.len : Int)
  ·
   repeat refine c_seq ?_
   refine c_yes (by exact congrArg Value.bool (decide_eq_true hc4)) ?_; refine c_skip ?_; repeat refine c_seq ?_
   refine c_block ?_; have hi0_i : i = 0 := by omega
   rw [hi0_i] at H
   replace H : Hp _ w _ ([_, _, .blk b3 (bdE (⟨(⟨zId, 0, (0 : UInt64), ⟨none, 0, 0, []⟩, ⟨none, 0, 0, []⟩, ⟨none, 0, 0, []⟩, zId⟩ : Sta), 0, (some b2)⟩ : Bd)) 70]) := H
   repeat refine c_seq ?_
   refine c_region ?_; have ah7 := ((hg.up H)).addr (by decide) (by first | omega | (dsimp only; omega))
   obtain ⟨ab5, ao6, ah7⟩ := ah7
   refine l_op (o_val (r_isN i rfl rfl el43 ah7 (by omega) (by (try simp only [Sl.cut]); omega)) ?_); have he9 : ∃ c, g.l[i]? = some c := ⟨_, List.getElem?_eq_getElem (by have := ((hg.up H)).ln; (try dsimp only at this ⊢); omega)⟩
   obtain ⟨e8, he9⟩ := he9
   have hez10 := ((hg.up H)).sz e8 (List.mem_of_getElem? he9)
   have hee_e8 : rk0 r d b k = e8 := by
     have hx := he9
     rw [hg0, hi0_i] at hx; exact Option.some.inj hx
   have hdl_e8 : e8.data.l = recB r d := by rw [← hee_e8]; rfl
   have hdn_e8 : e8.data.len = 89 := by rw [← hee_e8]; rfl
   have hdk_e8 : e8.key = (rk0 r d b k).key := (congrArg Rk.key hee_e8).symm
   have hde_e8 : e8.data.ok w0 := by rw [← hee_e8]; exact hdx
   refine l_op (o_val (r_ldRow (s := g) (k := i) (hg.up H) ah7 rfl rt52 (by decide) he9) ?_); refine l_op (o_alloc H zc52 (fun b11 w H hb11 => ?_)); replace H : Hp _ w _ ([_, _, _, .blk b11 (rkE (⟨(⟨List.replicate 32 (0 : UInt8), (show (List.replicate 32 (0 : UInt8)).length = 32 from (List.length_replicate ..))⟩ : Id32), ⟨none, 0, 0, []⟩⟩ : Rk)) 52]) := H
   refine l_op (o_stW (C' := rkE e8) H (i := 3) rfl rfl rfl cs52 (rkE_all _) (rkE_len _) (rkE_len _) (fun w H => ?_)); replace H : Hp _ w _ ([_, _, _, .blk b11 (rkE e8) 52]) := H
   first | refine l_end ?_ | refine l_nil ?_
   repeat refine c_seq ?_
   refine c_region ?_; refine l_op (o_val r_mv ?_); refine l_op (o_val (r_fa rfl fo52_1) ?_); refine l_op (o_val (r_l1 (v := e8.data.v) H (i := 3) rfl rfl ct50 (rkE_c1 _)) ?_); refine l_op (o_callR Tryz.func21 rfl rfl rfl (take0_ret _ b3 b2 r d hd0 hd1 e8.data (hde_e8.up H (fun _ => apart_nil _)) (apart1 hde_e8 hb3) hdl_e8 hdn_e8 (H.ownP (LL := [.blk b3 (bdE (⟨(⟨zId, 0, (0 : UInt64), ⟨none, 0, 0, []⟩, ⟨none, 0, 0, []⟩, ⟨none, 0, 0, []⟩, zId⟩ : Sta), 0, (some b2)⟩ : Bd)) 70, .blk b1 (staE (⟨(⟨List.replicate 32 (0 : UInt8), (show (List.replicate 32 (0 : UInt8)).length = 32 from (List.length_replicate ..))⟩ : Id32), 0, (0 : UInt64), ⟨none, 0, 0, []⟩, ⟨none, 0, 0, []⟩, ⟨none, 0, 0, []⟩, (⟨List.replicate 32 (0 : UInt8), (show (List.replicate 32 (0 : UInt8)).length = 32 from (List.length_replicate ..))⟩ : Id32)⟩ : Sta)) 41, .obj b2 (mobj kS ([] : List (List UInt8 × Value × Nat)) 0), .blk b11 (rkE e8) 52]) (L1 := [.blk b3 (bdE (⟨(⟨zId, 0, (0 : UInt64), ⟨none, 0, 0, []⟩, ⟨none, 0, 0, []⟩, ⟨none, 0, 0, []⟩, zId⟩ : Sta), 0, (some b2)⟩ : Bd)) 70]) (Lr := [.blk b1 (staE (⟨(⟨List.replicate 32 (0 : UInt8), (show (List.replicate 32 (0 : UInt8)).length = 32 from (List.length_replicate ..))⟩ : Id32), 0, (0 : UInt64), ⟨none, 0, 0, []⟩, ⟨none, 0, 0, []⟩, ⟨none, 0, 0, []⟩, (⟨List.replicate 32 (0 : UInt8), (show (List.replicate 32 (0 : UInt8)).length = 32 from (List.length_replicate ..))⟩ : Id32)⟩ : Sta)) 41, .obj b2 (mobj kS ([] : List (List UInt8 × Value × Nat)) 0), .blk b11 (rkE e8) 52]) ((perm_front (j := 2) rfl).trans (.cons _ (.refl _))) rfl)) ?_); rintro _ w ⟨rfl, Hc⟩
   replace H := H.callP (L1 := [.blk b3 (bdE (⟨(⟨zId, 0, (0 : UInt64), ⟨none, 0, 0, []⟩, ⟨none, 0, 0, []⟩, ⟨none, 0, 0, []⟩, zId⟩ : Sta), 0, (some b2)⟩ : Bd)) 70]) (Lr := [.blk b1 (staE (⟨(⟨List.replicate 32 (0 : UInt8), (show (List.replicate 32 (0 : UInt8)).length = 32 from (List.length_replicate ..))⟩ : Id32), 0, (0 : UInt64), ⟨none, 0, 0, []⟩, ⟨none, 0, 0, []⟩, ⟨none, 0, 0, []⟩, (⟨List.replicate 32 (0 : UInt8), (show (List.replicate 32 (0 : UInt8)).length = 32 from (List.length_replicate ..))⟩ : Id32)⟩ : Sta)) 41, .obj b2 (mobj kS ([] : List (List UInt8 × Value × Nat)) 0), .blk b11 (rkE e8) 52]) (LL := [.blk b3 (bdE (⟨(⟨zId, 0, (0 : UInt64), ⟨none, 0, 0, []⟩, ⟨none, 0, 0, []⟩, ⟨none, 0, 0, []⟩, zId⟩ : Sta), 0, (some b2)⟩ : Bd)) 70, .blk b1 (staE (⟨(⟨List.replicate 32 (0 : UInt8), (show (List.replicate 32 (0 : UInt8)).length = 32 from (List.length_replicate ..))⟩ : Id32), 0, (0 : UInt64), ⟨none, 0, 0, []⟩, ⟨none, 0, 0, []⟩, ⟨none, 0, 0, []⟩, (⟨List.replicate 32 (0 : UInt8), (show (List.replicate 32 (0 : UInt8)).length = 32 from (List.length_replicate ..))⟩ : Id32)⟩ : Sta)) 41, .obj b2 (mobj kS ([] : List (List UInt8 × Value × Nat)) 0), .blk b11 (rkE e8) 52]) ((perm_front (j := 2) rfl).trans (.cons _ (.refl _))) rfl Hc ((perm_front (j := 0) rfl).trans (.cons _ ((perm_front (j := 0) rfl).trans (.cons _ ((perm_front (j := 1) rfl).trans (.cons _ (.refl _)))))))
   clear Hc
   replace H : Hp _ w _ ([_, _, .blk b3 (bdE (⟨(⟨r, d, (0 : UInt64), ⟨none, 0, 0, []⟩, ⟨none, 0, 0, []⟩, ⟨none, 0, 0, []⟩, zId⟩ : Sta), 1, (some b2)⟩ : Bd)) 70, _]) := H
   refine l_op (o_val (r_not rfl) ?_); first | refine l_end ?_ | refine l_nil ?_
   repeat refine c_seq ?_
   refine c_no rfl ?_; refine c_skip ?_; repeat refine c_seq ?_
   refine c_region ?_; refine l_op (o_val (r_bin (a := (i : Int)) (b := 1) rfl rfl (fun _ => b_add (by omega) (by omega))) ?_); refine l_op (o_val r_mv ?_); first | refine l_end ?_ | refine l_nil ?_
   refine round_end (i + 1) ?_ ?_ ?_
   · exact ⟨rfl, rfl, rfl, rfl, rfl, show VI ((i : Int) + 1) = VI ((i + 1 : Nat) : Int) from congrArg VI (by omega), trivial⟩
   · refine ⟨?_, ?_⟩
     · try dsimp only
       exact by omega
     · exact H.sub (.cons_cons _ (.cons_cons _ (.cons_cons _ (List.nil_sublist _))))
   · show 1 - (i + 1 : Nat) < 1 - i; omega
  ·
   repeat refine c_seq ?_
   refine c_no (by exact congrArg Value.bool (decide_eq_false hc4)) ?_; refine c_exit ?_; have hi1_i : i = 1 := by omega
   rw [hi1_i] at H
   replace H : Hp _ w _ ([_, _, .blk b3 (bdE (⟨(⟨r, d, (0 : UInt64), ⟨none, 0, 0, []⟩, ⟨none, 0, 0, []⟩, ⟨none, 0, 0, []⟩, zId⟩ : Sta), 1, (some b2)⟩ : Bd)) 70]) := H
   repeat refine c_seq ?_
   refine c_region ?_; refine l_op (o_val r_mv ?_); refine l_op (o_callR Tryz.func22 rfl rfl rfl (bstate_ret _ b3 b2 r (d) (H.ownP (LL := [.blk b3 (bdE (⟨(⟨r, d, (0 : UInt64), ⟨none, 0, 0, []⟩, ⟨none, 0, 0, []⟩, ⟨none, 0, 0, []⟩, zId⟩ : Sta), 1, (some b2)⟩ : Bd)) 70, .obj b2 (mobj kS ([] : List (List UInt8 × Value × Nat)) 0), .blk b1 (staE (⟨(⟨List.replicate 32 (0 : UInt8), (show (List.replicate 32 (0 : UInt8)).length = 32 from (List.length_replicate ..))⟩ : Id32), 0, (0 : UInt64), ⟨none, 0, 0, []⟩, ⟨none, 0, 0, []⟩, ⟨none, 0, 0, []⟩, (⟨List.replicate 32 (0 : UInt8), (show (List.replicate 32 (0 : UInt8)).length = 32 from (List.length_replicate ..))⟩ : Id32)⟩ : Sta)) 41]) (L1 := [.blk b3 (bdE (⟨(⟨r, d, (0 : UInt64), ⟨none, 0, 0, []⟩, ⟨none, 0, 0, []⟩, ⟨none, 0, 0, []⟩, zId⟩ : Sta), 1, (some b2)⟩ : Bd)) 70, .obj b2 (mobj kS ([] : List (List UInt8 × Value × Nat)) 0)]) (Lr := [.blk b1 (staE (⟨(⟨List.replicate 32 (0 : UInt8), (show (List.replicate 32 (0 : UInt8)).length = 32 from (List.length_replicate ..))⟩ : Id32), 0, (0 : UInt64), ⟨none, 0, 0, []⟩, ⟨none, 0, 0, []⟩, ⟨none, 0, 0, []⟩, (⟨List.replicate 32 (0 : UInt8), (show (List.replicate 32 (0 : UInt8)).length = 32 from (List.length_replicate ..))⟩ : Id32)⟩ : Sta)) 41]) ((perm_front (j := 2) rfl).trans (.cons _ ((perm_front (j := 1) rfl).trans (.cons _ (.refl _))))) rfl)) ?_); rintro _ w ⟨rfl, Hc⟩
   replace H := H.callP (L1 := [.blk b3 (bdE (⟨(⟨r, d, (0 : UInt64), ⟨none, 0, 0, []⟩, ⟨none, 0, 0, []⟩, ⟨none, 0, 0, []⟩, zId⟩ : Sta), 1, (some b2)⟩ : Bd)) 70, .obj b2 (mobj kS ([] : List (List UInt8 × Value × Nat)) 0)]) (Lr := [.blk b1 (staE (⟨(⟨List.replicate 32 (0 : UInt8), (show (List.replicate 32 (0 : UInt8)).length = 32 from (List.length_replicate ..))⟩ : Id32), 0, (0 : UInt64), ⟨none, 0, 0, []⟩, ⟨none, 0, 0, []⟩, ⟨none, 0, 0, []⟩, (⟨List.replicate 32 (0 : UInt8), (show (List.replicate 32 (0 : UInt8)).length = 32 from (List.length_replicate ..))⟩ : Id32)⟩ : Sta)) 41]) (LL := [.blk b3 (bdE (⟨(⟨r, d, (0 : UInt64), ⟨none, 0, 0, []⟩, ⟨none, 0, 0, []⟩, ⟨none, 0, 0, []⟩, zId⟩ : Sta), 1, (some b2)⟩ : Bd)) 70, .obj b2 (mobj kS ([] : List (List UInt8 × Value × Nat)) 0), .blk b1 (staE (⟨(⟨List.replicate 32 (0 : UInt8), (show (List.replicate 32 (0 : UInt8)).length = 32 from (List.length_replicate ..))⟩ : Id32), 0, (0 : UInt64), ⟨none, 0, 0, []⟩, ⟨none, 0, 0, []⟩, ⟨none, 0, 0, []⟩, (⟨List.replicate 32 (0 : UInt8), (show (List.replicate 32 (0 : UInt8)).length = 32 from (List.length_replicate ..))⟩ : Id32)⟩ : Sta)) 41]) ((perm_front (j := 2) rfl).trans (.cons _ ((perm_front (j := 1) rfl).trans (.cons _ (.refl _))))) rfl Hc ((perm_front (j := 0) rfl).trans (.cons _ ((perm_front (j := 1) rfl).trans (.cons _ (.refl _)))))
   clear Hc
   replace H : Hp _ w _ [_, _, _] := H
   refine l_op (o_alloc H zc41 (fun b12 w H hb12 => ?_)); replace H : Hp _ w _ ([_, _, _, .blk b12 (staE (⟨(⟨List.replicate 32 (0 : UInt8), (show (List.replicate 32 (0 : UInt8)).length = 32 from (List.length_replicate ..))⟩ : Id32), 0, (0 : UInt64), ⟨none, 0, 0, []⟩, ⟨none, 0, 0, []⟩, ⟨none, 0, 0, []⟩, (⟨List.replicate 32 (0 : UInt8), (show (List.replicate 32 (0 : UInt8)).length = 32 from (List.length_replicate ..))⟩ : Id32)⟩ : Sta)) 41]) := H
   refine l_op (o_stW (C' := staE (⟨r, d, (0 : UInt64), ⟨none, 0, 0, []⟩, ⟨none, 0, 0, []⟩, ⟨none, 0, 0, []⟩, zId⟩ : Sta)) H (i := 3) rfl rfl rfl cs41 (staE_all _) (staE_len _) (staE_len _) (fun w H => ?_)); replace H : Hp _ w _ ([_, _, _, .blk b12 (staE (⟨r, d, (0 : UInt64), ⟨none, 0, 0, []⟩, ⟨none, 0, 0, []⟩, ⟨none, 0, 0, []⟩, zId⟩ : Sta)) 41]) := H
   first | refine l_end ?_ | refine l_nil ?_
   repeat refine c_seq ?_
   refine c_region ?_; refine l_op (o_val (r_ldA (C := staE (⟨r, d, (0 : UInt64), ⟨none, 0, 0, []⟩, ⟨none, 0, 0, []⟩, ⟨none, 0, 0, []⟩, zId⟩ : Sta)) H (i := 3) rfl rfl rt41 (staE_len _)) ?_); refine l_op (o_callR Tryz.func8 rfl rfl rfl (records0_ret _ r (d) (by omega) (by omega)) ?_); rintro _ w ⟨a13, c14, b15, k16, rfl, Hc⟩
   replace H : Hp _ w _ ([_, _, _, _, .own b15 89 k16 ((recB r (d)).map V8) 5 1, .own a13 1 c14 (([rk0 r (d) b15 k16]).flatMap rkE) 52 33]) := H.call Hc
   clear Hc
   refine l_op (o_val r_mv ?_); refine l_op (o_val (r_ext rfl rfl) ?_); refine l_op (o_val (r_ext rfl rfl) ?_); refine l_op (o_val r_as ?_); refine l_op (o_val r_as ?_); first | refine l_end ?_ | refine l_nil ?_
   repeat refine c_seq ?_
   refine c_region ?_; refine l_op (o_val r_mv ?_); refine l_op (o_val (r_nilc rfl) ?_); refine l_op (o_val (r_fa rfl fo70_1) ?_); refine l_op (o_val (r_l1 (v := VI 1) H (i := 2) rfl rfl ct3 (bdE_c1 _)) ?_); refine l_op (o_val (r_bin (a := 1) (b := 1) rfl rfl (fun _ => b_neqB false (decide_eq_false (by decide)))) ?_); refine l_op (o_val r_mv ?_); refine l_yes rfl rfl rfl (o_val r_mv ?_); refine l_yes rfl rfl rfl (o_val (r_bin (a := 0) (b := 0) rfl rfl (fun _ => b_neqB false (decide_eq_false (by decide)))) ?_); refine l_op (o_val (r_pick rfl) ?_); refine l_op (o_val r_mv ?_); refine l_yes rfl rfl rfl (o_val r_mv ?_); refine l_yes rfl rfl rfl (o_val (r_lens el43 rfl) ?_); refine l_yes rfl rfl rfl (o_val r_mv ?_); refine l_yes rfl rfl rfl (o_val (r_lens el43 rfl) ?_); refine l_yes rfl rfl rfl (o_val (r_bin (a := 1) (b := (g.len : Int)) rfl rfl (fun _ => b_neqB false (decide_eq_false (by omega)))) ?_); refine l_op (o_val (r_pick rfl) ?_); first | refine l_end ?_ | refine l_nil ?_
   repeat refine c_seq ?_
   refine c_no rfl ?_; refine c_skip ?_; repeat refine c_seq ?_
   refine c_region ?_; refine l_op (o_mmake kA H (fun b17 w H hb17 => ?_)); replace H : Hp _ w _ ([_, _, _, _, _, _, .obj b17 (mobj kA ([] : List (Id32 × Value × Nat)) 0)]) := H
   refine l_op (o_val r_as ?_); first | refine l_end ?_ | refine l_nil ?_
   repeat refine c_seq ?_
   refine c_region ?_; refine l_op (o_val r_mv ?_); refine l_op (o_val (r_lens el43 rfl) ?_); refine l_op (o_val r_mv ?_); first | refine l_end ?_ | refine l_nil ?_
   repeat refine c_seq ?_
   refine c_block ?_; repeat refine c_seq ?_
   refine c_loop (fun (j : Nat) => [(2, .pointer (some ⟨b1, 0, none⟩)), (7, .pointer (some ⟨b12, 0, none⟩)), (8, .slice (hd a13) 1 c14), (10, .map (some b17)), (58, g.v), (59, VI (g.len : Int)), (60, VI (j : Int))])
     (fun (j : Nat) w => (j ≤ 1) ∧ Hp w0 w [] ([.blk b1 (staE (⟨(⟨List.replicate 32 (0 : UInt8), (show (List.replicate 32 (0 : UInt8)).length = 32 from (List.length_replicate ..))⟩ : Id32), 0, (0 : UInt64), ⟨none, 0, 0, []⟩, ⟨none, 0, 0, []⟩, ⟨none, 0, 0, []⟩, (⟨List.replicate 32 (0 : UInt8), (show (List.replicate 32 (0 : UInt8)).length = 32 from (List.length_replicate ..))⟩ : Id32)⟩ : Sta)) 41, .obj b2 (mobj kS ([] : List (List UInt8 × Value × Nat)) 0), .blk b3 (bdE (⟨(⟨r, d, (0 : UInt64), ⟨none, 0, 0, []⟩, ⟨none, 0, 0, []⟩, ⟨none, 0, 0, []⟩, zId⟩ : Sta), 1, (some b2)⟩ : Bd)) 70, .blk b12 (staE (⟨r, d, (0 : UInt64), ⟨none, 0, 0, []⟩, ⟨none, 0, 0, []⟩, ⟨none, 0, 0, []⟩, zId⟩ : Sta)) 41, .own b15 89 k16 ((recB r (d)).map V8) 5 1, .own a13 1 c14 (([rk0 r (d) b15 k16]).flatMap rkE) 52 33, .obj b17 (mobj kA (hadM (rk0 r d b k) j) (hadC (rk0 r d b k) j))]))
     (fun (j : Nat) => 1 - j) 0 ⟨rfl, rfl, rfl, rfl, rfl, rfl, rfl, trivial⟩ ⟨by decide, H⟩ ?_
   clear H
   rintro j τ w ⟨hl_j, H⟩
   repeat refine c_seq ?_
   refine c_region ?_; refine l_op (o_val (r_bin (a := (j : Int)) (b := (g.len : Int)) rfl rfl (fun _ => b_lss)) ?_); first | refine l_end ?_ | refine l_nil ?_
   by_cases hc18 : (j : Int) < (g.len : Int)
   ·
    repeat refine c_seq ?_
    refine c_yes (by exact congrArg Value.bool (decide_eq_true hc18)) ?_; refine c_skip ?_; repeat refine c_seq ?_
    refine c_block ?_; have hi0_j : j = 0 := by omega
    rw [hi0_j] at H
    replace H : Hp _ w _ ([_, _, _, _, _, _, .obj b17 (mobj kA ([] : List (Id32 × Value × Nat)) 0)]) := H
    repeat refine c_seq ?_
    refine c_region ?_; have ah21 := ((hg.up H)).addr (by decide) (by first | omega | (dsimp only; omega))
    obtain ⟨ab19, ao20, ah21⟩ := ah21
    refine l_op (o_val (r_isN j rfl rfl el43 ah21 (by omega) (by (try simp only [Sl.cut]); omega)) ?_); have he23 : ∃ c, g.l[j]? = some c := ⟨_, List.getElem?_eq_getElem (by have := ((hg.up H)).ln; (try dsimp only at this ⊢); omega)⟩
    obtain ⟨e22, he23⟩ := he23
    have hez24 := ((hg.up H)).sz e22 (List.mem_of_getElem? he23)
    have hee_e22 : rk0 r d b k = e22 := by
      have hx := he23
      rw [hg0, hi0_j] at hx; exact Option.some.inj hx
    have hdl_e22 : e22.data.l = recB r d := by rw [← hee_e22]; rfl
    have hdn_e22 : e22.data.len = 89 := by rw [← hee_e22]; rfl
    have hdk_e22 : e22.key = (rk0 r d b k).key := (congrArg Rk.key hee_e22).symm
    have hde_e22 : e22.data.ok w0 := by rw [← hee_e22]; exact hdx
    refine l_op (o_val (r_ldRow (s := g) (k := j) (hg.up H) ah21 rfl rt52 (by decide) he23) ?_); refine l_op (o_alloc H zc52 (fun b25 w H hb25 => ?_)); replace H : Hp _ w _ ([_, _, _, _, _, _, _, .blk b25 (rkE (⟨(⟨List.replicate 32 (0 : UInt8), (show (List.replicate 32 (0 : UInt8)).length = 32 from (List.length_replicate ..))⟩ : Id32), ⟨none, 0, 0, []⟩⟩ : Rk)) 52]) := H
    refine l_op (o_stW (C' := rkE e22) H (i := 7) rfl rfl rfl cs52 (rkE_all _) (rkE_len _) (rkE_len _) (fun w H => ?_)); replace H : Hp _ w _ ([_, _, _, _, _, _, _, .blk b25 (rkE e22) 52]) := H
    first | refine l_end ?_ | refine l_nil ?_
    repeat refine c_seq ?_
    refine c_region ?_; refine l_op (o_val r_mv ?_); refine l_op (o_val (r_fa rfl fo52_0) ?_); refine l_op (o_val (r_lk H (i := 7) rfl rfl rt23 (rkE_c0 _)) ?_); refine l_op (o_val (r_fa rfl fo52_1) ?_); refine l_op (o_val (r_l1 (v := e22.data.v) H (i := 7) rfl rfl ct50 (rkE_c1 _)) ?_); refine l_op (o_mput (kv := kA) (k := e22.key) (v := Sl.v e22.data) H (i := 6) rfl Tryz.underlying73 keyA rfl rfl rfl (fun w H => ?_)); replace H : Hp _ w _ ([_, _, _, _, _, _, .obj b17 (mobj kA (mput e22.key (Sl.v e22.data) 0 ([] : List (Id32 × Value × Nat))) (mclk ([] : List (Id32 × Value × Nat)) e22.key 0)), _]) := H
    first | refine l_end ?_ | refine l_nil ?_
    repeat refine c_seq ?_
    refine c_region ?_; refine l_op (o_val (r_bin (a := (j : Int)) (b := 1) rfl rfl (fun _ => b_add (by omega) (by omega))) ?_); refine l_op (o_val r_mv ?_); first | refine l_end ?_ | refine l_nil ?_
    rw [← hee_e22] at H
    refine round_end (j + 1) ?_ ?_ ?_
    · exact ⟨rfl, rfl, rfl, rfl, rfl, rfl, show VI ((j : Int) + 1) = VI ((j + 1 : Nat) : Int) from congrArg VI (by omega), trivial⟩
    · refine ⟨?_, ?_⟩
      · try dsimp only
        exact by omega
      · exact H.sub (.cons_cons _ (.cons_cons _ (.cons_cons _ (.cons_cons _ (.cons_cons _ (.cons_cons _ (.cons_cons _ (List.nil_sublist _))))))))
    · show 1 - (j + 1 : Nat) < 1 - j; omega
   ·
    repeat refine c_seq ?_
    refine c_no (by exact congrArg Value.bool (decide_eq_false hc18)) ?_; refine c_exit ?_; have hi1_j : j = 1 := by omega
    rw [hi1_j] at H
    replace H : Hp _ w _ ([_, _, _, _, _, _, .obj b17 (mobj kA (mput (rk0 r d b k).key (Sl.v (rk0 r d b k).data) 0 ([] : List (Id32 × Value × Nat))) (mclk ([] : List (Id32 × Value × Nat)) (rk0 r d b k).key 0))]) := H
    repeat refine c_seq ?_
    refine c_region ?_; refine l_op (o_val r_mv ?_); refine l_op (o_val (r_lens el43 rfl) ?_); refine l_op (o_val r_mv ?_); first | refine l_end ?_ | refine l_nil ?_
    repeat refine c_seq ?_
    refine c_block ?_; repeat refine c_seq ?_
    refine c_loop (fun (m : Nat) => [(2, .pointer (some ⟨b1, 0, none⟩)), (7, .pointer (some ⟨b12, 0, none⟩)), (10, .map (some b17)), (70, .slice (hd a13) 1 c14), (71, VI 1), (72, VI (m : Int))])
      (fun (m : Nat) w => (m ≤ 1) ∧ Hp w0 w [] ([.blk b1 (staE (⟨(⟨List.replicate 32 (0 : UInt8), (show (List.replicate 32 (0 : UInt8)).length = 32 from (List.length_replicate ..))⟩ : Id32), 0, (0 : UInt64), ⟨none, 0, 0, []⟩, ⟨none, 0, 0, []⟩, ⟨none, 0, 0, []⟩, (⟨List.replicate 32 (0 : UInt8), (show (List.replicate 32 (0 : UInt8)).length = 32 from (List.length_replicate ..))⟩ : Id32)⟩ : Sta)) 41, .obj b2 (mobj kS ([] : List (List UInt8 × Value × Nat)) 0), .blk b3 (bdE (⟨(⟨r, d, (0 : UInt64), ⟨none, 0, 0, []⟩, ⟨none, 0, 0, []⟩, ⟨none, 0, 0, []⟩, zId⟩ : Sta), 1, (some b2)⟩ : Bd)) 70, .blk b12 (staE (⟨r, d, (0 : UInt64), ⟨none, 0, 0, []⟩, ⟨none, 0, 0, []⟩, ⟨none, 0, 0, []⟩, zId⟩ : Sta)) 41, .own b15 89 k16 ((recB r (d)).map V8) 5 1, .own a13 1 c14 (([rk0 r (d) b15 k16]).flatMap rkE) 52 33, .obj b17 (mobj kA (mput (rk0 r d b k).key (Sl.v (rk0 r d b k).data) 0 ([] : List (Id32 × Value × Nat))) (mclk ([] : List (Id32 × Value × Nat)) (rk0 r d b k).key 0))]))
      (fun (m : Nat) => 1 - m) 0 ⟨rfl, rfl, rfl, rfl, rfl, rfl, trivial⟩ ⟨by decide, H⟩ ?_
    clear H
    rintro m τ w ⟨hl_m, H⟩
    repeat refine c_seq ?_
    refine c_region ?_; refine l_op (o_val (r_bin (a := (m : Int)) (b := 1) rfl rfl (fun _ => b_lss)) ?_); first | refine l_end ?_ | refine l_nil ?_
    by_cases hc26 : (m : Int) < 1
    ·
     repeat refine c_seq ?_
     refine c_yes (by exact congrArg Value.bool (decide_eq_true hc26)) ?_; refine c_skip ?_; repeat refine c_seq ?_
     refine c_block ?_; have hi0_m : m = 0 := by omega
     repeat refine c_seq ?_
     refine c_region ?_; have ah28 := H.ownAddr (i := 5) rfl (by omega)
     obtain ⟨ab27, ah28⟩ := ah28
     refine l_op (o_val (r_isN m rfl rfl el43 ah28 (by omega) (by (try simp only [Sl.cut]); omega)) ?_); have he30 : ∃ c, ([rk0 r (d) b15 k16])[m]? = some c := ⟨_, List.getElem?_eq_getElem (by have := ((H.glOwn (i := 5) rfl (by decide) (fun c _ => rkE_len c))).ln; (try dsimp only at this ⊢); omega)⟩
     obtain ⟨e29, he30⟩ := he30
     have hez31 := ((H.glOwn (i := 5) rfl (by decide) (fun c _ => rkE_len c))).sz e29 (List.mem_of_getElem? he30)
     have hee_e29 : rk0 r (d) b15 k16 = e29 := by
       have hx := he30
       rw [hi0_m] at hx; exact Option.some.inj hx
     have hdl_e29 : e29.data.l = recB r d := by rw [← hee_e29]; rfl
     have hdn_e29 : e29.data.len = 89 := by rw [← hee_e29]; rfl
     have hdk_e29 : e29.key = (rk0 r d b k).key := (congrArg Rk.key hee_e29).symm
     refine l_op (o_val (r_ldRow (s := (⟨hd a13, 1, c14, [rk0 r (d) b15 k16]⟩ : Gl Rk)) (k := m) (H.glOwn (i := 5) rfl (by decide) (fun c _ => rkE_len c)) ah28 rfl rt52 (by decide) he30) ?_); refine l_op (o_alloc H zc52 (fun b32 w H hb32 => ?_)); replace H : Hp _ w _ ([_, _, _, _, _, _, _, .blk b32 (rkE (⟨(⟨List.replicate 32 (0 : UInt8), (show (List.replicate 32 (0 : UInt8)).length = 32 from (List.length_replicate ..))⟩ : Id32), ⟨none, 0, 0, []⟩⟩ : Rk)) 52]) := H
     refine l_op (o_stW (C' := rkE e29) H (i := 7) rfl rfl rfl cs52 (rkE_all _) (rkE_len _) (rkE_len _) (fun w H => ?_)); replace H : Hp _ w _ ([_, _, _, _, _, _, _, .blk b32 (rkE e29) 52]) := H
     first | refine l_end ?_ | refine l_nil ?_
     repeat refine c_seq ?_
     refine c_region ?_; refine l_op (o_val r_mv ?_); refine l_op (o_val (r_fa rfl fo52_0) ?_); refine l_op (o_val (r_lk H (i := 7) rfl rfl rt23 (rkE_c0 _)) ?_); have hfk_e29 : (fput (fun _ => none : Id32 → Option Sl) (rk0 r d b k).key (rk0 r d b k).data) e29.key = some (rk0 r d b k).data := by rw [hdk_e29, fput, if_pos rfl]
     refine l_op (o_val (r_lookT9 (k := e29.key) nilS ((MIs.nil (enc := Sl.v)).put (rk0 r d b k).key (rk0 r d b k).data 0) H (i := 6) rfl Tryz.underlying73 keyA zv_sl rfl rfl hfk_e29) ?_); refine l_op (o_val r_mv ?_); refine l_op (o_val (r_ext rfl rfl) ?_); refine l_op (o_val (r_ext rfl rfl) ?_); refine l_op (o_val r_as ?_); refine l_op (o_val r_as ?_); first | refine l_end ?_ | refine l_nil ?_
     repeat refine c_seq ?_
     refine c_region ?_; refine l_op (o_val r_mv ?_); refine l_op (o_val (r_not rfl) ?_); refine l_op (o_val r_mv ?_); refine l_yes rfl rfl rfl (o_val r_mv ?_); refine l_yes rfl rfl rfl (o_val (r_fa rfl fo52_1) ?_); refine l_yes rfl rfl rfl (o_val (r_l1 (v := e29.data.v) H (i := 7) rfl rfl ct50 (rkE_c1 _)) ?_); refine l_yes rfl rfl rfl (o_callR Tryz.func23 rfl rfl rfl (bequal9_ret _ ((rk0 r d b k).data) e29.data (hdx.up H (fun _ => apart_nil _)) (by rw [← hee_e29]; exact (H.slOwn (i := 4) rfl))) ?_); rintro _ w ⟨rfl, Hc⟩
     replace H : Hp _ w _ ([_, _, _, _, _, _, _, _]) := H.call Hc
     clear Hc
     have hk33 : (decide ((rk0 r d b k).data.l = e29.data.l)) = true := (by rw [hdl_e29]; exact decide_eq_true rfl)
     refine l_yes rfl rfl rfl (o_val (r_not rfl) ?_); refine l_op (o_val (r_pick rfl) ?_); first | refine l_end ?_ | refine l_nil ?_
     repeat refine c_seq ?_
     refine c_no (by exact congrArg Value.bool (congrArg not hk33)) ?_; refine c_skip ?_; repeat refine c_seq ?_
     refine c_region ?_; refine l_op (o_val (r_bin (a := (m : Int)) (b := 1) rfl rfl (fun _ => b_add (by omega) (by omega))) ?_); refine l_op (o_val r_mv ?_); first | refine l_end ?_ | refine l_nil ?_
     refine round_end (m + 1) ?_ ?_ ?_
     · exact ⟨rfl, rfl, rfl, rfl, rfl, show VI ((m : Int) + 1) = VI ((m + 1 : Nat) : Int) from congrArg VI (by omega), trivial⟩
     · refine ⟨?_, ?_⟩
       · try dsimp only
         exact by omega
       · exact H.sub (.cons_cons _ (.cons_cons _ (.cons_cons _ (.cons_cons _ (.cons_cons _ (.cons_cons _ (.cons_cons _ (List.nil_sublist _))))))))
     · show 1 - (m + 1 : Nat) < 1 - m; omega
    ·
     repeat refine c_seq ?_
     refine c_no (by exact congrArg Value.bool (decide_eq_false hc26)) ?_; refine c_exit ?_; repeat refine c_seq ?_
     refine c_region ?_; refine l_op (o_val (r_ldA (C := staE (⟨r, d, (0 : UInt64), ⟨none, 0, 0, []⟩, ⟨none, 0, 0, []⟩, ⟨none, 0, 0, []⟩, zId⟩ : Sta)) H (i := 3) rfl rfl rt41 (staE_len _)) ?_); refine l_op (o_stW (C' := staE (⟨r, d, (0 : UInt64), ⟨none, 0, 0, []⟩, ⟨none, 0, 0, []⟩, ⟨none, 0, 0, []⟩, zId⟩ : Sta)) H (i := 0) rfl rfl rfl cs41 (staE_all _) (staE_len _) (staE_len _) (fun w H => ?_)); replace H : Hp _ w _ ([.blk b1 (staE (⟨r, d, (0 : UInt64), ⟨none, 0, 0, []⟩, ⟨none, 0, 0, []⟩, ⟨none, 0, 0, []⟩, zId⟩ : Sta)) 41, _, _, _, _, _, _]) := H
     refine l_op (o_val r_as ?_); first | refine l_end ?_ | refine l_nil ?_
     refine c_ret ?_; try dsimp only [Exit.then, Exit.inBlock]
     refine e_retN (vs := [.agg (staE (⟨r, d, (0 : UInt64), ⟨none, 0, 0, []⟩, ⟨none, 0, 0, []⟩, ⟨none, 0, 0, []⟩, zId⟩ : Sta)).toArray, VI 0]) _ Tryz.results9 rfl (H.resR (C := staE (⟨r, d, (0 : UInt64), ⟨none, 0, 0, []⟩, ⟨none, 0, 0, []⟩, ⟨none, 0, 0, []⟩, zId⟩ : Sta)) (i := 0) rfl rfl rt41 (staE_len _) (resT (v := VI 0) rfl (resZ))) ?_
     refine ⟨_, rfl, ?_⟩
     exact ⟨rfl, H.sub (List.nil_sublist _)⟩
end Go.Proofs.YthigalfaanccnaaGreat
namespace Go.Proofs.YthigalfaanccnaaGreat
open Go
set_option maxRecDepth 100000
def root3 : Id32 := ⟨3 :: List.replicate 31 0, rfl⟩
theorem begun27_ret (w0 : World) :
    Ret Tryz.prog 4 [] w0 fun v w' => v = .bool true ∧ Hp w0 w' [] [] := by
  refine ret_mk Tryz.func4 rfl Tryz.ntmps4 (by simp) ?_
  have H := Hp.refl w0 []
  repeat refine c_seq ?_
  refine c_region ?_; refine l_op (o_val r_as ?_); first | refine l_end ?_ | refine l_nil ?_
  repeat refine c_seq ?_
  refine c_region ?_; refine l_op (o_val (r_bld' (cells := ((((3 : UInt8) :: List.replicate 31 (0 : UInt8))).map V8).toArray) (pv := [(0, V8 (3 : UInt8))]) bd23 rfl rfl) ?_); refine l_op (o_callR Tryz.func7 rfl rfl rfl (new28_ret _ root3 5 (by decide) (by decide)) ?_); rintro _ w ⟨rfl, Hc⟩
  replace H : Hp _ w _ ([]) := H.call Hc
  clear Hc
  refine l_op (o_alloc H zc41 (fun b1 w H hb1 => ?_)); replace H : Hp _ w _ ([.blk b1 (staE (⟨(⟨List.replicate 32 (0 : UInt8), (show (List.replicate 32 (0 : UInt8)).length = 32 from (List.length_replicate ..))⟩ : Id32), 0, (0 : UInt64), ⟨none, 0, 0, []⟩, ⟨none, 0, 0, []⟩, ⟨none, 0, 0, []⟩, (⟨List.replicate 32 (0 : UInt8), (show (List.replicate 32 (0 : UInt8)).length = 32 from (List.length_replicate ..))⟩ : Id32)⟩ : Sta)) 41]) := H
  refine l_op (o_stW (C' := staE (⟨root3, 5, (0 : UInt64), ⟨none, 0, 0, []⟩, ⟨none, 0, 0, []⟩, ⟨none, 0, 0, []⟩, zId⟩ : Sta)) H (i := 0) rfl rfl rfl cs41 (staE_all _) (staE_len _) (staE_len _) (fun w H => ?_)); replace H : Hp _ w _ ([.blk b1 (staE (⟨root3, 5, (0 : UInt64), ⟨none, 0, 0, []⟩, ⟨none, 0, 0, []⟩, ⟨none, 0, 0, []⟩, zId⟩ : Sta)) 41]) := H
  first | refine l_end ?_ | refine l_nil ?_
  repeat refine c_seq ?_
  refine c_region ?_; refine l_op (o_val (r_ldA (C := staE (⟨root3, 5, (0 : UInt64), ⟨none, 0, 0, []⟩, ⟨none, 0, 0, []⟩, ⟨none, 0, 0, []⟩, zId⟩ : Sta)) H (i := 0) rfl rfl rt41 (staE_len _)) ?_); refine l_op (o_callR Tryz.func8 rfl rfl rfl (records0_ret _ root3 (5) (by omega) (by omega)) ?_); rintro _ w ⟨a2, c3, b4, k5, rfl, Hc⟩
  replace H : Hp _ w _ ([_, .own b4 89 k5 ((recB root3 (5)).map V8) 5 1, .own a2 1 c3 (([rk0 root3 (5) b4 k5]).flatMap rkE) 52 33]) := H.call Hc
  clear Hc
  refine l_op (o_val r_mv ?_); refine l_op (o_val (r_ext rfl rfl) ?_); refine l_op (o_val (r_ext rfl rfl) ?_); refine l_op (o_val r_as ?_); refine l_op (o_val r_as ?_); first | refine l_end ?_ | refine l_nil ?_
  repeat refine c_seq ?_
  refine c_region ?_; refine l_op (o_val r_mv ?_); refine l_op (o_callR Tryz.func9 rfl rfl rfl (load0_ret _ root3 5 (by decide) (by decide) ⟨hd a2, 1, c3, [rk0 root3 (5) b4 k5]⟩ (H.glOwn (i := 2) rfl (by decide) (fun c _ => rkE_len c)) b4 k5 rfl (H.slOwn (i := 1) rfl)) ?_); rintro _ w ⟨rfl, Hc⟩
  replace H : Hp _ w _ ([_, _, _]) := H.call Hc
  clear Hc
  refine l_op (o_val r_mv ?_); refine l_op (o_val (r_ext rfl rfl) ?_); refine l_op (o_val (r_ext rfl rfl) ?_); refine l_op (o_alloc H zc41 (fun b6 w H hb6 => ?_)); replace H : Hp _ w _ ([_, _, _, .blk b6 (staE (⟨(⟨List.replicate 32 (0 : UInt8), (show (List.replicate 32 (0 : UInt8)).length = 32 from (List.length_replicate ..))⟩ : Id32), 0, (0 : UInt64), ⟨none, 0, 0, []⟩, ⟨none, 0, 0, []⟩, ⟨none, 0, 0, []⟩, (⟨List.replicate 32 (0 : UInt8), (show (List.replicate 32 (0 : UInt8)).length = 32 from (List.length_replicate ..))⟩ : Id32)⟩ : Sta)) 41]) := H
  refine l_op (o_stW (C' := staE (⟨root3, 5, (0 : UInt64), ⟨none, 0, 0, []⟩, ⟨none, 0, 0, []⟩, ⟨none, 0, 0, []⟩, zId⟩ : Sta)) H (i := 3) rfl rfl rfl cs41 (staE_all _) (staE_len _) (staE_len _) (fun w H => ?_)); replace H : Hp _ w _ ([_, _, _, .blk b6 (staE (⟨root3, 5, (0 : UInt64), ⟨none, 0, 0, []⟩, ⟨none, 0, 0, []⟩, ⟨none, 0, 0, []⟩, zId⟩ : Sta)) 41]) := H
  refine l_op (o_val r_as ?_); first | refine l_end ?_ | refine l_nil ?_
  repeat refine c_seq ?_
  refine c_region ?_; refine l_op (o_val r_mv ?_); refine l_op (o_val (r_bin (a := 0) (b := 0) rfl rfl (fun _ => b_eqlB true (decide_eq_true (by decide)))) ?_); refine l_op (o_val r_mv ?_); refine l_yes rfl rfl rfl (o_val r_mv ?_); refine l_yes rfl rfl rfl (o_val (r_bin (a := 0) (b := 0) rfl rfl (fun _ => b_eqlB true (decide_eq_true (by decide)))) ?_); refine l_op (o_val (r_pick rfl) ?_); refine l_op (o_val r_mv ?_); refine l_yes rfl rfl rfl (o_val (r_ldA (C := staE (⟨root3, 5, (0 : UInt64), ⟨none, 0, 0, []⟩, ⟨none, 0, 0, []⟩, ⟨none, 0, 0, []⟩, zId⟩ : Sta)) H (i := 0) rfl rfl rt41 (staE_len _)) ?_); refine l_yes rfl rfl rfl (o_callR Tryz.func10 rfl rfl rfl (may27_ret _ root3 (5) (by omega) (by omega)) ?_); rintro _ w ⟨rfl, Hc⟩
  replace H : Hp _ w _ ([_, _, _, _]) := H.call Hc
  clear Hc
  refine l_op (o_val (r_pick rfl) ?_); refine l_op (o_val r_mv ?_); refine l_yes rfl rfl rfl (o_val r_mv ?_); refine l_yes rfl rfl rfl (o_val (r_lens el43 rfl) ?_); refine l_yes rfl rfl rfl (o_val (r_bin (a := 1) (b := 1) rfl rfl (fun _ => b_eqlB true (decide_eq_true (by decide)))) ?_); refine l_op (o_val (r_pick rfl) ?_); refine l_op (o_val r_mv ?_); refine l_yes rfl rfl rfl (o_val r_mv ?_); have ah8 := H.ownAddr (i := 2) rfl (by omega)
  obtain ⟨ab7, ah8⟩ := ah8
  refine l_yes rfl rfl rfl (o_val (r_isN 0 rfl rfl el43 ah8 (by omega) (by (try simp only [Sl.cut]); omega)) ?_); refine l_yes rfl rfl rfl (o_val (r_fa rfl fo52_1) ?_); have he10 : ∃ c, ([rk0 root3 (5) b4 k5])[0]? = some c := ⟨_, List.getElem?_eq_getElem (by have := ((H.glOwn (i := 2) rfl (by decide) (fun c _ => rkE_len c))).ln; (try dsimp only at this ⊢); omega)⟩
  obtain ⟨e9, he10⟩ := he10
  have hez11 := ((H.glOwn (i := 2) rfl (by decide) (fun c _ => rkE_len c))).sz e9 (List.mem_of_getElem? he10)
  have hee_e9 : rk0 root3 (5) b4 k5 = e9 := Option.some.inj he10
  have hdn_e9 : e9.data.len = 89 := by rw [← hee_e9]; rfl
  refine l_yes rfl rfl rfl (o_val (r_g1 (v := e9.data.v) (s := (⟨hd a2, 1, c3, [rk0 root3 (5) b4 k5]⟩ : Gl Rk)) (j := 0) (H.glOwn (i := 2) rfl (by decide) (fun c _ => rkE_len c)) ah8 rfl ct50 he10 (by decide) (rkE_c1 _)) ?_); refine l_yes rfl rfl rfl (o_val (r_lens el50 rfl) ?_); refine l_yes rfl rfl rfl (o_val (r_bin (a := (e9.data.len : Int)) (b := 89) rfl rfl (fun _ => b_eqlB true (decide_eq_true (by omega)))) ?_); refine l_op (o_val (r_pick rfl) ?_); refine l_op (o_val r_mv ?_); refine l_yes rfl rfl rfl (o_val (r_fa rfl fo41_0) ?_); refine l_yes rfl rfl rfl (o_val (r_lk H (i := 3) rfl rfl rt23 (staE_c0 _)) ?_); refine l_yes rfl rfl rfl (o_val (r_fa rfl fo41_0) ?_); refine l_yes rfl rfl rfl (o_val (r_lk H (i := 0) rfl rfl rt23 (staE_c0 _)) ?_); refine l_yes rfl rfl rfl (o_val (r_eqa (a := root3.1) (b := root3.1) Tryz.underlying23 Tryz.underlying5 cs5 rfl rfl (show (root3.1).length = 32 from root3.2) (show (root3.1).length = 32 from root3.2)) ?_); refine l_op (o_val (r_pick rfl) ?_); refine l_op (o_val r_mv ?_); refine l_yes rfl rfl (by exact congrArg Value.bool (decide_eq_true (rfl : root3.1 = root3.1))) (o_val (r_fa rfl fo41_1) ?_); refine l_yes rfl rfl (by exact congrArg Value.bool (decide_eq_true (rfl : root3.1 = root3.1))) (o_val (r_l1 (v := VI 5) H (i := 3) rfl rfl ct2 (staE_c1 _)) ?_); refine l_yes rfl rfl (by exact congrArg Value.bool (decide_eq_true (rfl : root3.1 = root3.1))) (o_val (r_bin (a := 5) (b := 5) rfl rfl (fun _ => b_eqlB true (decide_eq_true (by decide)))) ?_); refine l_op (o_val (r_pick (b := true) (congrArg Value.bool (decide_eq_true (rfl : root3.1 = root3.1)))) ?_); refine l_op (o_val r_as ?_); first | refine l_end ?_ | refine l_nil ?_
  refine c_ret ?_; try dsimp only [Exit.then, Exit.inBlock]
  refine e_ret1 (v := .bool true) Tryz.results4 rfl ?_
  refine ⟨_, rfl, ?_⟩
  exact ⟨rfl, H.sub (List.nil_sublist _)⟩
theorem stateUsed_ret (w0 : World) (t : Tn) (ht : tnP t w0) :
    Ret Tryz.prog 3 [.agg (tnE t).toArray] w0 fun v w' => v = .bool true ∧ Hp w0 w' [] [] := by
  refine ret_mk Tryz.func3 rfl Tryz.ntmps3 (by simp) ?_
  have H := Hp.refl w0 []
  obtain ⟨hq1, hq2, ⟨hB, hBl⟩, ⟨hS, hSn⟩, hD⟩ := ht
  have hq3 := hS.le
  have hq4 := hS.mx
  have hmL : maxLen = 9223372036854775807 := rfl
  have hSl := hS.ln
  repeat refine c_seq ?_
  refine c_region ?_; refine l_op (o_box (v := .agg (tnE t).toArray) H rfl (fun b1 w H hb1 => ?_)); replace H : Hp _ w _ ([.blk b1 (tnE t) 28]) := H
  refine l_op (o_val r_as ?_); first | refine l_end ?_ | refine l_nil ?_
  repeat refine c_seq ?_
  refine c_region ?_; refine l_op (o_callR Tryz.func4 rfl rfl rfl (begun27_ret _) ?_); rintro _ w ⟨rfl, Hc⟩
  replace H : Hp _ w _ ([_]) := H.call Hc
  clear Hc
  refine l_op (o_val (r_not rfl) ?_); first | refine l_end ?_ | refine l_nil ?_
  repeat refine c_seq ?_
  refine c_no rfl ?_; refine c_skip ?_; repeat refine c_seq ?_
  refine c_region ?_; refine l_op (o_val (r_fa rfl fo28_4) ?_); refine l_op (o_val (r_l1 (v := t.blobs.v) H (i := 0) rfl rfl ct24 (tnE_c4 _)) ?_); refine l_op (o_val (r_lens el24 rfl) ?_); refine l_op (o_val (r_bin (a := (t.blobs.len : Int)) (b := 40) rfl rfl (fun _ => b_gtr)) ?_); refine l_op (o_val r_mv ?_)
  by_cases hc2 : 40 < (t.blobs.len : Int)
  ·
   refine l_no rfl rfl (by exact congrArg Value.bool (decide_eq_true hc2)) rfl ?_; refine l_no rfl rfl (by exact congrArg Value.bool (decide_eq_true hc2)) rfl ?_; refine l_no rfl rfl (by exact congrArg Value.bool (decide_eq_true hc2)) rfl ?_; refine l_no rfl rfl (by exact congrArg Value.bool (decide_eq_true hc2)) rfl ?_; refine l_op (o_val (r_pick (b := true) (congrArg Value.bool (decide_eq_true hc2))) ?_); first | refine l_end ?_ | refine l_nil ?_
   repeat refine c_seq ?_
   refine c_yes rfl ?_; repeat refine c_seq ?_
   refine c_region ?_; refine l_op (o_val r_as ?_); first | refine l_end ?_ | refine l_nil ?_
   refine c_ret ?_; try dsimp only [Exit.then, Exit.inBlock]
   refine e_ret1 (v := .bool true) Tryz.results3 rfl ?_
   refine ⟨_, rfl, ?_⟩
   exact ⟨rfl, H.sub (List.nil_sublist _)⟩
  ·
   refine l_yes rfl rfl (by exact congrArg Value.bool (decide_eq_false hc2)) (o_val (r_fa rfl fo28_5) ?_); refine l_yes rfl rfl (by exact congrArg Value.bool (decide_eq_false hc2)) (o_val (r_l1 (v := t.snaps.v) H (i := 0) rfl rfl ct25 (tnE_c5 _)) ?_); refine l_yes rfl rfl (by exact congrArg Value.bool (decide_eq_false hc2)) (o_val (r_lens el25 rfl) ?_); refine l_yes rfl rfl (by exact congrArg Value.bool (decide_eq_false hc2)) (o_val (r_bin (a := (t.snaps.len : Int)) (b := 40) rfl rfl (fun _ => b_gtr)) ?_); refine l_op (o_val (r_pick (b := false) (congrArg Value.bool (decide_eq_false hc2))) ?_); first | refine l_end ?_ | refine l_nil ?_
   by_cases hc3 : 40 < (t.snaps.len : Int)
   ·
    repeat refine c_seq ?_
    refine c_yes (by exact congrArg Value.bool (decide_eq_true hc3)) ?_; repeat refine c_seq ?_
    refine c_region ?_; refine l_op (o_val r_as ?_); first | refine l_end ?_ | refine l_nil ?_
    refine c_ret ?_; try dsimp only [Exit.then, Exit.inBlock]
    refine e_ret1 (v := .bool true) Tryz.results3 rfl ?_
    refine ⟨_, rfl, ?_⟩
    exact ⟨rfl, H.sub (List.nil_sublist _)⟩
   ·
    repeat refine c_seq ?_
    refine c_no (by exact congrArg Value.bool (decide_eq_false hc3)) ?_; refine c_skip ?_; repeat refine c_seq ?_
    refine c_region ?_; refine l_op (o_val r_as ?_); first | refine l_end ?_ | refine l_nil ?_
    repeat refine c_seq ?_
    refine c_block ?_; repeat refine c_seq ?_
    refine c_loop (fun (i : Nat) => [(1, .pointer (some ⟨b1, 0, none⟩)), (3, VI (i : Int))])
      (fun (i : Nat) w => (i ≤ t.snaps.len ∧ ∀ (j : Nat) (c : Sn), j < i → t.snaps.l[j]? = some c → c.mf.label.length ≤ 1024) ∧ Hp w0 w [] ([.blk b1 (tnE t) 28]))
      (fun (i : Nat) => t.snaps.len - i) 0 ⟨rfl, rfl, trivial⟩ ⟨⟨Nat.zero_le _, fun j c hj => absurd hj (by omega)⟩, H⟩ ?_
    clear H
    rintro i τ w ⟨⟨hi, hall⟩, H⟩
    repeat refine c_seq ?_
    refine c_region ?_; refine l_op (o_val r_mv ?_); refine l_op (o_val (r_fa rfl fo28_5) ?_); refine l_op (o_val (r_l1 (v := t.snaps.v) H (i := 0) rfl rfl ct25 (tnE_c5 _)) ?_); refine l_op (o_val (r_lens el25 rfl) ?_); refine l_op (o_val (r_bin (a := (i : Int)) (b := (t.snaps.len : Int)) rfl rfl (fun _ => b_lss)) ?_); first | refine l_end ?_ | refine l_nil ?_
    by_cases hc4 : (i : Int) < (t.snaps.len : Int)
    ·
     repeat refine c_seq ?_
     refine c_yes (by exact congrArg Value.bool (decide_eq_true hc4)) ?_; refine c_skip ?_; repeat refine c_seq ?_
     refine c_block ?_; repeat refine c_seq ?_
     refine c_region ?_; refine l_op (o_val (r_fa rfl fo28_5) ?_); refine l_op (o_val (r_l1 (v := t.snaps.v) H (i := 0) rfl rfl ct25 (tnE_c5 _)) ?_); refine l_op (o_val r_mv ?_); have ah7 := ((hS.up H)).addr (by decide) (by first | omega | (dsimp only; omega))
     obtain ⟨ab5, ao6, ah7⟩ := ah7
     refine l_op (o_val (r_isN i rfl rfl el25 ah7 (by omega) (by (try simp only [Sl.cut]); omega)) ?_); refine l_op (o_val (r_fa rfl fo33_1) ?_); refine l_op (o_val (r_fa rfl fo31_2) ?_); have he9 : ∃ c, t.snaps.l[i]? = some c := ⟨_, List.getElem?_eq_getElem (by have := ((hS.up H)).ln; (try dsimp only at this ⊢); omega)⟩
     obtain ⟨e8, he9⟩ := he9
     have hez10 := ((hS.up H)).sz e8 (List.mem_of_getElem? he9)
     refine l_op (o_val (r_g1 (v := .string ⟨(e8.mf.label).toArray⟩) (s := t.snaps) (j := i) (hS.up H) ah7 rfl ct9 he9 (by decide) ((snE_c1 _).comp (mfE_c2 _))) ?_); refine l_op (o_val (r_lenstr (s := ⟨(e8.mf.label).toArray⟩) Tryz.underlying9 rfl) ?_); refine l_op (o_val (r_bin (a := ((e8.mf.label).length : Int)) (b := 1024) rfl rfl (fun _ => b_gtr)) ?_); first | refine l_end ?_ | refine l_nil ?_
     by_cases hc11 : 1024 < ((e8.mf.label).length : Int)
     ·
      repeat refine c_seq ?_
      refine c_yes (by exact congrArg Value.bool (decide_eq_true hc11)) ?_; repeat refine c_seq ?_
      refine c_region ?_; refine l_op (o_val r_as ?_); first | refine l_end ?_ | refine l_nil ?_
      refine c_ret ?_; try dsimp only [Exit.then, Exit.inBlock]
      refine e_ret1 (v := .bool true) Tryz.results3 rfl ?_
      refine ⟨_, rfl, ?_⟩
      exact ⟨rfl, H.sub (List.nil_sublist _)⟩
     ·
      repeat refine c_seq ?_
      refine c_no (by exact congrArg Value.bool (decide_eq_false hc11)) ?_; refine c_skip ?_; repeat refine c_seq ?_
      refine c_region ?_; refine l_op (o_val r_mv ?_); refine l_op (o_val (r_bin (a := (i : Int)) (b := 1) rfl rfl (fun _ => b_add (by omega) (by omega))) ?_); refine l_op (o_val r_as ?_); first | refine l_end ?_ | refine l_nil ?_
      refine round_end (i + 1) ?_ ?_ ?_
      · exact ⟨rfl, show VI ((i : Int) + 1) = VI ((i + 1 : Nat) : Int) from congrArg VI (by omega), trivial⟩
      · refine ⟨?_, ?_⟩
        · try dsimp only
          exact ⟨by omega, fun j c hj hjc => by
            by_cases hji : j < i
            · exact hall j c hji hjc
            · have e : j = i := by omega
              rw [e, he9] at hjc
              cases hjc
              omega⟩
        · exact H
      · show t.snaps.len - (i + 1 : Nat) < t.snaps.len - i; omega
    ·
     repeat refine c_seq ?_
     refine c_no (by exact congrArg Value.bool (decide_eq_false hc4)) ?_; refine c_exit ?_; have hsn : ∀ c ∈ t.snaps.l, c.mf.time ≤ 9223372036854775807 ∧ c.mf.label.length ≤ 1099511627776 := fun c hc => by
       obtain ⟨j, hj⟩ := List.getElem?_of_mem hc
       have hlt := (List.getElem?_eq_some_iff.1 hj).1
       have h1 := hall j c (by omega) hj
       have h2 := (hSn c hc).2.1
       exact ⟨h2.2, by omega⟩
     repeat refine c_seq ?_
     refine wp_held (fun w => Hp w0 w [] [.blk b1 (tnE t) 28]) mixed ?_; replace H := H.drew
     have HS := H
     refine t_take 0 rfl (by kernel_rfl) (by kernel_rfl) (by kernel_rfl) (fun _ _ _ h => h) (fun w HS => r_ldA (C := tnE t) HS (i := 0) rfl rfl rt28 (tnE_len _)) HS ?_; refine t_take 2 rfl (by kernel_rfl) (by kernel_rfl) (by kernel_rfl) (fun _ _ _ h => h) (fun w HS => r_ldA (C := tnE t) HS (i := 0) rfl rfl rt28 (tnE_len _)) HS ?_; refine t_step 1 rfl (by kernel_rfl) (o_callR Tryz.func5 rfl rfl rfl (used_ret _ t (hB.up H) (hS.up H) hsn) ?_); rintro _ w ⟨rfl, Hc⟩
     replace H : Hp _ w _ ([_]) := H.call Hc
     clear Hc
     refine ⟨H, ?_⟩
     replace HS := H
     refine t_step 3 rfl (by kernel_rfl) (o_callR Tryz.func6 rfl rfl rfl (used27_ret _ t (hB.up H) (hS.up H) hsn) ?_); rintro _ w ⟨rfl, Hc⟩
     replace H : Hp _ w _ ([_]) := H.call Hc
     clear Hc
     refine ⟨H, ?_⟩
     replace HS := H
     refine t_take 4 rfl (by kernel_rfl) (by kernel_rfl) (by kernel_rfl) (fun _ _ _ h => h) (fun w HS => r_bin (a := useN t t.blobs.len t.snaps.len) (b := useN t t.blobs.len t.snaps.len) rfl rfl (fun _ => b_eqlB true (decide_eq_true rfl))) HS ?_; refine t_take 5 rfl (by kernel_rfl) (by kernel_rfl) (by kernel_rfl) (fun _ _ _ h => h) (fun w HS => r_as) HS ?_; refine t_done (by kernel_rfl) ?_
     clear HS
     refine c_ret ?_; try dsimp only [Exit.then, Exit.inBlock]
     refine e_ret1 (v := .bool true) Tryz.results3 rfl ?_
     refine ⟨_, rfl, ?_⟩
     exact ⟨rfl, H.sub (List.nil_sublist _)⟩
end Go.Proofs.YthigalfaanccnaaGreat
