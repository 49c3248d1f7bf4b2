/- Lemmas for the statement MeterAll, part 2: rules of operations, walks through functions, plain laws. -/
import Derived.Test.YtncmcgcilijfkaaMeterAllG1
import Derived.Laws.IdiomRangeMap
import Derived.Maps.RangeRun
namespace Go.Proofs.Ytncmcgcilijfkaa
open Go
set_option maxRecDepth 100000
theorem mnone_ret (w0 : World) (mb mb1 mb2 : Nat) (Mh : List ((List UInt8 × Id32) × Value × Nat)) (mc1 : Nat) (Ma : List (List UInt8 × Value × Nat)) (mc2 : Nat) (F : List UInt8 × Id32 → Option Int) (A : List UInt8 → Option Acc) (hm : MSt w0 mb mb1 mb2 Mh mc1 Ma mc2 F A) :
    Ret Try.prog 47 [.pointer (some ⟨mb, 0, none⟩)] w0 fun v w' => v = .bool false ∧ Hp w0 w' [mb, mb1, mb2] [.blk mb [Value.map (some mb1), Value.map (some mb2)] 54, .obj mb1 (mobj kT Mh mc1), .obj mb2 (mobj kS Ma mc2)] := by
  refine ret_mk Try.func47 rfl Try.ntmps47 (by simp) ?_
  have H := hm.start
  repeat refine c_seq ?_
  refine c_region ?_
  refine l_op (o_val (r_as) ?_)
  first | refine l_end ?_ | refine l_nil ?_
  repeat refine c_seq ?_
  refine c_region ?_
  refine l_op (o_val (r_mv) ?_)
  refine l_op (o_val (r_nilp Try.underlying25 (by kernel_rfl) rfl rfl) ?_)
  refine l_op (o_val (r_mv) ?_)
  refine l_yes rfl rfl rfl (o_val (r_mv) ?_)
  refine l_yes rfl rfl rfl (o_val (r_nilc rfl) ?_)
  refine l_yes rfl rfl rfl (o_val (r_fa rfl fo54_0) ?_)
  refine l_yes rfl rfl rfl (o_val (r_ld (v := .map (some mb1)) H (i := 0) rfl rfl ct51 rfl) ?_)
  refine l_yes rfl rfl rfl (o_val (r_nilm Try.underlying51 (by kernel_rfl) rfl rfl) ?_)
  refine l_op (o_val (r_pick rfl) ?_)
  refine l_op (o_val (r_as) ?_)
  first | refine l_end ?_ | refine l_nil ?_
  refine c_ret ?_
  try dsimp only [Exit.then, Exit.inBlock]
  refine e_ret1 (v := .bool false) Try.results47 rfl ?_
  refine ⟨_, rfl, ?_⟩
  exact ⟨rfl, H⟩
theorem set_self {L : List Ch} {i : Nat} {c : Ch} (h : L[i]? = some c) : L.set i c = L := by
  apply List.ext_getElem?
  intro j
  rw [List.getElem?_set]
  by_cases e : i = j
  · subst e
    have := (List.getElem?_eq_some_iff.1 h).1
    rw [if_pos rfl, if_pos this, h]
  · rw [if_neg e]
theorem mst_of {w0 w : World} {S : List Nat} {L : List Ch} {i j k b b1 b2 : Nat} {Mh : List ((List UInt8 × Id32) × Value × Nat)} {c1 : Nat} {Ma : List (List UInt8 × Value × Nat)} {c2 : Nat} {F : List UInt8 × Id32 → Option Int} {A : List UInt8 → Option Acc} (H : Hp w0 w S L) (hi : L[i]? = some (.blk b [Value.map (some b1), Value.map (some b2)] 54)) (hj : L[j]? = some (.obj b1 (mobj kT Mh c1))) (hk : L[k]? = some (.obj b2 (mobj kS Ma c2)))
    (hij : i ≠ j) (hik : i ≠ k) (hjk : j ≠ k) (fh : MIs VI Mh F) (fa : MIs accE Ma A) (oh : MOk Mh c1) (oa : MOk Ma c2) : MSt w b b1 b2 Mh c1 Ma c2 F A :=
  ⟨H.has _ (List.mem_of_getElem? hi), H.has _ (List.mem_of_getElem? hj), H.has _ (List.mem_of_getElem? hk), fun e => pw_ne H.nd hi hj hij rfl (by rw [e]; rfl), fun e => pw_ne H.nd hi hk hik rfl (by rw [e]; rfl), fun e => pw_ne H.nd hj hk hjk rfl (by rw [e]; rfl), fh, fa, oh, oa⟩
theorem met_at {w0 w w' : World} {S : List Nat} {L : List Ch} {i j k b b1 b2 : Nat} {Mh Mh' : List ((List UInt8 × Id32) × Value × Nat)} {c1 c1' : Nat} {Ma Ma' : List (List UInt8 × Value × Nat)} {c2 c2' : Nat} (H : Hp w0 w S L) (hi : L[i]? = some (.blk b [Value.map (some b1), Value.map (some b2)] 54)) (hj : L[j]? = some (.obj b1 (mobj kT Mh c1))) (hk : L[k]? = some (.obj b2 (mobj kS Ma c2)))
    (hij : i ≠ j) (hik : i ≠ k) (hjk : j ≠ k) (Hc : Hp w w' [b, b1, b2] [.blk b [Value.map (some b1), Value.map (some b2)] 54, .obj b1 (mobj kT Mh' c1'), .obj b2 (mobj kS Ma' c2')]) : Hp w0 w' S ((L.set j (.obj b1 (mobj kT Mh' c1'))).set k (.obj b2 (mobj kS Ma' c2'))) := by
  have := H.callAt3 hi hj hk hij hik hjk rfl rfl rfl rfl rfl rfl Hc
  rwa [set_self hi] at this
theorem met_same {w0 w w' : World} {S : List Nat} {L : List Ch} {i j k b b1 b2 : Nat} {Mh : List ((List UInt8 × Id32) × Value × Nat)} {c1 : Nat} {Ma : List (List UInt8 × Value × Nat)} {c2 : Nat} (H : Hp w0 w S L) (hi : L[i]? = some (.blk b [Value.map (some b1), Value.map (some b2)] 54)) (hj : L[j]? = some (.obj b1 (mobj kT Mh c1))) (hk : L[k]? = some (.obj b2 (mobj kS Ma c2)))
    (hij : i ≠ j) (hik : i ≠ k) (hjk : j ≠ k) (Hc : Hp w w' [b, b1, b2] [.blk b [Value.map (some b1), Value.map (some b2)] 54, .obj b1 (mobj kT Mh c1), .obj b2 (mobj kS Ma c2)]) : Hp w0 w' S L := by
  have := H.callAt3 hi hj hk hij hik hjk rfl rfl rfl rfl rfl rfl Hc
  rwa [set_self hi, set_self hj, set_self hk] at this
theorem mnone_at {w0 w : World} {S : List Nat} {L : List Ch} {i j k b b1 b2 : Nat} {Mh : List ((List UInt8 × Id32) × Value × Nat)} {c1 : Nat} {Ma : List (List UInt8 × Value × Nat)} {c2 : Nat} {F : List UInt8 × Id32 → Option Int} {A : List UInt8 → Option Acc} (H : Hp w0 w S L) (hi : L[i]? = some (.blk b [Value.map (some b1), Value.map (some b2)] 54)) (hj : L[j]? = some (.obj b1 (mobj kT Mh c1))) (hk : L[k]? = some (.obj b2 (mobj kS Ma c2)))
    (hij : i ≠ j) (hik : i ≠ k) (hjk : j ≠ k) (fh : MIs VI Mh F) (fa : MIs accE Ma A) (oh : MOk Mh c1) (oa : MOk Ma c2) : Ret Try.prog 47 [.pointer (some ⟨b, 0, none⟩)] w fun v w' => v = .bool false ∧ Hp w0 w' S L := by
  refine (mnone_ret w b b1 b2 Mh c1 Ma c2 F A (mst_of H hi hj hk hij hik hjk fh fa oh oa)).mono fun v w' ⟨hv, Hc⟩ => ⟨hv, ?_⟩
  have := H.callAt3 hi hj hk hij hik hjk rfl rfl rfl rfl rfl rfl Hc
  rwa [set_self hi, set_self hj, set_self hk] at this
theorem mused_ret (w0 : World) (mb mb1 mb2 : Nat) (Mh : List ((List UInt8 × Id32) × Value × Nat)) (mc1 : Nat) (Ma : List (List UInt8 × Value × Nat)) (mc2 : Nat) (F : List UInt8 × Id32 → Option Int) (A : List UInt8 → Option Acc) (hm : MSt w0 mb mb1 mb2 Mh mc1 Ma mc2 F A) (s : List UInt8) :
    Ret Try.prog 20 [.pointer (some ⟨mb, 0, none⟩), .string ⟨(s).toArray⟩] w0 fun v w' => v = VI ((A s).getD acc0).used ∧ Hp w0 w' [mb, mb1, mb2] [.blk mb [Value.map (some mb1), Value.map (some mb2)] 54, .obj mb1 (mobj kT Mh mc1), .obj mb2 (mobj kS Ma mc2)] := by
  refine ret_mk Try.func20 rfl Try.ntmps20 (by simp) ?_
  have H := hm.start
  repeat refine c_seq ?_
  refine c_region ?_
  refine l_op (o_val (r_as) ?_)
  first | refine l_end ?_ | refine l_nil ?_
  repeat refine c_seq ?_
  refine c_region ?_
  refine l_op (o_val (r_mv) ?_)
  refine l_op (o_callR Try.func47 rfl rfl rfl (mnone_at (F := F) (A := A) H (i := 0) (j := 1) (k := 2) rfl rfl rfl (by decide) (by decide) (by decide) hm.fh hm.fa hm.oh hm.oa) ?_)
  rintro _ w ⟨rfl, Hc⟩
  clear H
  have H := Hc; clear Hc
  replace H : Hp _ w _ ([.blk mb ([.map (some mb1), .map (some mb2)]) 54, .obj mb1 (mobj kT Mh mc1), .obj mb2 (mobj kS Ma mc2)]) := H
  first | refine l_end ?_ | refine l_nil ?_
  repeat refine c_seq ?_
  refine c_no rfl ?_
  refine c_skip ?_
  repeat refine c_seq ?_
  refine c_region ?_
  refine l_op (o_val (r_mv) ?_)
  refine l_op (o_val (r_nilc rfl) ?_)
  refine l_op (o_val (r_fa rfl fo54_1) ?_)
  refine l_op (o_val (r_ld (v := .map (some mb2)) H (i := 0) rfl rfl ct52 rfl) ?_)
  refine l_op (o_val (r_mv) ?_)
  refine l_op (o_val (r_lookF (k := s) acc0 hm.fa H (i := 2) rfl Try.underlying52 keyS zv_acc rfl rfl) ?_)
  refine l_op (o_val (r_fld (v := VI (((A s).getD acc0).used)) Try.underlying91 rfl ct2 rfl rfl) ?_)
  refine l_op (o_val (r_as) ?_)
  first | refine l_end ?_ | refine l_nil ?_
  refine c_ret ?_
  try dsimp only [Exit.then, Exit.inBlock]
  refine e_ret1 (v := VI (((A s).getD acc0).used)) Try.results20 rfl ?_
  refine ⟨_, rfl, ?_⟩
  exact ⟨rfl, H⟩
theorem mquota_ret (w0 : World) (mb mb1 mb2 : Nat) (Mh : List ((List UInt8 × Id32) × Value × Nat)) (mc1 : Nat) (Ma : List (List UInt8 × Value × Nat)) (mc2 : Nat) (F : List UInt8 × Id32 → Option Int) (A : List UInt8 → Option Acc) (hm : MSt w0 mb mb1 mb2 Mh mc1 Ma mc2 F A) (s : List UInt8) (n : Int) :
    Ret Try.prog 19 [.pointer (some ⟨mb, 0, none⟩), .string ⟨(s).toArray⟩, VI n] w0 fun v w' => v = .tuple #[] ∧ ∃ Ma' c2', MIs accE Ma' (fput A s ⟨if n < 0 then 0 else n, ((A s).getD acc0).used, ((A s).getD acc0).things⟩) ∧ MOk Ma' c2' ∧ Hp w0 w' [mb, mb1, mb2] [.blk mb [Value.map (some mb1), Value.map (some mb2)] 54, .obj mb1 (mobj kT Mh mc1), .obj mb2 (mobj kS Ma' c2')] := by
  refine ret_mk Try.func19 rfl Try.ntmps19 (by simp) ?_
  have H := hm.start
  repeat refine c_seq ?_
  refine c_region ?_
  refine l_op (o_val (r_mv) ?_)
  refine l_op (o_callR Try.func47 rfl rfl rfl (mnone_at (F := F) (A := A) H (i := 0) (j := 1) (k := 2) rfl rfl rfl (by decide) (by decide) (by decide) hm.fh hm.fa hm.oh hm.oa) ?_)
  rintro _ w ⟨rfl, Hc⟩
  clear H
  have H := Hc; clear Hc
  replace H : Hp _ w _ ([.blk mb ([.map (some mb1), .map (some mb2)]) 54, .obj mb1 (mobj kT Mh mc1), .obj mb2 (mobj kS Ma mc2)]) := H
  first | refine l_end ?_ | refine l_nil ?_
  repeat refine c_seq ?_
  refine c_no rfl ?_
  refine c_skip ?_
  repeat refine c_seq ?_
  refine c_region ?_
  refine l_op (o_val (r_mv) ?_)
  refine l_op (o_val (r_nilc rfl) ?_)
  refine l_op (o_val (r_fa rfl fo54_1) ?_)
  refine l_op (o_val (r_ld (v := .map (some mb2)) H (i := 0) rfl rfl ct52 rfl) ?_)
  refine l_op (o_val (r_mv) ?_)
  refine l_op (o_val (r_lookF (k := s) acc0 hm.fa H (i := 2) rfl Try.underlying52 keyS zv_acc rfl rfl) ?_)
  refine l_op (o_alloc H zc91 (fun b1 w H hb1 => ?_))
  replace H : Hp _ w _ ([_, _, _, .blk b1 ([VI 0, VI 0, VI 0]) 91]) := H
  refine l_op (o_stW (C' := [VI (((A s).getD acc0).quota), VI (((A s).getD acc0).used), VI (((A s).getD acc0).things)]) H (i := 3) rfl rfl rfl cs91 (by simp [Value.oneCell']) (by rfl) (by rfl) (fun w H => ?_))
  replace H : Hp _ w _ ([_, _, _, .blk b1 ([VI (((A s).getD acc0).quota), VI (((A s).getD acc0).used), VI (((A s).getD acc0).things)]) 91]) := H
  first | refine l_end ?_ | refine l_nil ?_
  repeat refine c_seq ?_
  refine c_region ?_
  refine l_op (o_val (r_mv) ?_)
  refine l_op (o_val (r_max rfl rfl) ?_)
  refine l_op (o_val (r_fa rfl fo91_0) ?_)
  refine l_op (o_st (v := VI (if n < 0 then 0 else n)) H (i := 3) rfl rfl rfl cs2 rfl (by simp only [List.length_cons, List.length_nil]; omega) (fun w H => ?_))
  replace H : Hp _ w _ ([_, _, _, .blk b1 ([VI (if n < 0 then 0 else n), VI (((A s).getD acc0).used), VI (((A s).getD acc0).things)]) 91]) := H
  first | refine l_end ?_ | refine l_nil ?_
  repeat refine c_seq ?_
  refine wp_held (fun w => Hp w0 w [mb, mb1, mb2] [.blk mb ([.map (some mb1), .map (some mb2)]) 54, .obj mb1 (mobj kT Mh mc1), .blk b1 ([VI (if n < 0 then 0 else n), VI (((A s).getD acc0).used), VI (((A s).getD acc0).things)]) 91]) mixed ?_
  replace H := H.drew
  have HS := H.sub (.cons_cons _ (.cons_cons _ (.cons _ (.cons_cons _ (List.nil_sublist _)))))
  refine t_take 0 rfl (by kernel_rfl) (by kernel_rfl) (by kernel_rfl) (fun _ _ _ h => h) (fun w HS => r_mv) HS ?_
  refine t_take 1 rfl (by kernel_rfl) (by kernel_rfl) (by kernel_rfl) (fun _ _ _ h => h) (fun w HS => r_nilc rfl) HS ?_
  refine t_take 2 rfl (by kernel_rfl) (by kernel_rfl) (by kernel_rfl) (fun _ _ _ h => h) (fun w HS => r_fa rfl fo54_1) HS ?_
  refine t_take 3 rfl (by kernel_rfl) (by kernel_rfl) (by kernel_rfl) (fun _ _ _ h => h) (fun w HS => r_ld (v := .map (some mb2)) HS (i := 0) rfl rfl ct52 rfl) HS ?_
  refine t_take 4 rfl (by kernel_rfl) (by kernel_rfl) (by kernel_rfl) (fun _ _ _ h => h) (fun w HS => r_mv) HS ?_
  refine t_take 5 rfl (by kernel_rfl) (by kernel_rfl) (by kernel_rfl) (fun _ _ _ h => h) (fun w HS => r_ldA (C := [VI (if n < 0 then 0 else n), VI (((A s).getD acc0).used), VI (((A s).getD acc0).things)]) HS (i := 2) rfl rfl rt91 (by rfl)) HS ?_
  refine t_step 6 rfl (by kernel_rfl) (o_mput (kv := kS) (k := s) (v := accE (⟨(if n < 0 then 0 else n), ((A s).getD acc0).used, ((A s).getD acc0).things⟩ : Acc)) H (i := 2) rfl Try.underlying52 keyS rfl rfl rfl (fun w H => ?_))
  replace H : Hp _ w _ ([_, _, .obj mb2 (mobj kS (mput s (accE (⟨(if n < 0 then 0 else n), ((A s).getD acc0).used, ((A s).getD acc0).things⟩ : Acc)) mc2 Ma) (mclk Ma s mc2)), _]) := H
  refine ⟨H.sub (.cons_cons _ (.cons_cons _ (.cons _ (.cons_cons _ (List.nil_sublist _))))), ?_⟩
  replace HS := H.sub (.cons_cons _ (.cons_cons _ (.cons _ (.cons_cons _ (List.nil_sublist _)))))
  refine t_done (by kernel_rfl) ?_
  clear HS
  try simp only [Exit.then, Exit.inBlock, ↓reduceIte]
  refine e_norm ?_
  refine e_ret0 Try.results19 ?_
  refine ⟨_, rfl, ?_⟩
  exact ⟨rfl, _, _, (hm.fa.put s (⟨(if n < 0 then 0 else n), ((A s).getD acc0).used, ((A s).getD acc0).things⟩ : Acc) mc2), (hm.oa.put s (accE (⟨(if n < 0 then 0 else n), ((A s).getD acc0).used, ((A s).getD acc0).things⟩ : Acc))), H.sub (.cons_cons _ (.cons_cons _ (.cons_cons _ (List.nil_sublist _))))⟩
theorem mdrop_no (w0 : World) (mb mb1 mb2 : Nat) (Mh : List ((List UInt8 × Id32) × Value × Nat)) (mc1 : Nat) (Ma : List (List UInt8 × Value × Nat)) (mc2 : Nat) (F : List UInt8 × Id32 → Option Int) (A : List UInt8 → Option Acc) (hm : MSt w0 mb mb1 mb2 Mh mc1 Ma mc2 F A) (s o : List UInt8) (ho : o.length = 32) (h : (F (s, (⟨o, ho⟩ : Id32))).isSome = false) :
    Ret Try.prog 18 [.pointer (some ⟨mb, 0, none⟩), .string ⟨(s).toArray⟩, .agg ((o).map V8).toArray] w0 fun v w' => v = VI 5 ∧ Hp w0 w' [mb, mb1, mb2] [.blk mb [Value.map (some mb1), Value.map (some mb2)] 54, .obj mb1 (mobj kT Mh mc1), .obj mb2 (mobj kS Ma mc2)] := by
  refine ret_mk Try.func18 rfl Try.ntmps18 (by simp) ?_
  have H := hm.start
  repeat refine c_seq ?_
  refine c_region ?_
  refine l_op (o_box (v := .agg ((o).map V8).toArray) H rfl (fun b1 w H hb1 => ?_))
  replace H : Hp _ w _ ([.blk mb ([.map (some mb1), .map (some mb2)]) 54, .obj mb1 (mobj kT Mh mc1), .obj mb2 (mobj kS Ma mc2), .blk b1 ((o).map V8) 36]) := H
  refine l_op (o_val (r_as) ?_)
  first | refine l_end ?_ | refine l_nil ?_
  repeat refine c_seq ?_
  refine c_region ?_
  refine l_op (o_val (r_mv) ?_)
  refine l_op (o_callR Try.func47 rfl rfl rfl (mnone_at (F := F) (A := A) H (i := 0) (j := 1) (k := 2) rfl rfl rfl (by decide) (by decide) (by decide) hm.fh hm.fa hm.oh hm.oa) ?_)
  rintro _ w ⟨rfl, Hc⟩
  clear H
  have H := Hc; clear Hc
  replace H : Hp _ w _ [_, _, _, _] := H
  first | refine l_end ?_ | refine l_nil ?_
  repeat refine c_seq ?_
  refine c_no rfl ?_
  refine c_skip ?_
  repeat refine c_seq ?_
  refine c_region ?_
  refine l_op (o_val (r_mv) ?_)
  refine l_op (o_val (r_ldAA (l := o) H (i := 3) rfl rfl rt36 (show (o).length = 32 from ho)) ?_)
  refine l_op (o_val (r_bldT (pv := [(0, .string ⟨(s).toArray⟩), (1, .agg ((o).map V8).toArray)]) (pre := [.string ⟨(s).toArray⟩]) (l := o) bd88 rfl rfl rfl rfl rfl rfl rfl (show (o).length = 32 from ho)) ?_)
  refine l_op (o_alloc H zc88 (fun b2 w H hb2 => ?_))
  replace H : Hp _ w _ ([_, _, _, _, .blk b2 ([.string ⟨(([] : List UInt8)).toArray⟩] ++ (List.replicate 32 (0 : UInt8)).map V8) 88]) := H
  refine l_op (o_stW (C' := [.string ⟨(s).toArray⟩] ++ (o).map V8) H (i := 4) rfl rfl rfl cs88 (by simp [Value.oneCell']) (by rw [List.length_append, List.length_map, (show (List.replicate 32 (0 : UInt8)).length = 32 from (List.length_replicate ..))]; rfl) (by rw [List.length_append, List.length_map, (show (o).length = 32 from ho)]; rfl) (fun w H => ?_))
  replace H : Hp _ w _ ([_, _, _, _, .blk b2 ([.string ⟨(s).toArray⟩] ++ (o).map V8) 88]) := H
  first | refine l_end ?_ | refine l_nil ?_
  repeat refine c_seq ?_
  refine c_still mixed (by kernel_rfl) ?_
  replace H := H.drew
  refine s_op (r_mv) ?_
  refine s_op (r_nilc rfl) ?_
  refine s_op (r_fa rfl fo54_0) ?_
  refine s_op (r_ld (v := .map (some mb1)) H (i := 0) rfl rfl ct51 rfl) ?_
  refine s_op (r_ldA (C := [.string ⟨(s).toArray⟩] ++ (o).map V8) H (i := 4) rfl rfl rt88 (by rw [List.length_append, List.length_map, (show (o).length = 32 from ho)]; rfl)) ?_
  refine s_op (r_lookT (k := (s, ⟨o, (show (o).length = 32 from ho)⟩)) 0 hm.fh H (i := 1) rfl Try.underlying51 keyT zv_int rfl rfl) ?_
  refine s_op (r_mv) ?_
  refine s_op (r_ext rfl rfl) ?_
  refine s_op (r_ext rfl rfl) ?_
  have hk3 : ((F (s, ⟨o, (show (o).length = 32 from ho)⟩)).isSome) = false := h
  refine s_op (r_as) ?_
  refine s_op (r_as) ?_
  refine s_nil ?_
  repeat refine c_seq ?_
  refine c_region ?_
  refine l_op (o_val (r_mv) ?_)
  refine l_op (o_val (r_not rfl) ?_)
  first | refine l_end ?_ | refine l_nil ?_
  repeat refine c_seq ?_
  refine c_yes (by exact congrArg Value.bool (congrArg not hk3)) ?_
  repeat refine c_seq ?_
  refine c_region ?_
  refine l_op (o_val (r_as) ?_)
  first | refine l_end ?_ | refine l_nil ?_
  refine c_ret ?_
  try dsimp only [Exit.then, Exit.inBlock]
  refine e_ret1 (v := VI 5) Try.results18 rfl ?_
  refine ⟨_, rfl, ?_⟩
  exact ⟨rfl, H.sub (.cons_cons _ (.cons_cons _ (.cons_cons _ (List.nil_sublist _))))⟩
theorem mdrop_ok (w0 : World) (mb mb1 mb2 : Nat) (Mh : List ((List UInt8 × Id32) × Value × Nat)) (mc1 : Nat) (Ma : List (List UInt8 × Value × Nat)) (mc2 : Nat) (F : List UInt8 × Id32 → Option Int) (A : List UInt8 → Option Acc) (hm : MSt w0 mb mb1 mb2 Mh mc1 Ma mc2 F A) (s o : List UInt8) (ho : o.length = 32) (h : (F (s, (⟨o, ho⟩ : Id32))).isSome = true) (hu : -9223372036854775808 ≤ ((A s).getD acc0).used - (F (s, (⟨o, ho⟩ : Id32))).getD 0 ∧ ((A s).getD acc0).used - (F (s, (⟨o, ho⟩ : Id32))).getD 0 ≤ 9223372036854775807) (ht : -9223372036854775808 ≤ ((A s).getD acc0).things - 1 ∧ ((A s).getD acc0).things - 1 ≤ 9223372036854775807) :
    Ret Try.prog 18 [.pointer (some ⟨mb, 0, none⟩), .string ⟨(s).toArray⟩, .agg ((o).map V8).toArray] w0 fun v w' => v = VI 0 ∧ ∃ Mh' c1' Ma' c2', MIs VI Mh' (fdel F (s, (⟨o, ho⟩ : Id32))) ∧ MOk Mh' c1' ∧ MIs accE Ma' (fput A s ⟨((A s).getD acc0).quota, ((A s).getD acc0).used - (F (s, (⟨o, ho⟩ : Id32))).getD 0, ((A s).getD acc0).things - 1⟩) ∧ MOk Ma' c2' ∧ Hp w0 w' [mb, mb1, mb2] [.blk mb [Value.map (some mb1), Value.map (some mb2)] 54, .obj mb1 (mobj kT Mh' c1'), .obj mb2 (mobj kS Ma' c2')] := by
  refine ret_mk Try.func18 rfl Try.ntmps18 (by simp) ?_
  have H := hm.start
  repeat refine c_seq ?_
  refine c_region ?_
  refine l_op (o_box (v := .agg ((o).map V8).toArray) H rfl (fun b1 w H hb1 => ?_))
  replace H : Hp _ w _ ([.blk mb ([.map (some mb1), .map (some mb2)]) 54, .obj mb1 (mobj kT Mh mc1), .obj mb2 (mobj kS Ma mc2), .blk b1 ((o).map V8) 36]) := H
  refine l_op (o_val (r_as) ?_)
  first | refine l_end ?_ | refine l_nil ?_
  repeat refine c_seq ?_
  refine c_region ?_
  refine l_op (o_val (r_mv) ?_)
  refine l_op (o_callR Try.func47 rfl rfl rfl (mnone_at (F := F) (A := A) H (i := 0) (j := 1) (k := 2) rfl rfl rfl (by decide) (by decide) (by decide) hm.fh hm.fa hm.oh hm.oa) ?_)
  rintro _ w ⟨rfl, Hc⟩
  clear H
  have H := Hc; clear Hc
  replace H : Hp _ w _ [_, _, _, _] := H
  first | refine l_end ?_ | refine l_nil ?_
  repeat refine c_seq ?_
  refine c_no rfl ?_
  refine c_skip ?_
  repeat refine c_seq ?_
  refine c_region ?_
  refine l_op (o_val (r_mv) ?_)
  refine l_op (o_val (r_ldAA (l := o) H (i := 3) rfl rfl rt36 (show (o).length = 32 from ho)) ?_)
  refine l_op (o_val (r_bldT (pv := [(0, .string ⟨(s).toArray⟩), (1, .agg ((o).map V8).toArray)]) (pre := [.string ⟨(s).toArray⟩]) (l := o) bd88 rfl rfl rfl rfl rfl rfl rfl (show (o).length = 32 from ho)) ?_)
  refine l_op (o_alloc H zc88 (fun b2 w H hb2 => ?_))
  replace H : Hp _ w _ ([_, _, _, _, .blk b2 ([.string ⟨(([] : List UInt8)).toArray⟩] ++ (List.replicate 32 (0 : UInt8)).map V8) 88]) := H
  refine l_op (o_stW (C' := [.string ⟨(s).toArray⟩] ++ (o).map V8) H (i := 4) rfl rfl rfl cs88 (by simp [Value.oneCell']) (by rw [List.length_append, List.length_map, (show (List.replicate 32 (0 : UInt8)).length = 32 from (List.length_replicate ..))]; rfl) (by rw [List.length_append, List.length_map, (show (o).length = 32 from ho)]; rfl) (fun w H => ?_))
  replace H : Hp _ w _ ([_, _, _, _, .blk b2 ([.string ⟨(s).toArray⟩] ++ (o).map V8) 88]) := H
  first | refine l_end ?_ | refine l_nil ?_
  repeat refine c_seq ?_
  refine c_still mixed (by kernel_rfl) ?_
  replace H := H.drew
  refine s_op (r_mv) ?_
  refine s_op (r_nilc rfl) ?_
  refine s_op (r_fa rfl fo54_0) ?_
  refine s_op (r_ld (v := .map (some mb1)) H (i := 0) rfl rfl ct51 rfl) ?_
  refine s_op (r_ldA (C := [.string ⟨(s).toArray⟩] ++ (o).map V8) H (i := 4) rfl rfl rt88 (by rw [List.length_append, List.length_map, (show (o).length = 32 from ho)]; rfl)) ?_
  refine s_op (r_lookT (k := (s, ⟨o, (show (o).length = 32 from ho)⟩)) 0 hm.fh H (i := 1) rfl Try.underlying51 keyT zv_int rfl rfl) ?_
  refine s_op (r_mv) ?_
  refine s_op (r_ext rfl rfl) ?_
  refine s_op (r_ext rfl rfl) ?_
  have hk3 : ((F (s, ⟨o, (show (o).length = 32 from ho)⟩)).isSome) = true := h
  refine s_op (r_as) ?_
  refine s_op (r_as) ?_
  refine s_nil ?_
  repeat refine c_seq ?_
  refine c_region ?_
  refine l_op (o_val (r_mv) ?_)
  refine l_op (o_val (r_not rfl) ?_)
  first | refine l_end ?_ | refine l_nil ?_
  repeat refine c_seq ?_
  refine c_no (by exact congrArg Value.bool (congrArg not hk3)) ?_
  refine c_skip ?_
  repeat refine c_seq ?_
  refine c_region ?_
  refine l_op (o_val (r_mv) ?_)
  refine l_op (o_val (r_nilc rfl) ?_)
  refine l_op (o_val (r_fa rfl fo54_1) ?_)
  refine l_op (o_val (r_ld (v := .map (some mb2)) H (i := 0) rfl rfl ct52 rfl) ?_)
  refine l_op (o_val (r_mv) ?_)
  refine l_op (o_val (r_lookF (k := s) acc0 hm.fa H (i := 2) rfl Try.underlying52 keyS zv_acc rfl rfl) ?_)
  refine l_op (o_alloc H zc91 (fun b4 w H hb4 => ?_))
  replace H : Hp _ w _ ([_, _, _, _, _, .blk b4 ([VI 0, VI 0, VI 0]) 91]) := H
  refine l_op (o_stW (C' := [VI (((A s).getD acc0).quota), VI (((A s).getD acc0).used), VI (((A s).getD acc0).things)]) H (i := 5) rfl rfl rfl cs91 (by simp [Value.oneCell']) (by rfl) (by rfl) (fun w H => ?_))
  replace H : Hp _ w _ ([_, _, _, _, _, .blk b4 ([VI (((A s).getD acc0).quota), VI (((A s).getD acc0).used), VI (((A s).getD acc0).things)]) 91]) := H
  first | refine l_end ?_ | refine l_nil ?_
  repeat refine c_seq ?_
  refine c_region ?_
  refine l_op (o_val (r_fa rfl fo91_1) ?_)
  refine l_op (o_val (r_ld (v := VI (((A s).getD acc0).used)) H (i := 5) rfl rfl ct2 rfl) ?_)
  refine l_op (o_val (r_mv) ?_)
  refine l_op (o_val (r_bin (a := ((A s).getD acc0).used) (b := ((F (s, ⟨o, (show (o).length = 32 from ho)⟩)).getD 0)) rfl rfl (fun _ => b_sub (by omega) (by omega))) ?_)
  refine l_op (o_val (r_fa rfl fo91_2) ?_)
  refine l_op (o_val (r_ld (v := VI (((A s).getD acc0).things)) H (i := 5) rfl rfl ct3 rfl) ?_)
  refine l_op (o_val (r_bin (a := ((A s).getD acc0).things) (b := 1) rfl rfl (fun _ => b_sub (by omega) (by omega))) ?_)
  refine l_op (o_val (r_fa rfl fo91_1) ?_)
  refine l_op (o_st (v := VI ((((A s).getD acc0).used) - ((F (s, ⟨o, (show (o).length = 32 from ho)⟩)).getD 0))) H (i := 5) rfl rfl rfl cs2 rfl (by simp only [List.length_cons, List.length_nil]; omega) (fun w H => ?_))
  replace H : Hp _ w _ ([_, _, _, _, _, .blk b4 ([VI (((A s).getD acc0).quota), VI ((((A s).getD acc0).used) - ((F (s, ⟨o, (show (o).length = 32 from ho)⟩)).getD 0)), VI (((A s).getD acc0).things)]) 91]) := H
  refine l_op (o_val (r_fa rfl fo91_2) ?_)
  refine l_op (o_st (v := VI ((((A s).getD acc0).things) - 1)) H (i := 5) rfl rfl rfl cs3 rfl (by simp only [List.length_cons, List.length_nil]; omega) (fun w H => ?_))
  replace H : Hp _ w _ ([_, _, _, _, _, .blk b4 ([VI (((A s).getD acc0).quota), VI ((((A s).getD acc0).used) - ((F (s, ⟨o, (show (o).length = 32 from ho)⟩)).getD 0)), VI ((((A s).getD acc0).things) - 1)]) 91]) := H
  first | refine l_end ?_ | refine l_nil ?_
  repeat refine c_seq ?_
  refine wp_held (fun w => Hp w0 w [mb, mb1, mb2] [.blk mb ([.map (some mb1), .map (some mb2)]) 54, .obj mb1 (mobj kT Mh mc1), .blk b1 ((o).map V8) 36, .blk b2 ([.string ⟨(s).toArray⟩] ++ (o).map V8) 88, .blk b4 ([VI (((A s).getD acc0).quota), VI ((((A s).getD acc0).used) - ((F (s, ⟨o, (show (o).length = 32 from ho)⟩)).getD 0)), VI ((((A s).getD acc0).things) - 1)]) 91]) mixed ?_
  replace H := H.drew
  have HS := H.sub (.cons_cons _ (.cons_cons _ (.cons _ (.cons_cons _ (.cons_cons _ (.cons_cons _ (List.nil_sublist _)))))))
  refine t_take 0 rfl (by kernel_rfl) (by kernel_rfl) (by kernel_rfl) (fun _ _ _ h => h) (fun w HS => r_mv) HS ?_
  refine t_take 1 rfl (by kernel_rfl) (by kernel_rfl) (by kernel_rfl) (fun _ _ _ h => h) (fun w HS => r_nilc rfl) HS ?_
  refine t_take 2 rfl (by kernel_rfl) (by kernel_rfl) (by kernel_rfl) (fun _ _ _ h => h) (fun w HS => r_fa rfl fo54_1) HS ?_
  refine t_take 3 rfl (by kernel_rfl) (by kernel_rfl) (by kernel_rfl) (fun _ _ _ h => h) (fun w HS => r_ld (v := .map (some mb2)) HS (i := 0) rfl rfl ct52 rfl) HS ?_
  refine t_take 4 rfl (by kernel_rfl) (by kernel_rfl) (by kernel_rfl) (fun _ _ _ h => h) (fun w HS => r_mv) HS ?_
  refine t_take 5 rfl (by kernel_rfl) (by kernel_rfl) (by kernel_rfl) (fun _ _ _ h => h) (fun w HS => r_ldA (C := [VI (((A s).getD acc0).quota), VI ((((A s).getD acc0).used) - ((F (s, ⟨o, (show (o).length = 32 from ho)⟩)).getD 0)), VI ((((A s).getD acc0).things) - 1)]) HS (i := 4) rfl rfl rt91 (by rfl)) HS ?_
  refine t_step 6 rfl (by kernel_rfl) (o_mput (kv := kS) (k := s) (v := accE (⟨((A s).getD acc0).quota, (((A s).getD acc0).used) - ((F (s, ⟨o, (show (o).length = 32 from ho)⟩)).getD 0), (((A s).getD acc0).things) - 1⟩ : Acc)) H (i := 2) rfl Try.underlying52 keyS rfl rfl rfl (fun w H => ?_))
  replace H : Hp _ w _ ([_, _, .obj mb2 (mobj kS (mput s (accE (⟨((A s).getD acc0).quota, (((A s).getD acc0).used) - ((F (s, ⟨o, (show (o).length = 32 from ho)⟩)).getD 0), (((A s).getD acc0).things) - 1⟩ : Acc)) mc2 Ma) (mclk Ma s mc2)), _, _, _]) := H
  refine ⟨H.sub (.cons_cons _ (.cons_cons _ (.cons _ (.cons_cons _ (.cons_cons _ (.cons_cons _ (List.nil_sublist _))))))), ?_⟩
  replace HS := H.sub (.cons_cons _ (.cons_cons _ (.cons _ (.cons_cons _ (.cons_cons _ (.cons_cons _ (List.nil_sublist _)))))))
  refine t_done (by kernel_rfl) ?_
  clear HS
  repeat refine c_seq ?_
  refine wp_held (fun w => Hp w0 w [mb, mb1, mb2] [.blk mb ([.map (some mb1), .map (some mb2)]) 54, .obj mb2 (mobj kS (mput s (accE (⟨((A s).getD acc0).quota, (((A s).getD acc0).used) - ((F (s, ⟨o, (show (o).length = 32 from ho)⟩)).getD 0), (((A s).getD acc0).things) - 1⟩ : Acc)) mc2 Ma) (mclk Ma s mc2)), .blk b1 ((o).map V8) 36, .blk b2 ([.string ⟨(s).toArray⟩] ++ (o).map V8) 88, .blk b4 ([VI (((A s).getD acc0).quota), VI ((((A s).getD acc0).used) - ((F (s, ⟨o, (show (o).length = 32 from ho)⟩)).getD 0)), VI ((((A s).getD acc0).things) - 1)]) 91]) mixed ?_
  replace H := H.drew
  have HS := H.sub (.cons_cons _ (.cons _ (.cons_cons _ (.cons_cons _ (.cons_cons _ (.cons_cons _ (List.nil_sublist _)))))))
  refine t_take 0 rfl (by kernel_rfl) (by kernel_rfl) (by kernel_rfl) (fun _ _ _ h => h) (fun w HS => r_mv) HS ?_
  refine t_take 1 rfl (by kernel_rfl) (by kernel_rfl) (by kernel_rfl) (fun _ _ _ h => h) (fun w HS => r_nilc rfl) HS ?_
  refine t_take 2 rfl (by kernel_rfl) (by kernel_rfl) (by kernel_rfl) (fun _ _ _ h => h) (fun w HS => r_fa rfl fo54_0) HS ?_
  refine t_take 3 rfl (by kernel_rfl) (by kernel_rfl) (by kernel_rfl) (fun _ _ _ h => h) (fun w HS => r_ld (v := .map (some mb1)) HS (i := 0) rfl rfl ct51 rfl) HS ?_
  refine t_take 4 rfl (by kernel_rfl) (by kernel_rfl) (by kernel_rfl) (fun _ _ _ h => h) (fun w HS => r_ldA (C := [.string ⟨(s).toArray⟩] ++ (o).map V8) HS (i := 3) rfl rfl rt88 (by rw [List.length_append, List.length_map, (show (o).length = 32 from ho)]; rfl)) HS ?_
  refine t_step 5 rfl (by kernel_rfl) (o_mdel (kv := kT) (k := (s, ⟨o, (show (o).length = 32 from ho)⟩)) H (i := 1) rfl Try.underlying51 keyT rfl rfl (fun w H => ?_))
  replace H : Hp _ w _ ([_, .obj mb1 (mobj kT (mdel (s, ⟨o, (show (o).length = 32 from ho)⟩) Mh) mc1), _, _, _, _]) := H
  refine ⟨H.sub (.cons_cons _ (.cons _ (.cons_cons _ (.cons_cons _ (.cons_cons _ (.cons_cons _ (List.nil_sublist _))))))), ?_⟩
  replace HS := H.sub (.cons_cons _ (.cons _ (.cons_cons _ (.cons_cons _ (.cons_cons _ (.cons_cons _ (List.nil_sublist _)))))))
  refine t_done (by kernel_rfl) ?_
  clear HS
  repeat refine c_seq ?_
  refine c_region ?_
  refine l_op (o_val (r_as) ?_)
  first | refine l_end ?_ | refine l_nil ?_
  refine c_ret ?_
  try dsimp only [Exit.then, Exit.inBlock]
  refine e_ret1 (v := VI 0) Try.results18 rfl ?_
  refine ⟨_, rfl, ?_⟩
  exact ⟨rfl, _, _, _, _, (hm.fh.del hm.oh (s, ⟨o, (show (o).length = 32 from ho)⟩)), (hm.oh.del (s, ⟨o, (show (o).length = 32 from ho)⟩)), (hm.fa.put s (⟨((A s).getD acc0).quota, (((A s).getD acc0).used) - ((F (s, ⟨o, (show (o).length = 32 from ho)⟩)).getD 0), (((A s).getD acc0).things) - 1⟩ : Acc) mc2), (hm.oa.put s (accE (⟨((A s).getD acc0).quota, (((A s).getD acc0).used) - ((F (s, ⟨o, (show (o).length = 32 from ho)⟩)).getD 0), (((A s).getD acc0).things) - 1⟩ : Acc))), H.sub (.cons_cons _ (.cons_cons _ (.cons_cons _ (List.nil_sublist _))))⟩
theorem madd_neg (w0 : World) (mb mb1 mb2 : Nat) (Mh : List ((List UInt8 × Id32) × Value × Nat)) (mc1 : Nat) (Ma : List (List UInt8 × Value × Nat)) (mc2 : Nat) (F : List UInt8 × Id32 → Option Int) (A : List UInt8 → Option Acc) (hm : MSt w0 mb mb1 mb2 Mh mc1 Ma mc2 F A) (s o : List UInt8) (_ho : o.length = 32) (n : Int) (hn : n < 0) :
    Ret Try.prog 17 [.pointer (some ⟨mb, 0, none⟩), .string ⟨(s).toArray⟩, .agg ((o).map V8).toArray, VI n] w0 fun v w' => v = .tuple #[.bool false, VI 1] ∧ Hp w0 w' [mb, mb1, mb2] [.blk mb [Value.map (some mb1), Value.map (some mb2)] 54, .obj mb1 (mobj kT Mh mc1), .obj mb2 (mobj kS Ma mc2)] := by
  refine ret_mk Try.func17 rfl Try.ntmps17 (by simp) ?_
  have H := hm.start
  repeat refine c_seq ?_
  refine c_region ?_
  refine l_op (o_box (v := .agg ((o).map V8).toArray) H rfl (fun b1 w H hb1 => ?_))
  replace H : Hp _ w _ ([.blk mb ([.map (some mb1), .map (some mb2)]) 54, .obj mb1 (mobj kT Mh mc1), .obj mb2 (mobj kS Ma mc2), .blk b1 ((o).map V8) 36]) := H
  refine l_op (o_val (r_as) ?_)
  refine l_op (o_val (r_as) ?_)
  first | refine l_end ?_ | refine l_nil ?_
  repeat refine c_seq ?_
  refine c_region ?_
  refine l_op (o_val (r_mv) ?_)
  refine l_op (o_callR Try.func47 rfl rfl rfl (mnone_at (F := F) (A := A) H (i := 0) (j := 1) (k := 2) rfl rfl rfl (by decide) (by decide) (by decide) hm.fh hm.fa hm.oh hm.oa) ?_)
  rintro _ w ⟨rfl, Hc⟩
  clear H
  have H := Hc; clear Hc
  replace H : Hp _ w _ [_, _, _, _] := H
  refine l_op (o_val (r_mv) ?_)
  refine l_yes rfl rfl rfl (o_val (r_mv) ?_)
  refine l_yes rfl rfl rfl (o_val (r_bin (a := n) (b := 0) rfl rfl (fun _ => b_lssB true (decide_eq_true hn))) ?_)
  refine l_op (o_val (r_pick rfl) ?_)
  first | refine l_end ?_ | refine l_nil ?_
  repeat refine c_seq ?_
  refine c_yes rfl ?_
  repeat refine c_seq ?_
  refine c_region ?_
  refine l_op (o_val (r_as) ?_)
  refine l_op (o_val (r_as) ?_)
  first | refine l_end ?_ | refine l_nil ?_
  refine c_ret ?_
  try dsimp only [Exit.then, Exit.inBlock]
  refine e_retN (vs := [.bool false, VI 1]) _ Try.results17 rfl (resT (v := .bool false) rfl (resT (v := VI 1) rfl (resZ))) ?_
  refine ⟨_, rfl, ?_⟩
  exact ⟨rfl, H.sub (.cons_cons _ (.cons_cons _ (.cons_cons _ (List.nil_sublist _))))⟩
theorem madd_has (w0 : World) (mb mb1 mb2 : Nat) (Mh : List ((List UInt8 × Id32) × Value × Nat)) (mc1 : Nat) (Ma : List (List UInt8 × Value × Nat)) (mc2 : Nat) (F : List UInt8 × Id32 → Option Int) (A : List UInt8 → Option Acc) (hm : MSt w0 mb mb1 mb2 Mh mc1 Ma mc2 F A) (s o : List UInt8) (ho : o.length = 32) (n : Int) (hn : ¬ n < 0) (h : (F (s, (⟨o, ho⟩ : Id32))).isSome = true) :
    Ret Try.prog 17 [.pointer (some ⟨mb, 0, none⟩), .string ⟨(s).toArray⟩, .agg ((o).map V8).toArray, VI n] w0 fun v w' => v = .tuple #[.bool false, VI 0] ∧ Hp w0 w' [mb, mb1, mb2] [.blk mb [Value.map (some mb1), Value.map (some mb2)] 54, .obj mb1 (mobj kT Mh mc1), .obj mb2 (mobj kS Ma mc2)] := by
  refine ret_mk Try.func17 rfl Try.ntmps17 (by simp) ?_
  have H := hm.start
  repeat refine c_seq ?_
  refine c_region ?_
  refine l_op (o_box (v := .agg ((o).map V8).toArray) H rfl (fun b1 w H hb1 => ?_))
  replace H : Hp _ w _ ([.blk mb ([.map (some mb1), .map (some mb2)]) 54, .obj mb1 (mobj kT Mh mc1), .obj mb2 (mobj kS Ma mc2), .blk b1 ((o).map V8) 36]) := H
  refine l_op (o_val (r_as) ?_)
  refine l_op (o_val (r_as) ?_)
  first | refine l_end ?_ | refine l_nil ?_
  repeat refine c_seq ?_
  refine c_region ?_
  refine l_op (o_val (r_mv) ?_)
  refine l_op (o_callR Try.func47 rfl rfl rfl (mnone_at (F := F) (A := A) H (i := 0) (j := 1) (k := 2) rfl rfl rfl (by decide) (by decide) (by decide) hm.fh hm.fa hm.oh hm.oa) ?_)
  rintro _ w ⟨rfl, Hc⟩
  clear H
  have H := Hc; clear Hc
  replace H : Hp _ w _ [_, _, _, _] := H
  refine l_op (o_val (r_mv) ?_)
  refine l_yes rfl rfl rfl (o_val (r_mv) ?_)
  refine l_yes rfl rfl rfl (o_val (r_bin (a := n) (b := 0) rfl rfl (fun _ => b_lssB false (decide_eq_false hn))) ?_)
  refine l_op (o_val (r_pick rfl) ?_)
  first | refine l_end ?_ | refine l_nil ?_
  repeat refine c_seq ?_
  refine c_no rfl ?_
  refine c_skip ?_
  repeat refine c_seq ?_
  refine c_region ?_
  refine l_op (o_val (r_mv) ?_)
  refine l_op (o_val (r_ldAA (l := o) H (i := 3) rfl rfl rt36 (show (o).length = 32 from ho)) ?_)
  refine l_op (o_val (r_bldT (pv := [(0, .string ⟨(s).toArray⟩), (1, .agg ((o).map V8).toArray)]) (pre := [.string ⟨(s).toArray⟩]) (l := o) bd88 rfl rfl rfl rfl rfl rfl rfl (show (o).length = 32 from ho)) ?_)
  refine l_op (o_alloc H zc88 (fun b2 w H hb2 => ?_))
  replace H : Hp _ w _ ([_, _, _, _, .blk b2 ([.string ⟨(([] : List UInt8)).toArray⟩] ++ (List.replicate 32 (0 : UInt8)).map V8) 88]) := H
  refine l_op (o_stW (C' := [.string ⟨(s).toArray⟩] ++ (o).map V8) H (i := 4) rfl rfl rfl cs88 (by simp [Value.oneCell']) (by rw [List.length_append, List.length_map, (show (List.replicate 32 (0 : UInt8)).length = 32 from (List.length_replicate ..))]; rfl) (by rw [List.length_append, List.length_map, (show (o).length = 32 from ho)]; rfl) (fun w H => ?_))
  replace H : Hp _ w _ ([_, _, _, _, .blk b2 ([.string ⟨(s).toArray⟩] ++ (o).map V8) 88]) := H
  first | refine l_end ?_ | refine l_nil ?_
  repeat refine c_seq ?_
  refine c_still mixed (by kernel_rfl) ?_
  replace H := H.drew
  refine s_op (r_mv) ?_
  refine s_op (r_nilc rfl) ?_
  refine s_op (r_fa rfl fo54_0) ?_
  refine s_op (r_ld (v := .map (some mb1)) H (i := 0) rfl rfl ct51 rfl) ?_
  refine s_op (r_ldA (C := [.string ⟨(s).toArray⟩] ++ (o).map V8) H (i := 4) rfl rfl rt88 (by rw [List.length_append, List.length_map, (show (o).length = 32 from ho)]; rfl)) ?_
  refine s_op (r_lookT (k := (s, ⟨o, (show (o).length = 32 from ho)⟩)) 0 hm.fh H (i := 1) rfl Try.underlying51 keyT zv_int rfl rfl) ?_
  refine s_op (r_mv) ?_
  refine s_op (r_ext rfl rfl) ?_
  refine s_op (r_ext rfl rfl) ?_
  have hk3 : ((F (s, ⟨o, (show (o).length = 32 from ho)⟩)).isSome) = true := h
  refine s_op (r_as) ?_
  refine s_op (r_as) ?_
  refine s_nil ?_
  repeat refine c_seq ?_
  refine c_region ?_
  refine l_op (o_val (r_mv) ?_)
  first | refine l_end ?_ | refine l_nil ?_
  repeat refine c_seq ?_
  refine c_yes (by exact congrArg Value.bool hk3) ?_
  repeat refine c_seq ?_
  refine c_region ?_
  refine l_op (o_val (r_as) ?_)
  refine l_op (o_val (r_as) ?_)
  first | refine l_end ?_ | refine l_nil ?_
  refine c_ret ?_
  try dsimp only [Exit.then, Exit.inBlock]
  refine e_retN (vs := [.bool false, VI 0]) _ Try.results17 rfl (resT (v := .bool false) rfl (resT (v := VI 0) rfl (resZ))) ?_
  refine ⟨_, rfl, ?_⟩
  exact ⟨rfl, H.sub (.cons_cons _ (.cons_cons _ (.cons_cons _ (List.nil_sublist _))))⟩
theorem madd_full (w0 : World) (mb mb1 mb2 : Nat) (Mh : List ((List UInt8 × Id32) × Value × Nat)) (mc1 : Nat) (Ma : List (List UInt8 × Value × Nat)) (mc2 : Nat) (F : List UInt8 × Id32 → Option Int) (A : List UInt8 → Option Acc) (hm : MSt w0 mb mb1 mb2 Mh mc1 Ma mc2 F A) (s o : List UInt8) (ho : o.length = 32) (n : Int) (hn : ¬ n < 0) (h : (F (s, (⟨o, ho⟩ : Id32))).isSome = false) (hq : -9223372036854775808 ≤ ((A s).getD acc0).quota - ((A s).getD acc0).used ∧ ((A s).getD acc0).quota - ((A s).getD acc0).used ≤ 9223372036854775807) (hf : ((A s).getD acc0).quota - ((A s).getD acc0).used < n) :
    Ret Try.prog 17 [.pointer (some ⟨mb, 0, none⟩), .string ⟨(s).toArray⟩, .agg ((o).map V8).toArray, VI n] w0 fun v w' => v = .tuple #[.bool false, VI 16] ∧ Hp w0 w' [mb, mb1, mb2] [.blk mb [Value.map (some mb1), Value.map (some mb2)] 54, .obj mb1 (mobj kT Mh mc1), .obj mb2 (mobj kS Ma mc2)] := by
  refine ret_mk Try.func17 rfl Try.ntmps17 (by simp) ?_
  have H := hm.start
  repeat refine c_seq ?_
  refine c_region ?_
  refine l_op (o_box (v := .agg ((o).map V8).toArray) H rfl (fun b1 w H hb1 => ?_))
  replace H : Hp _ w _ ([.blk mb ([.map (some mb1), .map (some mb2)]) 54, .obj mb1 (mobj kT Mh mc1), .obj mb2 (mobj kS Ma mc2), .blk b1 ((o).map V8) 36]) := H
  refine l_op (o_val (r_as) ?_)
  refine l_op (o_val (r_as) ?_)
  first | refine l_end ?_ | refine l_nil ?_
  repeat refine c_seq ?_
  refine c_region ?_
  refine l_op (o_val (r_mv) ?_)
  refine l_op (o_callR Try.func47 rfl rfl rfl (mnone_at (F := F) (A := A) H (i := 0) (j := 1) (k := 2) rfl rfl rfl (by decide) (by decide) (by decide) hm.fh hm.fa hm.oh hm.oa) ?_)
  rintro _ w ⟨rfl, Hc⟩
  clear H
  have H := Hc; clear Hc
  replace H : Hp _ w _ [_, _, _, _] := H
  refine l_op (o_val (r_mv) ?_)
  refine l_yes rfl rfl rfl (o_val (r_mv) ?_)
  refine l_yes rfl rfl rfl (o_val (r_bin (a := n) (b := 0) rfl rfl (fun _ => b_lssB false (decide_eq_false hn))) ?_)
  refine l_op (o_val (r_pick rfl) ?_)
  first | refine l_end ?_ | refine l_nil ?_
  repeat refine c_seq ?_
  refine c_no rfl ?_
  refine c_skip ?_
  repeat refine c_seq ?_
  refine c_region ?_
  refine l_op (o_val (r_mv) ?_)
  refine l_op (o_val (r_ldAA (l := o) H (i := 3) rfl rfl rt36 (show (o).length = 32 from ho)) ?_)
  refine l_op (o_val (r_bldT (pv := [(0, .string ⟨(s).toArray⟩), (1, .agg ((o).map V8).toArray)]) (pre := [.string ⟨(s).toArray⟩]) (l := o) bd88 rfl rfl rfl rfl rfl rfl rfl (show (o).length = 32 from ho)) ?_)
  refine l_op (o_alloc H zc88 (fun b2 w H hb2 => ?_))
  replace H : Hp _ w _ ([_, _, _, _, .blk b2 ([.string ⟨(([] : List UInt8)).toArray⟩] ++ (List.replicate 32 (0 : UInt8)).map V8) 88]) := H
  refine l_op (o_stW (C' := [.string ⟨(s).toArray⟩] ++ (o).map V8) H (i := 4) rfl rfl rfl cs88 (by simp [Value.oneCell']) (by rw [List.length_append, List.length_map, (show (List.replicate 32 (0 : UInt8)).length = 32 from (List.length_replicate ..))]; rfl) (by rw [List.length_append, List.length_map, (show (o).length = 32 from ho)]; rfl) (fun w H => ?_))
  replace H : Hp _ w _ ([_, _, _, _, .blk b2 ([.string ⟨(s).toArray⟩] ++ (o).map V8) 88]) := H
  first | refine l_end ?_ | refine l_nil ?_
  repeat refine c_seq ?_
  refine c_still mixed (by kernel_rfl) ?_
  replace H := H.drew
  refine s_op (r_mv) ?_
  refine s_op (r_nilc rfl) ?_
  refine s_op (r_fa rfl fo54_0) ?_
  refine s_op (r_ld (v := .map (some mb1)) H (i := 0) rfl rfl ct51 rfl) ?_
  refine s_op (r_ldA (C := [.string ⟨(s).toArray⟩] ++ (o).map V8) H (i := 4) rfl rfl rt88 (by rw [List.length_append, List.length_map, (show (o).length = 32 from ho)]; rfl)) ?_
  refine s_op (r_lookT (k := (s, ⟨o, (show (o).length = 32 from ho)⟩)) 0 hm.fh H (i := 1) rfl Try.underlying51 keyT zv_int rfl rfl) ?_
  refine s_op (r_mv) ?_
  refine s_op (r_ext rfl rfl) ?_
  refine s_op (r_ext rfl rfl) ?_
  have hk3 : ((F (s, ⟨o, (show (o).length = 32 from ho)⟩)).isSome) = false := h
  refine s_op (r_as) ?_
  refine s_op (r_as) ?_
  refine s_nil ?_
  repeat refine c_seq ?_
  refine c_region ?_
  refine l_op (o_val (r_mv) ?_)
  first | refine l_end ?_ | refine l_nil ?_
  repeat refine c_seq ?_
  refine c_no (by exact congrArg Value.bool hk3) ?_
  refine c_skip ?_
  repeat refine c_seq ?_
  refine c_region ?_
  refine l_op (o_val (r_mv) ?_)
  refine l_op (o_val (r_nilc rfl) ?_)
  refine l_op (o_val (r_fa rfl fo54_1) ?_)
  refine l_op (o_val (r_ld (v := .map (some mb2)) H (i := 0) rfl rfl ct52 rfl) ?_)
  refine l_op (o_val (r_mv) ?_)
  refine l_op (o_val (r_lookF (k := s) acc0 hm.fa H (i := 2) rfl Try.underlying52 keyS zv_acc rfl rfl) ?_)
  refine l_op (o_alloc H zc91 (fun b4 w H hb4 => ?_))
  replace H : Hp _ w _ ([_, _, _, _, _, .blk b4 ([VI 0, VI 0, VI 0]) 91]) := H
  refine l_op (o_stW (C' := [VI (((A s).getD acc0).quota), VI (((A s).getD acc0).used), VI (((A s).getD acc0).things)]) H (i := 5) rfl rfl rfl cs91 (by simp [Value.oneCell']) (by rfl) (by rfl) (fun w H => ?_))
  replace H : Hp _ w _ ([_, _, _, _, _, .blk b4 ([VI (((A s).getD acc0).quota), VI (((A s).getD acc0).used), VI (((A s).getD acc0).things)]) 91]) := H
  first | refine l_end ?_ | refine l_nil ?_
  repeat refine c_seq ?_
  refine c_region ?_
  refine l_op (o_val (r_mv) ?_)
  refine l_op (o_val (r_fa rfl fo91_0) ?_)
  refine l_op (o_val (r_ld (v := VI (((A s).getD acc0).quota)) H (i := 5) rfl rfl ct2 rfl) ?_)
  refine l_op (o_val (r_fa rfl fo91_1) ?_)
  refine l_op (o_val (r_ld (v := VI (((A s).getD acc0).used)) H (i := 5) rfl rfl ct2 rfl) ?_)
  refine l_op (o_val (r_bin (a := ((A s).getD acc0).quota) (b := ((A s).getD acc0).used) rfl rfl (fun _ => b_sub (by omega) (by omega))) ?_)
  refine l_op (o_val (r_bin (a := n) (b := (((A s).getD acc0).quota) - (((A s).getD acc0).used)) rfl rfl (fun _ => b_gtrB true (decide_eq_true (by omega)))) ?_)
  first | refine l_end ?_ | refine l_nil ?_
  repeat refine c_seq ?_
  refine c_yes rfl ?_
  repeat refine c_seq ?_
  refine c_region ?_
  refine l_op (o_val (r_as) ?_)
  refine l_op (o_val (r_as) ?_)
  first | refine l_end ?_ | refine l_nil ?_
  refine c_ret ?_
  try dsimp only [Exit.then, Exit.inBlock]
  refine e_retN (vs := [.bool false, VI 16]) _ Try.results17 rfl (resT (v := .bool false) rfl (resT (v := VI 16) rfl (resZ))) ?_
  refine ⟨_, rfl, ?_⟩
  exact ⟨rfl, H.sub (.cons_cons _ (.cons_cons _ (.cons_cons _ (List.nil_sublist _))))⟩
theorem madd_ok (w0 : World) (mb mb1 mb2 : Nat) (Mh : List ((List UInt8 × Id32) × Value × Nat)) (mc1 : Nat) (Ma : List (List UInt8 × Value × Nat)) (mc2 : Nat) (F : List UInt8 × Id32 → Option Int) (A : List UInt8 → Option Acc) (hm : MSt w0 mb mb1 mb2 Mh mc1 Ma mc2 F A) (s o : List UInt8) (ho : o.length = 32) (n : Int) (hn : ¬ n < 0) (h : (F (s, (⟨o, ho⟩ : Id32))).isSome = false) (hq : -9223372036854775808 ≤ ((A s).getD acc0).quota - ((A s).getD acc0).used ∧ ((A s).getD acc0).quota - ((A s).getD acc0).used ≤ 9223372036854775807) (hu : -9223372036854775808 ≤ ((A s).getD acc0).used + n ∧ ((A s).getD acc0).used + n ≤ 9223372036854775807) (ht : -9223372036854775808 ≤ ((A s).getD acc0).things + 1 ∧ ((A s).getD acc0).things + 1 ≤ 9223372036854775807) (hf : ¬ ((A s).getD acc0).quota - ((A s).getD acc0).used < n) :
    Ret Try.prog 17 [.pointer (some ⟨mb, 0, none⟩), .string ⟨(s).toArray⟩, .agg ((o).map V8).toArray, VI n] w0 fun v w' => v = .tuple #[.bool true, VI 0] ∧ ∃ Mh' c1' Ma' c2', MIs VI Mh' (fput F (s, (⟨o, ho⟩ : Id32)) n) ∧ MOk Mh' c1' ∧ MIs accE Ma' (fput A s ⟨((A s).getD acc0).quota, ((A s).getD acc0).used + n, ((A s).getD acc0).things + 1⟩) ∧ MOk Ma' c2' ∧ Hp w0 w' [mb, mb1, mb2] [.blk mb [Value.map (some mb1), Value.map (some mb2)] 54, .obj mb1 (mobj kT Mh' c1'), .obj mb2 (mobj kS Ma' c2')] := by
  refine ret_mk Try.func17 rfl Try.ntmps17 (by simp) ?_
  have H := hm.start
  repeat refine c_seq ?_
  refine c_region ?_
  refine l_op (o_box (v := .agg ((o).map V8).toArray) H rfl (fun b1 w H hb1 => ?_))
  replace H : Hp _ w _ ([.blk mb ([.map (some mb1), .map (some mb2)]) 54, .obj mb1 (mobj kT Mh mc1), .obj mb2 (mobj kS Ma mc2), .blk b1 ((o).map V8) 36]) := H
  refine l_op (o_val (r_as) ?_)
  refine l_op (o_val (r_as) ?_)
  first | refine l_end ?_ | refine l_nil ?_
  repeat refine c_seq ?_
  refine c_region ?_
  refine l_op (o_val (r_mv) ?_)
  refine l_op (o_callR Try.func47 rfl rfl rfl (mnone_at (F := F) (A := A) H (i := 0) (j := 1) (k := 2) rfl rfl rfl (by decide) (by decide) (by decide) hm.fh hm.fa hm.oh hm.oa) ?_)
  rintro _ w ⟨rfl, Hc⟩
  clear H
  have H := Hc; clear Hc
  replace H : Hp _ w _ [_, _, _, _] := H
  refine l_op (o_val (r_mv) ?_)
  refine l_yes rfl rfl rfl (o_val (r_mv) ?_)
  refine l_yes rfl rfl rfl (o_val (r_bin (a := n) (b := 0) rfl rfl (fun _ => b_lssB false (decide_eq_false hn))) ?_)
  refine l_op (o_val (r_pick rfl) ?_)
  first | refine l_end ?_ | refine l_nil ?_
  repeat refine c_seq ?_
  refine c_no rfl ?_
  refine c_skip ?_
  repeat refine c_seq ?_
  refine c_region ?_
  refine l_op (o_val (r_mv) ?_)
  refine l_op (o_val (r_ldAA (l := o) H (i := 3) rfl rfl rt36 (show (o).length = 32 from ho)) ?_)
  refine l_op (o_val (r_bldT (pv := [(0, .string ⟨(s).toArray⟩), (1, .agg ((o).map V8).toArray)]) (pre := [.string ⟨(s).toArray⟩]) (l := o) bd88 rfl rfl rfl rfl rfl rfl rfl (show (o).length = 32 from ho)) ?_)
  refine l_op (o_alloc H zc88 (fun b2 w H hb2 => ?_))
  replace H : Hp _ w _ ([_, _, _, _, .blk b2 ([.string ⟨(([] : List UInt8)).toArray⟩] ++ (List.replicate 32 (0 : UInt8)).map V8) 88]) := H
  refine l_op (o_stW (C' := [.string ⟨(s).toArray⟩] ++ (o).map V8) H (i := 4) rfl rfl rfl cs88 (by simp [Value.oneCell']) (by rw [List.length_append, List.length_map, (show (List.replicate 32 (0 : UInt8)).length = 32 from (List.length_replicate ..))]; rfl) (by rw [List.length_append, List.length_map, (show (o).length = 32 from ho)]; rfl) (fun w H => ?_))
  replace H : Hp _ w _ ([_, _, _, _, .blk b2 ([.string ⟨(s).toArray⟩] ++ (o).map V8) 88]) := H
  first | refine l_end ?_ | refine l_nil ?_
  repeat refine c_seq ?_
  refine c_still mixed (by kernel_rfl) ?_
  replace H := H.drew
  refine s_op (r_mv) ?_
  refine s_op (r_nilc rfl) ?_
  refine s_op (r_fa rfl fo54_0) ?_
  refine s_op (r_ld (v := .map (some mb1)) H (i := 0) rfl rfl ct51 rfl) ?_
  refine s_op (r_ldA (C := [.string ⟨(s).toArray⟩] ++ (o).map V8) H (i := 4) rfl rfl rt88 (by rw [List.length_append, List.length_map, (show (o).length = 32 from ho)]; rfl)) ?_
  refine s_op (r_lookT (k := (s, ⟨o, (show (o).length = 32 from ho)⟩)) 0 hm.fh H (i := 1) rfl Try.underlying51 keyT zv_int rfl rfl) ?_
  refine s_op (r_mv) ?_
  refine s_op (r_ext rfl rfl) ?_
  refine s_op (r_ext rfl rfl) ?_
  have hk3 : ((F (s, ⟨o, (show (o).length = 32 from ho)⟩)).isSome) = false := h
  refine s_op (r_as) ?_
  refine s_op (r_as) ?_
  refine s_nil ?_
  repeat refine c_seq ?_
  refine c_region ?_
  refine l_op (o_val (r_mv) ?_)
  first | refine l_end ?_ | refine l_nil ?_
  repeat refine c_seq ?_
  refine c_no (by exact congrArg Value.bool hk3) ?_
  refine c_skip ?_
  repeat refine c_seq ?_
  refine c_region ?_
  refine l_op (o_val (r_mv) ?_)
  refine l_op (o_val (r_nilc rfl) ?_)
  refine l_op (o_val (r_fa rfl fo54_1) ?_)
  refine l_op (o_val (r_ld (v := .map (some mb2)) H (i := 0) rfl rfl ct52 rfl) ?_)
  refine l_op (o_val (r_mv) ?_)
  refine l_op (o_val (r_lookF (k := s) acc0 hm.fa H (i := 2) rfl Try.underlying52 keyS zv_acc rfl rfl) ?_)
  refine l_op (o_alloc H zc91 (fun b4 w H hb4 => ?_))
  replace H : Hp _ w _ ([_, _, _, _, _, .blk b4 ([VI 0, VI 0, VI 0]) 91]) := H
  refine l_op (o_stW (C' := [VI (((A s).getD acc0).quota), VI (((A s).getD acc0).used), VI (((A s).getD acc0).things)]) H (i := 5) rfl rfl rfl cs91 (by simp [Value.oneCell']) (by rfl) (by rfl) (fun w H => ?_))
  replace H : Hp _ w _ ([_, _, _, _, _, .blk b4 ([VI (((A s).getD acc0).quota), VI (((A s).getD acc0).used), VI (((A s).getD acc0).things)]) 91]) := H
  first | refine l_end ?_ | refine l_nil ?_
  repeat refine c_seq ?_
  refine c_region ?_
  refine l_op (o_val (r_mv) ?_)
  refine l_op (o_val (r_fa rfl fo91_0) ?_)
  refine l_op (o_val (r_ld (v := VI (((A s).getD acc0).quota)) H (i := 5) rfl rfl ct2 rfl) ?_)
  refine l_op (o_val (r_fa rfl fo91_1) ?_)
  refine l_op (o_val (r_ld (v := VI (((A s).getD acc0).used)) H (i := 5) rfl rfl ct2 rfl) ?_)
  refine l_op (o_val (r_bin (a := ((A s).getD acc0).quota) (b := ((A s).getD acc0).used) rfl rfl (fun _ => b_sub (by omega) (by omega))) ?_)
  refine l_op (o_val (r_bin (a := n) (b := (((A s).getD acc0).quota) - (((A s).getD acc0).used)) rfl rfl (fun _ => b_gtrB false (decide_eq_false (by omega)))) ?_)
  first | refine l_end ?_ | refine l_nil ?_
  repeat refine c_seq ?_
  refine c_no rfl ?_
  refine c_skip ?_
  repeat refine c_seq ?_
  refine c_region ?_
  refine l_op (o_val (r_fa rfl fo91_1) ?_)
  refine l_op (o_val (r_ld (v := VI (((A s).getD acc0).used)) H (i := 5) rfl rfl ct2 rfl) ?_)
  refine l_op (o_val (r_mv) ?_)
  refine l_op (o_val (r_bin (a := ((A s).getD acc0).used) (b := n) rfl rfl (fun _ => b_add (by omega) (by omega))) ?_)
  refine l_op (o_val (r_fa rfl fo91_2) ?_)
  refine l_op (o_val (r_ld (v := VI (((A s).getD acc0).things)) H (i := 5) rfl rfl ct3 rfl) ?_)
  refine l_op (o_val (r_bin (a := ((A s).getD acc0).things) (b := 1) rfl rfl (fun _ => b_add (by omega) (by omega))) ?_)
  refine l_op (o_val (r_fa rfl fo91_1) ?_)
  refine l_op (o_st (v := VI ((((A s).getD acc0).used) + n)) H (i := 5) rfl rfl rfl cs2 rfl (by simp only [List.length_cons, List.length_nil]; omega) (fun w H => ?_))
  replace H : Hp _ w _ ([_, _, _, _, _, .blk b4 ([VI (((A s).getD acc0).quota), VI ((((A s).getD acc0).used) + n), VI (((A s).getD acc0).things)]) 91]) := H
  refine l_op (o_val (r_fa rfl fo91_2) ?_)
  refine l_op (o_st (v := VI ((((A s).getD acc0).things) + 1)) H (i := 5) rfl rfl rfl cs3 rfl (by simp only [List.length_cons, List.length_nil]; omega) (fun w H => ?_))
  replace H : Hp _ w _ ([_, _, _, _, _, .blk b4 ([VI (((A s).getD acc0).quota), VI ((((A s).getD acc0).used) + n), VI ((((A s).getD acc0).things) + 1)]) 91]) := H
  first | refine l_end ?_ | refine l_nil ?_
  repeat refine c_seq ?_
  refine wp_held (fun w => Hp w0 w [mb, mb1, mb2] [.blk mb ([.map (some mb1), .map (some mb2)]) 54, .blk b1 ((o).map V8) 36, .blk b2 ([.string ⟨(s).toArray⟩] ++ (o).map V8) 88, .blk b4 ([VI (((A s).getD acc0).quota), VI ((((A s).getD acc0).used) + n), VI ((((A s).getD acc0).things) + 1)]) 91]) mixed ?_
  replace H := H.drew
  have HS := H.sub (.cons_cons _ (.cons _ (.cons _ (.cons_cons _ (.cons_cons _ (.cons_cons _ (List.nil_sublist _)))))))
  refine t_take 0 rfl (by kernel_rfl) (by kernel_rfl) (by kernel_rfl) (fun _ _ _ h => h) (fun w HS => r_mv) HS ?_
  refine t_take 1 rfl (by kernel_rfl) (by kernel_rfl) (by kernel_rfl) (fun _ _ _ h => h) (fun w HS => r_nilc rfl) HS ?_
  refine t_take 2 rfl (by kernel_rfl) (by kernel_rfl) (by kernel_rfl) (fun _ _ _ h => h) (fun w HS => r_fa rfl fo54_0) HS ?_
  refine t_take 3 rfl (by kernel_rfl) (by kernel_rfl) (by kernel_rfl) (fun _ _ _ h => h) (fun w HS => r_ld (v := .map (some mb1)) HS (i := 0) rfl rfl ct51 rfl) HS ?_
  refine t_take 4 rfl (by kernel_rfl) (by kernel_rfl) (by kernel_rfl) (fun _ _ _ h => h) (fun w HS => r_ldA (C := [.string ⟨(s).toArray⟩] ++ (o).map V8) HS (i := 2) rfl rfl rt88 (by rw [List.length_append, List.length_map, (show (o).length = 32 from ho)]; rfl)) HS ?_
  refine t_take 5 rfl (by kernel_rfl) (by kernel_rfl) (by kernel_rfl) (fun _ _ _ h => h) (fun w HS => r_mv) HS ?_
  refine t_take 6 rfl (by kernel_rfl) (by kernel_rfl) (by kernel_rfl) (fun _ _ _ h => h) (fun w HS => r_nilc rfl) HS ?_
  refine t_take 7 rfl (by kernel_rfl) (by kernel_rfl) (by kernel_rfl) (fun _ _ _ h => h) (fun w HS => r_fa rfl fo54_1) HS ?_
  refine t_take 8 rfl (by kernel_rfl) (by kernel_rfl) (by kernel_rfl) (fun _ _ _ h => h) (fun w HS => r_ld (v := .map (some mb2)) HS (i := 0) rfl rfl ct52 rfl) HS ?_
  refine t_take 9 rfl (by kernel_rfl) (by kernel_rfl) (by kernel_rfl) (fun _ _ _ h => h) (fun w HS => r_mv) HS ?_
  refine t_take 10 rfl (by kernel_rfl) (by kernel_rfl) (by kernel_rfl) (fun _ _ _ h => h) (fun w HS => r_mv) HS ?_
  refine t_take 11 rfl (by kernel_rfl) (by kernel_rfl) (by kernel_rfl) (fun _ _ _ h => h) (fun w HS => r_ldA (C := [VI (((A s).getD acc0).quota), VI ((((A s).getD acc0).used) + n), VI ((((A s).getD acc0).things) + 1)]) HS (i := 3) rfl rfl rt91 (by rfl)) HS ?_
  refine t_step 12 rfl (by kernel_rfl) (o_ment (kv := kT) (k := (s, ⟨o, (show (o).length = 32 from ho)⟩)) (z := VI 0) H (i := 1) rfl Try.underlying51 keyT zv_int rfl rfl (fun w H => ?_))
  replace H : Hp _ w _ ([_, .obj mb1 (mobj kT (mput (s, ⟨o, (show (o).length = 32 from ho)⟩) ((mget Mh (s, ⟨o, (show (o).length = 32 from ho)⟩)).getD (VI 0)) mc1 Mh) (mclk Mh (s, ⟨o, (show (o).length = 32 from ho)⟩) mc1)), _, _, _, _]) := H
  refine ⟨H.sub (.cons_cons _ (.cons _ (.cons _ (.cons_cons _ (.cons_cons _ (.cons_cons _ (List.nil_sublist _))))))), ?_⟩
  replace HS := H.sub (.cons_cons _ (.cons _ (.cons _ (.cons_cons _ (.cons_cons _ (.cons_cons _ (List.nil_sublist _)))))))
  refine t_take 13 rfl (by kernel_rfl) (by kernel_rfl) (by kernel_rfl) (fun _ _ _ h => h) (fun w HS => r_ext rfl rfl) HS ?_
  refine t_step 14 rfl (by kernel_rfl) (o_mset (kv := kT) (k := (s, ⟨o, (show (o).length = 32 from ho)⟩)) (v := VI n) (c' := 0) H (i := 1) rfl (hm.oh.put (s, ⟨o, (show (o).length = 32 from ho)⟩) ((mget Mh (s, ⟨o, (show (o).length = 32 from ho)⟩)).getD (VI 0))) mborn_put.2 rfl rfl rfl (fun w H => ?_))
  replace H : Hp _ w _ ([_, .obj mb1 (mobj kT (mput (s, ⟨o, (show (o).length = 32 from ho)⟩) (VI n) 0 (mput (s, ⟨o, (show (o).length = 32 from ho)⟩) ((mget Mh (s, ⟨o, (show (o).length = 32 from ho)⟩)).getD (VI 0)) mc1 Mh)) (mclk Mh (s, ⟨o, (show (o).length = 32 from ho)⟩) mc1)), _, _, _, _]) := H
  refine ⟨H.sub (.cons_cons _ (.cons _ (.cons _ (.cons_cons _ (.cons_cons _ (.cons_cons _ (List.nil_sublist _))))))), ?_⟩
  replace HS := H.sub (.cons_cons _ (.cons _ (.cons _ (.cons_cons _ (.cons_cons _ (.cons_cons _ (List.nil_sublist _)))))))
  refine t_step 15 rfl (by kernel_rfl) (o_ment (kv := kS) (k := s) (z := accE acc0) H (i := 2) rfl Try.underlying52 keyS zv_acc rfl rfl (fun w H => ?_))
  replace H : Hp _ w _ ([_, _, .obj mb2 (mobj kS (mput s ((mget Ma s).getD (accE acc0)) mc2 Ma) (mclk Ma s mc2)), _, _, _]) := H
  refine ⟨H.sub (.cons_cons _ (.cons _ (.cons _ (.cons_cons _ (.cons_cons _ (.cons_cons _ (List.nil_sublist _))))))), ?_⟩
  replace HS := H.sub (.cons_cons _ (.cons _ (.cons _ (.cons_cons _ (.cons_cons _ (.cons_cons _ (List.nil_sublist _)))))))
  refine t_take 16 rfl (by kernel_rfl) (by kernel_rfl) (by kernel_rfl) (fun _ _ _ h => h) (fun w HS => r_ext rfl rfl) HS ?_
  refine t_step 17 rfl (by kernel_rfl) (o_mset (kv := kS) (k := s) (v := accE (⟨((A s).getD acc0).quota, (((A s).getD acc0).used) + n, (((A s).getD acc0).things) + 1⟩ : Acc)) (c' := 0) H (i := 2) rfl (hm.oa.put s ((mget Ma s).getD (accE acc0))) mborn_put.2 rfl rfl rfl (fun w H => ?_))
  replace H : Hp _ w _ ([_, _, .obj mb2 (mobj kS (mput s (accE (⟨((A s).getD acc0).quota, (((A s).getD acc0).used) + n, (((A s).getD acc0).things) + 1⟩ : Acc)) 0 (mput s ((mget Ma s).getD (accE acc0)) mc2 Ma)) (mclk Ma s mc2)), _, _, _]) := H
  refine ⟨H.sub (.cons_cons _ (.cons _ (.cons _ (.cons_cons _ (.cons_cons _ (.cons_cons _ (List.nil_sublist _))))))), ?_⟩
  replace HS := H.sub (.cons_cons _ (.cons _ (.cons _ (.cons_cons _ (.cons_cons _ (.cons_cons _ (List.nil_sublist _)))))))
  refine t_done (by kernel_rfl) ?_
  clear HS
  repeat refine c_seq ?_
  refine c_region ?_
  refine l_op (o_val (r_as) ?_)
  refine l_op (o_val (r_as) ?_)
  first | refine l_end ?_ | refine l_nil ?_
  refine c_ret ?_
  try dsimp only [Exit.then, Exit.inBlock]
  refine e_retN (vs := [.bool true, VI 0]) _ Try.results17 rfl (resT (v := .bool true) rfl (resT (v := VI 0) rfl (resZ))) ?_
  refine ⟨_, rfl, ?_⟩
  exact ⟨rfl, _, _, _, _, (MIs.ent hm.fh (s, ⟨o, (show (o).length = 32 from ho)⟩) n), (MOk.ent (hm.oh.put (s, ⟨o, (show (o).length = 32 from ho)⟩) ((mget Mh (s, ⟨o, (show (o).length = 32 from ho)⟩)).getD (VI 0)))), (MIs.ent hm.fa s (⟨((A s).getD acc0).quota, (((A s).getD acc0).used) + n, (((A s).getD acc0).things) + 1⟩ : Acc)), (MOk.ent (hm.oa.put s ((mget Ma s).getD (accE acc0)))), H.sub (.cons_cons _ (.cons_cons _ (.cons_cons _ (List.nil_sublist _))))⟩
theorem mnew_ret (w0 : World) :
    Ret Try.prog 15 [] w0 fun v w' => ∃ mb mb1 mb2, v = .pointer (some ⟨mb, 0, none⟩) ∧ Hp w0 w' [] [.obj mb1 (mobj kT [] 0), .obj mb2 (mobj kS [] 0), .blk mb [Value.map (some mb1), Value.map (some mb2)] 54] := by
  refine ret_mk Try.func15 rfl Try.ntmps15 (by simp) ?_
  have H := Hp.refl w0 []
  repeat refine c_seq ?_
  refine c_region ?_
  refine l_op (o_val (r_as) ?_)
  first | refine l_end ?_ | refine l_nil ?_
  repeat refine c_seq ?_
  refine c_region ?_
  refine l_op (o_mmake kT H (fun b1 w H hb1 => ?_))
  replace H : Hp _ w _ ([.obj b1 (mobj kT ([] : List ((List UInt8 × Id32) × Value × Nat)) 0)]) := H
  refine l_op (o_mmake kS H (fun b2 w H hb2 => ?_))
  replace H : Hp _ w _ ([_, .obj b2 (mobj kS ([] : List ((List UInt8) × Value × Nat)) 0)]) := H
  refine l_op (o_val (r_bld' (cells := ([.map (some b1), .map (some b2)]).toArray) (pv := [(0, .map (some b1)), (1, .map (some b2))]) bd54 rfl rfl) ?_)
  refine l_op (o_box (v := .agg ([.map (some b1), .map (some b2)]).toArray) H rfl (fun b3 w H hb3 => ?_))
  replace H : Hp _ w _ ([_, _, .blk b3 ([.map (some b1), .map (some b2)]) 54]) := H
  refine l_op (o_val (r_as) ?_)
  first | refine l_end ?_ | refine l_nil ?_
  refine c_ret ?_
  try dsimp only [Exit.then, Exit.inBlock]
  refine e_ret1 (v := .pointer (some ⟨b3, 0, none⟩)) Try.results15 rfl ?_
  refine ⟨_, rfl, ?_⟩
  exact ⟨_, _, _, rfl, H⟩
end Go.Proofs.Ytncmcgcilijfkaa
namespace Go.Proofs.Ytncmcgcilijfkaa
open Go
set_option maxRecDepth 100000
abbrev MKey := List UInt8 × Id32
def look : List (MKey × Int) → MKey → Option Int
  | [], _ => none
  | p :: G, k => if k = p.1 then some p.2 else look G k
def sumT (s : List UInt8) : List (MKey × Int) → Int
  | [] => 0
  | p :: G => (if p.1.1 = s then p.2 else 0) + sumT s G
def cntT (s : List UInt8) : List (MKey × Int) → Int
  | [] => 0
  | p :: G => (if p.1.1 = s then 1 else 0) + cntT s G
def dropG (k : MKey) : List (MKey × Int) → List (MKey × Int)
  | [] => []
  | p :: G => if k = p.1 then G else p :: dropG k G
theorem look_none {k : MKey} : ∀ {G : List (MKey × Int)}, look G k = none ↔ ∀ p ∈ G, p.1 ≠ k
  | [] => by simp [look]
  | p :: G => by
    rw [look]
    by_cases h : k = p.1
    · simp [h]
    · rw [if_neg h, look_none]
      simp only [List.mem_cons, forall_eq_or_imp]
      exact ⟨fun h2 => ⟨fun e => h e.symm, h2⟩, fun h2 => h2.2⟩
theorem look_mem {k : MKey} {v : Int} : ∀ {G : List (MKey × Int)}, look G k = some v → (k, v) ∈ G
  | p :: G, h => by
    rw [look] at h
    by_cases e : k = p.1
    · rw [if_pos e] at h; cases h; rw [e]; exact List.mem_cons_self ..
    · rw [if_neg e] at h; exact List.mem_cons_of_mem _ (look_mem h)
theorem fdel_look (k : MKey) : ∀ {G : List (MKey × Int)}, (G.map (·.1)).Nodup → fdel (look G) k = look (dropG k G)
  | [], _ => by funext j; simp [fdel, look, dropG]
  | p :: G, h => by
    rw [List.map_cons, List.nodup_cons] at h
    have ih := fdel_look k h.2
    funext j
    rw [dropG]
    by_cases e : k = p.1
    · rw [if_pos e, fdel]
      by_cases e2 : j = k
      · rw [if_pos e2, e2]
        refine (look_none.2 fun q hq e3 => h.1 ?_).symm
        rw [← e, ← e3]
        exact List.mem_map.2 ⟨q, hq, rfl⟩
      · rw [if_neg e2, look, if_neg (fun e4 => e2 (e4.trans e.symm))]
    · have := congrFun ih j
      rw [if_neg e, look, ← this, fdel, fdel, look]
      by_cases e2 : j = k
      · rw [if_pos e2, if_pos e2, if_neg (fun e4 => e (e2.symm.trans e4))]
      · rw [if_neg e2, if_neg e2]
theorem drop_sub (k : MKey) : ∀ (G : List (MKey × Int)), (dropG k G).Sublist G
  | [] => .slnil
  | p :: G => by
    rw [dropG]
    split
    · exact List.sublist_cons_self ..
    · exact (drop_sub k G).cons_cons p
theorem sum_drop (s : List UInt8) (k : MKey) : ∀ (G : List (MKey × Int)), sumT s (dropG k G) = sumT s G - (if k.1 = s then (look G k).getD 0 else 0)
  | [] => by simp [dropG, sumT, look]
  | p :: G => by
    rw [dropG, look, sumT]
    by_cases e : k = p.1
    · rw [if_pos e, if_pos e, e]; simp only [Option.getD_some]; omega
    · rw [if_neg e, if_neg e, sumT, sum_drop s k G]; omega
theorem cnt_drop (s : List UInt8) (k : MKey) : ∀ (G : List (MKey × Int)), (look G k).isSome = true → cntT s (dropG k G) = cntT s G - (if k.1 = s then 1 else 0)
  | [], h => by cases h
  | p :: G, h => by
    rw [look] at h
    rw [dropG, cntT]
    by_cases e : k = p.1
    · rw [if_pos e, e]; omega
    · rw [if_neg e] at h
      rw [if_neg e, cntT, cnt_drop s k G h]; omega
theorem sum_nn (s : List UInt8) : ∀ {G : List (MKey × Int)}, (∀ p ∈ G, 0 ≤ p.2) → 0 ≤ sumT s G
  | [], _ => Int.le_refl _
  | p :: G, h => by
    have h1 := h p (List.mem_cons_self ..)
    have h2 := sum_nn s (fun q hq => h q (List.mem_cons_of_mem _ hq))
    rw [sumT]; split <;> omega
theorem sum_mem {p : MKey × Int} : ∀ {G : List (MKey × Int)}, (∀ p ∈ G, 0 ≤ p.2) → p ∈ G → p.2 ≤ sumT p.1.1 G
  | q :: G, h, hp => by
    have h1 := h q (List.mem_cons_self ..)
    have h2 := sum_nn p.1.1 (fun r hr => h r (List.mem_cons_of_mem q hr))
    rw [sumT]
    rcases List.mem_cons.1 hp with rfl | hp
    · rw [if_pos rfl]; omega
    · have := sum_mem (fun r hr => h r (List.mem_cons_of_mem q hr)) hp
      split <;> omega
theorem cnt_bd (s : List UInt8) : ∀ (G : List (MKey × Int)), 0 ≤ cntT s G ∧ cntT s G ≤ (G.length : Int)
  | [] => ⟨Int.le_refl _, Int.le_refl _⟩
  | p :: G => by
    have := cnt_bd s G
    rw [cntT, List.length_cons]; split <;> omega
/-- a meter. -/
structure MM where
  G : List (MKey × Int)
  A : List UInt8 → Option Acc
def MM.acc (X : MM) (s : List UInt8) : Acc := (X.A s).getD acc0
def MM.mt : MM := ⟨[], fun _ => none⟩
structure MM.Inv (X : MM) : Prop where
  nd : (X.G.map (·.1)).Nodup
  nn : ∀ p ∈ X.G, 0 ≤ p.2
  us : ∀ s, (X.acc s).used = sumT s X.G
  th : ∀ s, (X.acc s).things = cntT s X.G
  q : ∀ s, 0 ≤ (X.acc s).quota ∧ (X.acc s).quota ≤ 9223372036854775807
  ub : ∀ s, (X.acc s).used ≤ (X.acc s).quota ∨ (X.acc s).used ≤ 9223372036854775807
theorem MM.mt_inv : MM.mt.Inv := ⟨by simp [MM.mt], by simp [MM.mt], fun _ => rfl, fun _ => rfl, fun _ => by simp [MM.mt, MM.acc, acc0], fun _ => by simp [MM.mt, MM.acc, acc0]⟩
theorem MM.Inv.u {X : MM} (h : X.Inv) (s : List UInt8) : 0 ≤ (X.acc s).used ∧ (X.acc s).used ≤ 9223372036854775807 := by
  have h1 := sum_nn s h.nn
  have h2 := h.us s
  have h3 := h.ub s
  have h4 := h.q s
  omega
theorem MM.Inv.t {X : MM} (h : X.Inv) (s : List UInt8) : 0 ≤ (X.acc s).things ∧ (X.acc s).things ≤ (X.G.length : Int) := by rw [h.th s]; exact cnt_bd s _
theorem MM.Inv.v {X : MM} (h : X.Inv) (k : MKey) : 0 ≤ (look X.G k).getD 0 ∧ (look X.G k).getD 0 ≤ (X.acc k.1).used := by
  have h0 := (h.u k.1).1
  cases e : look X.G k with
  | none => exact ⟨Int.le_refl _, h0⟩
  | some v =>
    have hm := look_mem e
    have := sum_mem h.nn hm
    rw [← h.us] at this
    exact ⟨h.nn _ hm, this⟩
def quotaX (X : MM) (s : List UInt8) (n : Int) : MM := ⟨X.G, fput X.A s ⟨if n < 0 then 0 else n, (X.acc s).used, (X.acc s).things⟩⟩
def addB (X : MM) (s : List UInt8) (k : Id32) (n : Int) : Bool := decide (¬ n < 0) && ((look X.G (s, k)).isNone && decide (¬ (X.acc s).quota - (X.acc s).used < n))
def addE (X : MM) (s : List UInt8) (k : Id32) (n : Int) : Int := if n < 0 then 1 else if (look X.G (s, k)).isSome then 0 else if (X.acc s).quota - (X.acc s).used < n then 16 else 0
def addX (X : MM) (s : List UInt8) (k : Id32) (n : Int) : MM := if addB X s k n then ⟨((s, k), n) :: X.G, fput X.A s ⟨(X.acc s).quota, (X.acc s).used + n, (X.acc s).things + 1⟩⟩ else X
def dropE (X : MM) (s : List UInt8) (k : Id32) : Int := if (look X.G (s, k)).isSome then 0 else 5
def dropX (X : MM) (s : List UInt8) (k : Id32) : MM := if (look X.G (s, k)).isSome then ⟨dropG (s, k) X.G, fput X.A s ⟨(X.acc s).quota, (X.acc s).used - (look X.G (s, k)).getD 0, (X.acc s).things - 1⟩⟩ else X
theorem acc_put (G : List (MKey × Int)) (A : List UInt8 → Option Acc) (s t : List UInt8) (a : Acc) : (⟨G, fput A s a⟩ : MM).acc t = if t = s then a else (A t).getD acc0 := by
  simp only [MM.acc, fput]; split <;> rfl
theorem quota_inv {X : MM} (h : X.Inv) (s : List UInt8) (n : Int) (hn : n ≤ 9223372036854775807) : (quotaX X s n).Inv := by
  have ha : ∀ t, (quotaX X s n).acc t = if t = s then ⟨if n < 0 then 0 else n, (X.acc s).used, (X.acc s).things⟩ else X.acc t := fun t => acc_put _ _ _ _ _
  refine ⟨h.nd, h.nn, fun t => ?_, fun t => ?_, fun t => ?_, fun t => ?_⟩ <;> rw [ha t] <;> by_cases e : t = s
  · rw [if_pos e, e]; exact h.us s
  · rw [if_neg e]; exact h.us t
  · rw [if_pos e, e]; exact h.th s
  · rw [if_neg e]; exact h.th t
  · rw [if_pos e]; dsimp only; split <;> omega
  · rw [if_neg e]; exact h.q t
  · rw [if_pos e]; exact .inr (h.u s).2
  · rw [if_neg e]; exact h.ub t
theorem add_inv {X : MM} (h : X.Inv) (s : List UInt8) (k : Id32) (n : Int) : (addX X s k n).Inv := by
  unfold addX
  cases hb : addB X s k n with
  | false => exact h
  | true =>
    simp only [addB, Bool.and_eq_true, decide_eq_true_eq, Option.isNone_iff_eq_none] at hb
    obtain ⟨h1, h2, h3⟩ := hb
    have ha : ∀ t, (⟨((s, k), n) :: X.G, fput X.A s ⟨(X.acc s).quota, (X.acc s).used + n, (X.acc s).things + 1⟩⟩ : MM).acc t = if t = s then ⟨(X.acc s).quota, (X.acc s).used + n, (X.acc s).things + 1⟩ else X.acc t := fun t => acc_put _ _ _ _ _
    rw [if_pos rfl]
    refine ⟨?_, ?_, fun t => ?_, fun t => ?_, fun t => ?_, fun t => ?_⟩
    · show (((s, k) : MKey) :: X.G.map (·.1)).Nodup
      rw [List.nodup_cons]
      exact ⟨fun hm => by obtain ⟨p, hp, e⟩ := List.mem_map.1 hm; exact look_none.1 h2 p hp e, h.nd⟩
    · intro p hp
      rcases List.mem_cons.1 hp with rfl | hp
      · exact Int.not_lt.1 h1
      · exact h.nn p hp
    · rw [ha t]
      show _ = (if s = t then n else 0) + sumT t X.G
      by_cases e : t = s
      · rw [if_pos e, if_pos e.symm, e, ← h.us s]; dsimp only; omega
      · rw [if_neg e, if_neg (fun e2 => e e2.symm), h.us t]; omega
    · rw [ha t]
      show _ = (if s = t then 1 else 0) + cntT t X.G
      by_cases e : t = s
      · rw [if_pos e, if_pos e.symm, e, ← h.th s]; dsimp only; omega
      · rw [if_neg e, if_neg (fun e2 => e e2.symm), h.th t]; omega
    · rw [ha t]
      by_cases e : t = s
      · rw [if_pos e]; exact h.q s
      · rw [if_neg e]; exact h.q t
    · rw [ha t]
      by_cases e : t = s
      · rw [if_pos e]; left; dsimp only; omega
      · rw [if_neg e]; exact h.ub t
theorem add_len (X : MM) (s : List UInt8) (k : Id32) (n : Int) : (addX X s k n).G.length ≤ X.G.length + 1 := by
  unfold addX; split <;> simp
theorem drop_inv {X : MM} (h : X.Inv) (s : List UInt8) (k : Id32) : (dropX X s k).Inv := by
  unfold dropX
  cases hb : (look X.G (s, k)).isSome with
  | false => exact h
  | true =>
    have ha : ∀ t, (⟨dropG (s, k) X.G, fput X.A s ⟨(X.acc s).quota, (X.acc s).used - (look X.G (s, k)).getD 0, (X.acc s).things - 1⟩⟩ : MM).acc t = if t = s then ⟨(X.acc s).quota, (X.acc s).used - (look X.G (s, k)).getD 0, (X.acc s).things - 1⟩ else X.acc t := fun t => acc_put _ _ _ _ _
    have hsub := drop_sub (s, k) X.G
    have hv := h.v (s, k)
    have hu := h.u s
    rw [if_pos rfl]
    refine ⟨h.nd.sublist (hsub.map _), fun p hp => h.nn p (hsub.subset hp), fun t => ?_, fun t => ?_, fun t => ?_, fun t => ?_⟩ <;> rw [ha t]
    · show _ = sumT t (dropG (s, k) X.G)
      rw [sum_drop, ← h.us t]
      by_cases e : t = s
      · rw [if_pos e, if_pos e.symm, e]
      · rw [if_neg e, if_neg (fun e2 => e e2.symm)]; omega
    · show _ = cntT t (dropG (s, k) X.G)
      rw [cnt_drop _ _ _ hb, ← h.th t]
      by_cases e : t = s
      · rw [if_pos e, if_pos e.symm, e]
      · rw [if_neg e, if_neg (fun e2 => e e2.symm)]; omega
    · by_cases e : t = s
      · rw [if_pos e]; exact h.q s
      · rw [if_neg e]; exact h.q t
    · by_cases e : t = s
      · rw [if_pos e]; right; dsimp only at hv ⊢; omega
      · rw [if_neg e]; exact h.ub t
theorem drop_len (X : MM) (s : List UInt8) (k : Id32) : (dropX X s k).G.length ≤ X.G.length := by
  unfold dropX; split
  · exact (drop_sub _ _).length_le
  · exact Nat.le_refl _
/-- a meter as a world has it: its maps, and what they stand for. -/
structure MW where
  Mh : List (MKey × Value × Nat)
  c1 : Nat
  Ma : List (List UInt8 × Value × Nat)
  c2 : Nat
  X : MM
structure MW.ok (z : MW) : Prop where
  fh : MIs VI z.Mh (look z.X.G)
  oh : MOk z.Mh z.c1
  fa : MIs accE z.Ma z.X.A
  oa : MOk z.Ma z.c2
  inv : z.X.Inv
def MW.mt : MW := ⟨[], 0, [], 0, MM.mt⟩
theorem MW.mt_ok : MW.mt.ok := ⟨fun _ => rfl, MOk.nil, fun _ => rfl, MOk.nil, MM.mt_inv⟩
/-- what a call leaves of a meter. -/
def MLeft (w0 w' : World) (mb mb1 mb2 : Nat) (Y : MM) : Prop := ∃ z : MW, z.X = Y ∧ z.ok ∧ Hp w0 w' [mb, mb1, mb2] [.blk mb [Value.map (some mb1), Value.map (some mb2)] 54, .obj mb1 (mobj kT z.Mh z.c1), .obj mb2 (mobj kS z.Ma z.c2)]
section
variable (w0 : World) (mb mb1 mb2 : Nat) (z : MW) (hm : MSt w0 mb mb1 mb2 z.Mh z.c1 z.Ma z.c2 (look z.X.G) z.X.A) (hz : z.ok)
include hm hz
theorem used_m (s : List UInt8) : Ret Try.prog 20 [.pointer (some ⟨mb, 0, none⟩), .string ⟨s.toArray⟩] w0 fun v w' => v = VI (z.X.acc s).used ∧ MLeft w0 w' mb mb1 mb2 z.X :=
  (mused_ret w0 mb mb1 mb2 z.Mh z.c1 z.Ma z.c2 (look z.X.G) z.X.A hm s).mono fun _ _ ⟨hv, h⟩ => ⟨hv, z, rfl, hz, h⟩
theorem quota_m (s : List UInt8) (n : Int) (hn : n ≤ 9223372036854775807) : Ret Try.prog 19 [.pointer (some ⟨mb, 0, none⟩), .string ⟨s.toArray⟩, VI n] w0 fun v w' => v = .tuple #[] ∧ MLeft w0 w' mb mb1 mb2 (quotaX z.X s n) :=
  (mquota_ret w0 mb mb1 mb2 z.Mh z.c1 z.Ma z.c2 (look z.X.G) z.X.A hm s n).mono fun _ _ ⟨hv, Ma', c2', h1, h2, h⟩ => ⟨hv, ⟨z.Mh, z.c1, Ma', c2', quotaX z.X s n⟩, rfl, ⟨hz.fh, hz.oh, h1, h2, quota_inv hz.inv s n hn⟩, h⟩
theorem drop_m (hc : z.X.G.length ≤ 1099511627776) (s o : List UInt8) (ho : o.length = 32) : Ret Try.prog 18 [.pointer (some ⟨mb, 0, none⟩), .string ⟨s.toArray⟩, .agg (o.map V8).toArray] w0 fun v w' => v = VI (dropE z.X s ⟨o, ho⟩) ∧ MLeft w0 w' mb mb1 mb2 (dropX z.X s ⟨o, ho⟩) := by
  have hu := hz.inv.u s
  have ht := hz.inv.t s
  have hv := hz.inv.v (s, ⟨o, ho⟩)
  have hI := drop_inv hz.inv s ⟨o, ho⟩
  cases hb : (look z.X.G (s, ⟨o, ho⟩)).isSome with
  | false =>
    have e1 : dropX z.X s ⟨o, ho⟩ = z.X := by rw [dropX, if_neg (by rw [hb]; decide)]
    have e2 : dropE z.X s ⟨o, ho⟩ = 5 := by rw [dropE, if_neg (by rw [hb]; decide)]
    rw [e1, e2]
    exact (mdrop_no w0 mb mb1 mb2 z.Mh z.c1 z.Ma z.c2 (look z.X.G) z.X.A hm s o ho hb).mono fun _ _ ⟨hv, h⟩ => ⟨hv, z, rfl, hz, h⟩
  | true =>
    have e1 : dropX z.X s ⟨o, ho⟩ = ⟨dropG (s, ⟨o, ho⟩) z.X.G, fput z.X.A s ⟨(z.X.acc s).quota, (z.X.acc s).used - (look z.X.G (s, ⟨o, ho⟩)).getD 0, (z.X.acc s).things - 1⟩⟩ := by rw [dropX, if_pos hb]
    have e2 : dropE z.X s ⟨o, ho⟩ = 0 := by rw [dropE, if_pos hb]
    rw [e1] at hI ⊢
    rw [e2]
    simp only [MM.acc] at hu ht hv
    refine (mdrop_ok w0 mb mb1 mb2 z.Mh z.c1 z.Ma z.c2 (look z.X.G) z.X.A hm s o ho hb (by omega) (by omega)).mono fun _ _ ⟨hv, Mh', c1', Ma', c2', h1, h2, h3, h4, h⟩ => ⟨hv, ⟨Mh', c1', Ma', c2', _⟩, rfl, ⟨?_, h2, h3, h4, hI⟩, h⟩
    rw [fdel_look _ hz.inv.nd] at h1
    exact h1
theorem add_m (hc : z.X.G.length ≤ 1099511627776) (s o : List UInt8) (ho : o.length = 32) (n : Int) : Ret Try.prog 17 [.pointer (some ⟨mb, 0, none⟩), .string ⟨s.toArray⟩, .agg (o.map V8).toArray, VI n] w0 fun v w' => v = .tuple #[.bool (addB z.X s ⟨o, ho⟩ n), VI (addE z.X s ⟨o, ho⟩ n)] ∧ MLeft w0 w' mb mb1 mb2 (addX z.X s ⟨o, ho⟩ n) := by
  have hu := hz.inv.u s
  have ht := hz.inv.t s
  have hq := hz.inv.q s
  have hI := add_inv hz.inv s ⟨o, ho⟩ n
  by_cases hn : n < 0
  · have e1 : addB z.X s ⟨o, ho⟩ n = false := by simp [addB, hn]
    have e2 : addX z.X s ⟨o, ho⟩ n = z.X := by rw [addX, if_neg (by rw [e1]; decide)]
    rw [e1, e2, addE, if_pos hn]
    exact (madd_neg w0 mb mb1 mb2 z.Mh z.c1 z.Ma z.c2 (look z.X.G) z.X.A hm s o ho n hn).mono fun _ _ ⟨hv, h⟩ => ⟨hv, z, rfl, hz, h⟩
  · cases hb : (look z.X.G (s, ⟨o, ho⟩)).isSome with
    | true =>
      have e1 : addB z.X s ⟨o, ho⟩ n = false := by
        have : (look z.X.G (s, ⟨o, ho⟩)).isNone = false := by rw [← Option.not_isSome, hb]; rfl
        simp [addB, this]
      have e2 : addX z.X s ⟨o, ho⟩ n = z.X := by rw [addX, if_neg (by rw [e1]; decide)]
      rw [e1, e2, addE, if_neg hn, if_pos hb]
      exact (madd_has w0 mb mb1 mb2 z.Mh z.c1 z.Ma z.c2 (look z.X.G) z.X.A hm s o ho n hn hb).mono fun _ _ ⟨hv, h⟩ => ⟨hv, z, rfl, hz, h⟩
    | false =>
      have hb2 : (look z.X.G (s, ⟨o, ho⟩)).isNone = true := by rw [← Option.not_isSome, hb]; rfl
      have hu' := hu
      have ht' := ht
      have hq' := hq
      simp only [MM.acc] at hu' ht' hq'
      by_cases hf : (z.X.acc s).quota - (z.X.acc s).used < n
      · have e1 : addB z.X s ⟨o, ho⟩ n = false := by simp [addB, hf]
        have e2 : addX z.X s ⟨o, ho⟩ n = z.X := by rw [addX, if_neg (by rw [e1]; decide)]
        rw [e1, e2, addE, if_neg hn, if_neg (by rw [hb]; decide), if_pos hf]
        exact (madd_full w0 mb mb1 mb2 z.Mh z.c1 z.Ma z.c2 (look z.X.G) z.X.A hm s o ho n hn hb (by omega) hf).mono fun _ _ ⟨hv, h⟩ => ⟨hv, z, rfl, hz, h⟩
      · have e1 : addB z.X s ⟨o, ho⟩ n = true := by simp only [addB, hb2, decide_eq_true hn, decide_eq_true hf]; rfl
        have e2 : addX z.X s ⟨o, ho⟩ n = ⟨((s, ⟨o, ho⟩), n) :: z.X.G, fput z.X.A s ⟨(z.X.acc s).quota, (z.X.acc s).used + n, (z.X.acc s).things + 1⟩⟩ := by rw [addX, if_pos e1]
        have hf' := hf
        simp only [MM.acc] at hf'
        rw [e2] at hI ⊢
        rw [e1, addE, if_neg hn, if_neg (by rw [hb]; decide), if_neg hf]
        exact (madd_ok w0 mb mb1 mb2 z.Mh z.c1 z.Ma z.c2 (look z.X.G) z.X.A hm s o ho n hn hb (by omega) (by omega) (by omega) hf').mono fun _ _ ⟨hv, Mh', c1', Ma', c2', h1, h2, h3, h4, h⟩ => ⟨hv, ⟨Mh', c1', Ma', c2', _⟩, rfl, ⟨h1, h2, h3, h4, hI⟩, h⟩
end
end Go.Proofs.Ytncmcgcilijfkaa
namespace Go.Proofs.Ytncmcgcilijfkaa
open Go
set_option maxRecDepth 100000
/-- an operation. -/
structure OpM where
  kind : Int
  who : List UInt8
  k : UInt8
  n : Int
def opE (o : OpM) : List Value := [VI o.kind, .string ⟨o.who.toArray⟩, V8 o.k, VI o.n]
abbrev idB (u : UInt8) : Id32 := ⟨u :: List.replicate 31 (0 : UInt8), rfl⟩
theorem idB_inj {u v : UInt8} (h : idB u = idB v) : u = v := by
  have := congrArg Subtype.val h
  exact (List.cons.inj this).1
def lightM (l : List OpM) (m : Nat) : Bool := decide (l.length ≤ m ∧ ∀ e ∈ l, e.who.length ≤ 100)
theorem lightM_iff (l : List OpM) (m : Nat) : lightM l m = true ↔ l.length ≤ m ∧ ∀ e ∈ l, e.who.length ≤ 100 := by simp [lightM]
def sumL : List Int → Int
  | [] => 0
  | x :: l => x + sumL l
theorem sumL_set (l : List Int) (k : Nat) (x : Int) (h : k < l.length) : sumL (l.set k x) = sumL l - l.getD k 0 + x := by
  induction l generalizing k with
  | nil => simp at h
  | cons y l ih =>
    cases k with
    | zero => simp [sumL]; omega
    | succ k =>
      have := ih k (by simpa using h)
      rw [List.set_cons_succ, sumL, sumL, this, List.getD_cons_succ]; omega
theorem getD_set {α : Type} (l : List α) (i j : Nat) (x z : α) (h : i < l.length) : (l.set i x).getD j z = if i = j then x else l.getD j z := by
  rw [List.getD_eq_getElem?_getD, List.getElem?_set]
  by_cases e : i = j
  · rw [if_pos e, if_pos h, if_pos e]; rfl
  · rw [if_neg e, if_neg e, List.getD_eq_getElem?_getD]
theorem look_put (G : List (MKey × Int)) (p : MKey × Int) (k : MKey) : look (p :: G) k = if k = p.1 then some p.2 else look G k := rfl
theorem look_drop {X : MM} (h : X.Inv) (k j : MKey) : look (dropG k X.G) j = if j = k then none else look X.G j := by
  rw [← fdel_look k h.nd]; rfl
theorem addX_T {X : MM} {s : List UInt8} {k : Id32} {n : Int} (h : addB X s k n = true) : addX X s k n = ⟨((s, k), n) :: X.G, fput X.A s ⟨(X.acc s).quota, (X.acc s).used + n, (X.acc s).things + 1⟩⟩ := by rw [addX, if_pos h]
theorem addX_F {X : MM} {s : List UInt8} {k : Id32} {n : Int} (h : addB X s k n = false) : addX X s k n = X := by rw [addX, if_neg (by rw [h]; decide)]
theorem dropX_T {X : MM} {s : List UInt8} {k : Id32} (h : (look X.G (s, k)).isSome = true) : dropX X s k = ⟨dropG (s, k) X.G, fput X.A s ⟨(X.acc s).quota, (X.acc s).used - (look X.G (s, k)).getD 0, (X.acc s).things - 1⟩⟩ := by rw [dropX, if_pos h]
theorem dropX_F {X : MM} {s : List UInt8} {k : Id32} (h : (look X.G (s, k)).isSome = false) : dropX X s k = X := by rw [dropX, if_neg (by rw [h]; decide)]
structure MBs (X : MM) (most : Int) (hs : List Int) (bs : List Bool) : Prop where
  lh : hs.length = 256
  lb : bs.length = 256
  mo : (X.acc [97]).quota ≤ most ∧ 0 ≤ most ∧ most ≤ 9223372036854775807
  us : (X.acc [97]).used ≤ most
  sm : sumL hs = (X.acc [97]).used
  hv : ∀ u : UInt8, hs.getD u.toNat 0 = (look X.G ([97], idB u)).getD 0
  bv : ∀ u : UInt8, bs.getD u.toNat false = (look X.G ([97], idB u)).isSome
theorem getD_rep {α : Type} (n j : Nat) (x : α) : (List.replicate n x).getD j x = x := by
  rw [List.getD_eq_getElem?_getD, List.getElem?_replicate]; split <;> rfl
theorem MBs.mt : MBs MM.mt 0 (List.replicate 256 (0 : Int)) (List.replicate 256 false) :=
  ⟨by rw [List.length_replicate], by rw [List.length_replicate], by decide, by decide, by decide +kernel, fun u => getD_rep .., fun u => getD_rep ..⟩
theorem MBs.nn {X : MM} {most : Int} {hs : List Int} {bs : List Bool} (h : MBs X most hs bs) (hX : X.Inv) : ∀ x ∈ hs, 0 ≤ x := by
  intro x hx
  obtain ⟨j, hj, e⟩ := List.getElem_of_mem hx
  have hj' := hj
  rw [h.lh] at hj'
  have h1 := h.hv (UInt8.ofNat j)
  have e1 : (UInt8.ofNat j).toNat = j := by rw [UInt8.toNat_ofNat']; omega
  rw [e1, List.getD_eq_getElem?_getD, List.getElem?_eq_getElem hj, Option.getD_some, e] at h1
  rw [h1]
  exact (hX.v ([97], idB (UInt8.ofNat j))).1
theorem toNat_ne {u v : UInt8} (h : u ≠ v) : u.toNat ≠ v.toNat := fun e => h (UInt8.toNat_inj.1 e)
theorem idB_eq (s : List UInt8) (u v : UInt8) : ((s, idB u) : MKey) = (s, idB v) ↔ u = v := ⟨fun h => idB_inj (congrArg Prod.snd h), fun h => by rw [h]⟩
theorem MBs.drop {X : MM} {most : Int} {hs : List Int} {bs : List Bool} (h : MBs X most hs bs) (hX : X.Inv) (u : UInt8) : MBs (dropX X [97] (idB u)) most (hs.set u.toNat 0) (bs.set u.toNat false) := by
  have hu := u.toNat_lt
  have e0 := h.hv u
  have hlh := h.lh
  have hlb := h.lb
  have hmo := h.mo
  have hus := h.us
  have hv := hX.v ([97], idB u)
  cases hb : (look X.G ([97], idB u)).isSome with
  | true =>
    rw [dropX_T hb]
    have ha := acc_put (dropG ([97], idB u) X.G) X.A [97] [97] ⟨(X.acc [97]).quota, (X.acc [97]).used - (look X.G ([97], idB u)).getD 0, (X.acc [97]).things - 1⟩
    rw [if_pos rfl] at ha
    refine ⟨by rw [List.length_set, hlh], by rw [List.length_set, hlb], by rw [ha]; exact hmo, by rw [ha]; dsimp only; omega, ?_, fun v => ?_, fun v => ?_⟩
    · rw [sumL_set _ _ _ (by omega), e0, h.sm, ha]; dsimp only; omega
    · rw [getD_set _ _ _ _ _ (by omega), look_drop hX]
      by_cases e : u = v
      · rw [if_pos (congrArg UInt8.toNat e), if_pos ((idB_eq _ _ _).2 e.symm)]; rfl
      · rw [if_neg (toNat_ne e), if_neg (fun e2 => e ((idB_eq _ _ _).1 e2).symm)]; exact h.hv v
    · rw [getD_set _ _ _ _ _ (by omega), look_drop hX]
      by_cases e : u = v
      · rw [if_pos (congrArg UInt8.toNat e), if_pos ((idB_eq _ _ _).2 e.symm)]; rfl
      · rw [if_neg (toNat_ne e), if_neg (fun e2 => e ((idB_eq _ _ _).1 e2).symm)]; exact h.bv v
  | false =>
    have hn : look X.G ([97], idB u) = none := by cases hh : look X.G ([97], idB u) with
      | none => rfl
      | some _ => rw [hh] at hb; cases hb
    rw [dropX_F hb]
    rw [hn] at e0
    refine ⟨by rw [List.length_set, hlh], by rw [List.length_set, hlb], hmo, hus, ?_, fun v => ?_, fun v => ?_⟩
    · rw [sumL_set _ _ _ (by omega), e0, h.sm]; simp only [Option.getD_none]; omega
    · rw [getD_set _ _ _ _ _ (by omega)]
      by_cases e : u = v
      · rw [if_pos (congrArg UInt8.toNat e), ← e, hn]; rfl
      · rw [if_neg (toNat_ne e)]; exact h.hv v
    · rw [getD_set _ _ _ _ _ (by omega)]
      by_cases e : u = v
      · rw [if_pos (congrArg UInt8.toNat e), ← e, hn]; rfl
      · rw [if_neg (toNat_ne e)]; exact h.bv v
theorem MBs.quota {X : MM} {most : Int} {hs : List Int} {bs : List Bool} (h : MBs X most hs bs) (n : Int) (hn : n ≤ 9223372036854775807) : MBs (quotaX X [97] n) (if most < n then n else most) hs bs := by
  have hmo := h.mo
  have hus := h.us
  have ha := acc_put X.G X.A [97] [97] ⟨if n < 0 then 0 else n, (X.acc [97]).used, (X.acc [97]).things⟩
  rw [if_pos rfl] at ha
  have ha' : (quotaX X [97] n).acc [97] = ⟨if n < 0 then 0 else n, (X.acc [97]).used, (X.acc [97]).things⟩ := ha
  refine ⟨h.lh, h.lb, ?_, ?_, ?_, h.hv, h.bv⟩
  · rw [ha']; dsimp only; refine ⟨?_, ?_, ?_⟩ <;> (repeat' split) <;> omega
  · rw [ha']; dsimp only; split <;> omega
  · rw [ha']; exact h.sm
structure Apt (X Y : MM) : Prop where
  l : ∀ k, look X.G ([97], k) = look Y.G ([97], k)
  a : X.acc [97] = Y.acc [97]
theorem Apt.mt : Apt MM.mt MM.mt := ⟨fun _ => rfl, rfl⟩
theorem Apt.addB {X Y : MM} (h : Apt X Y) (k : Id32) (n : Int) : addB X [97] k n = addB Y [97] k n := by rw [Proofs.Ytncmcgcilijfkaa.addB, Proofs.Ytncmcgcilijfkaa.addB, h.l k, h.a]
theorem Apt.addE {X Y : MM} (h : Apt X Y) (k : Id32) (n : Int) : addE X [97] k n = addE Y [97] k n := by rw [Proofs.Ytncmcgcilijfkaa.addE, Proofs.Ytncmcgcilijfkaa.addE, h.l k, h.a]
theorem Apt.dropE {X Y : MM} (h : Apt X Y) (k : Id32) : dropE X [97] k = dropE Y [97] k := by rw [Proofs.Ytncmcgcilijfkaa.dropE, Proofs.Ytncmcgcilijfkaa.dropE, h.l k]
theorem Apt.add {X Y : MM} (h : Apt X Y) (k : Id32) (n : Int) : Apt (addX X [97] k n) (addX Y [97] k n) := by
  have hB := h.addB k n
  cases hb : Proofs.Ytncmcgcilijfkaa.addB Y [97] k n with
  | false => rw [hb] at hB; rw [addX_F hb, addX_F hB]; exact h
  | true =>
    rw [hb] at hB
    rw [addX_T hb, addX_T hB]
    refine ⟨fun j => ?_, ?_⟩
    · rw [look_put, look_put, h.l j]
    · rw [acc_put, acc_put, if_pos rfl, if_pos rfl, h.a]
theorem Apt.drop {X Y : MM} (h : Apt X Y) (hX : X.Inv) (hY : Y.Inv) (k : Id32) : Apt (dropX X [97] k) (dropX Y [97] k) := by
  have hB := congrArg Option.isSome (h.l k)
  cases hb : (look Y.G ([97], k)).isSome with
  | false => rw [hb] at hB; rw [dropX_F hb, dropX_F hB]; exact h
  | true =>
    rw [hb] at hB
    rw [dropX_T hb, dropX_T hB]
    refine ⟨fun j => ?_, ?_⟩
    · rw [look_drop hX, look_drop hY, h.l j]
    · rw [acc_put, acc_put, if_pos rfl, if_pos rfl, h.a, h.l k]
theorem Apt.quota {X Y : MM} (h : Apt X Y) (n : Int) : Apt (quotaX X [97] n) (quotaX Y [97] n) := by
  refine ⟨h.l, ?_⟩
  rw [quotaX, quotaX, acc_put, acc_put, if_pos rfl, if_pos rfl, h.a]
end Go.Proofs.Ytncmcgcilijfkaa
namespace Go.Proofs.Ytncmcgcilijfkaa
open Go Go.ChangeShapes Go.WideShapes Go.ChangeAt Go.RowKit Go.Deep Go.ChangeMaps
set_option maxRecDepth 100000
section
variable {H : Type} {enc : TypeId × Value → H} {W : World} {base : Nat} {spare : Nat → Bool} {held : Bool}
theorem Gl.ok_nil {α : Type} {enc : α → List Value} {sz : Nat} (w : World) : (⟨none, 0, 0, []⟩ : Gl α).ok enc sz w := ⟨.inl rfl, rfl, Nat.le_refl _, Nat.zero_le _, fun c hc => (by cases hc)⟩
theorem open_u8v {fuel : Nat} {cs : List Value} {x : DataW H × List MemPlace} {t : TypeId} (ht : Try.prog.underlying t = some (.int .u8)) (h : DataW.trod enc Try.prog W base spare held fuel t cs = some x) : ∃ u : UInt8, cs = [V8 u] := by
  obtain ⟨n, rfl, _, hw⟩ := DataW.trod_int ht h
  exact ⟨byteOf (.int .u8 n), by rw [byteOf_V8 hw]⟩
theorem open_rowsP {P : Program} {α : Type} [Inhabited α] {p : α → Prop} {en : α → List Value} {sz : Nat} {t e : TypeId} {fuel : Nat} {cs : List Value} {x : DataW H × List MemPlace} (ht : P.underlying t = some (.slice e)) (hsz : P.cellsOf e = sz) (hz : 0 < sz)
    (hrow : ∀ (fuel : Nat) (cs : List Value) (x : DataW H × List MemPlace), DataW.trod enc P W base spare held fuel e cs = some x → ∃ c : α, cs = en c ∧ (en c).length = sz ∧ p c)
    (h : DataW.trod enc P W base spare held fuel t cs = some x) : ∃ g : Gl α, cs = [g.v] ∧ g.ok en sz W ∧ ∀ c ∈ g.l, p c := by
  rcases DataW.trod_slice ht h with ⟨rfl, _⟩ | ⟨a, len, cap, elems, rest, n, _, rfl, _, _, hl, hm, hlen, hel, _, _⟩
  · exact ⟨⟨none, 0, 0, []⟩, rfl, Gl.ok_nil _, fun _ h => by cases h⟩
  · have hs : ∀ i, i < len → ∃ c : α, (∀ j v, (en c)[j]? = some v → W.cell? (a.add (i * sz + j)) = some v) ∧ (en c).length = sz ∧ p c := by
      intro i hi
      have h1 := hel i hi
      rw [List.getElem?_eq_getElem (by omega), hsz] at h1
      obtain ⟨cs, hcs, htr⟩ := Option.bind_eq_some_iff.1 h1
      obtain ⟨c, rfl, hc⟩ := hrow _ _ _ htr
      refine ⟨c, fun j v hv => ?_, hc⟩
      have hlt : j < sz := by rw [← hc.1]; exact (List.getElem?_eq_some_iff.1 hv).1
      obtain ⟨_, _, hq⟩ := World.cells?_some hcs
      have := hq j hlt
      rw [hv, Addr.add_add] at this
      exact this
    obtain ⟨F, hF⟩ := choose_lt (α := α) (p := fun i c => (∀ j v, (en c)[j]? = some v → W.cell? (a.add (i * sz + j)) = some v) ∧ (en c).length = sz ∧ p c) hs
    have hsz' : ∀ c ∈ (List.range len).map F, (en c).length = sz := by
      intro c hc
      simp only [List.mem_map, List.mem_range] at hc
      obtain ⟨i, hi, rfl⟩ := hc
      exact (hF i hi).2.1
    have hall : ∀ c ∈ (List.range len).map F, p c := by
      intro c hc
      simp only [List.mem_map, List.mem_range] at hc
      obtain ⟨i, hi, rfl⟩ := hc
      exact (hF i hi).2.2
    refine ⟨⟨some a, len, cap, (List.range len).map F⟩, rfl, ⟨rd_of_cells fun i v hv => ?_, by simp, hl, hm, hsz'⟩, hall⟩
    have hlt : i < len * sz := by
      have := (List.getElem?_eq_some_iff.1 hv).1
      rw [flat_len hsz'] at this; simpa using this
    have hq : i / sz < len := Nat.div_lt_of_lt_mul (by rw [Nat.mul_comm]; exact hlt)
    have hk : ((List.range len).map F)[i / sz]? = some (F (i / sz)) := by simp [hq]
    have hrow' := flat_at hsz' hk
    have hv' : (en (F (i / sz)))[i % sz]? = some v := by
      rw [← hrow', List.getElem?_take_of_lt (Nat.mod_lt _ hz), List.getElem?_drop, Nat.div_add_mod']
      exact hv
    have := (hF (i / sz) hq).1 _ _ hv'
    rwa [Nat.div_add_mod'] at this
instance : Inhabited OpM := ⟨⟨0, [], 0, 0⟩⟩
theorem cellsOpM : Try.prog.cellsOf 30 = 4 := by kernel_rfl
theorem trod_opm (fuel : Nat) (cs : List Value) (x : DataW H × List MemPlace) (h : DataW.trod enc Try.prog W base spare held fuel 30 cs = some x) :
    ∃ c : OpM, cs = opE c ∧ (opE c).length = 4 ∧ c.n ≤ 9223372036854775807 := by
  obtain ⟨xs, n, _, _, hl, hx, hi⟩ := DataW.trod_struct Try.underlying30 h
  have hs : ∀ i, i < 4 → ∃ y, xs[i]? = some y := fun i hi => ⟨_, List.getElem?_eq_getElem (by rw [hx]; exact hi)⟩
  obtain ⟨y0, e0⟩ := hs 0 (by decide)
  obtain ⟨y1, e1⟩ := hs 1 (by decide)
  obtain ⟨y2, e2⟩ := hs 2 (by decide)
  obtain ⟨y3, e3⟩ := hs 3 (by decide)
  have h0 := (hi 0 _ rfl).trans e0
  have h1 := (hi 1 _ rfl).trans e1
  have h2 := (hi 2 _ rfl).trans e2
  have h3 := (hi 3 _ rfl).trans e3
  obtain ⟨a0, q0, _, w0⟩ := DataW.trod_int (t := 3) (k := .i64) (by kernel_rfl) h0
  obtain ⟨a1, q1, _, _⟩ := DataW.trod_string (t := 9) (by kernel_rfl) h1
  obtain ⟨a2, q2⟩ := open_u8v (t := 5) (by kernel_rfl) h2
  obtain ⟨a3, q3, _, w3⟩ := DataW.trod_int (t := 2) (k := .i64) (by kernel_rfl) h3
  have f1 : Try.prog.cellsOf 5 = 1 := by kernel_rfl
  have f2 : Try.prog.cellsOf 9 = 1 := by kernel_rfl
  have f3 : Try.prog.cellsOf 3 = 1 := by kernel_rfl
  have f4 : Try.prog.cellsOf 2 = 1 := by kernel_rfl
  replace q0 : (cs.drop 0).take (Try.prog.cellsOf 3) = _ := q0
  rw [f3] at q0
  replace q1 : (cs.drop 1).take (Try.prog.cellsOf 9) = _ := q1
  rw [f2] at q1
  replace q2 : (cs.drop 2).take (Try.prog.cellsOf 5) = _ := q2
  rw [f1] at q2
  replace q3 : (cs.drop 3).take (Try.prog.cellsOf 2) = _ := q3
  rw [f4] at q3
  rw [cellsOpM] at hl
  have s : ∀ k v, (cs.drop k).take 1 = [v] → cs.drop k = v :: cs.drop (k + 1) := fun k v h => by
    have := List.take_append_drop 1 (cs.drop k)
    rw [h, List.drop_drop] at this
    exact this.symm
  refine ⟨⟨a0, a1.data.toList, a2, a3⟩, ?_, rfl, (bounds_i64 w3).2⟩
  have z : cs.drop 0 = [VI a0, .string a1, V8 a2, VI a3] := by
    rw [s 0 _ q0, s (0 + 1) _ q1, s (0 + 1 + 1) _ q2, s (0 + 1 + 1 + 1) _ q3, List.drop_of_length_le (by omega)]
  rw [List.drop_zero] at z
  exact z
theorem open_opms {base0 : Nat} {v : Value} {d : DataW H} {p : List MemPlace} (hval : Value.okWide Try.prog W .any base0 22 v) (h : DataW.Trod enc Try.prog W base spare held 22 v d p) :
    ∃ g : Gl OpM, v = g.v ∧ g.ok opE 4 W ∧ ∀ c ∈ g.l, c.n ≤ 9223372036854775807 := by
  obtain ⟨a, len, cap, rfl⟩ := okWide_slice Try.underlying22 hval
  obtain ⟨fuel, hf⟩ := h
  obtain ⟨g, hg, hok⟩ := open_rowsP Try.underlying22 cellsOpM (by decide) trod_opm hf
  refine ⟨g, ?_, hok⟩
  simpa [Value.cells] using hg
end
end Go.Proofs.Ytncmcgcilijfkaa
namespace Go.Proofs.Ytncmcgcilijfkaa
open Go
set_option maxRecDepth 100000
theorem place_ret (w : World) (k n : Int) (hn : 1 ≤ n) (hm : n ≤ 4611686018427387904) : Ret Try.prog 16 [VI k, VI n] w fun v w' => ∃ m : Nat, v = VI (m : Int) ∧ (m : Int) < n ∧ w' = w := by
  refine ret_mk Try.func16 rfl Try.ntmps16 (by simp) ?_
  have hb := tmod_lt k n (by omega)
  obtain ⟨r, hr⟩ : ∃ r, k.tmod n = r := ⟨_, rfl⟩
  rw [hr] at hb
  repeat refine c_seq ?_
  refine c_region ?_
  refine l_op (o_as ?_)
  first | refine l_end ?_ | refine l_nil ?_
  repeat refine c_seq ?_
  refine c_region ?_
  refine l_op (o_mv ?_)
  refine l_op (o_bin rfl rfl (fun _ => b_lssB false (decide_eq_false (by omega))) ?_)
  first | refine l_end ?_ | refine l_nil ?_
  repeat refine c_seq ?_
  refine c_no rfl ?_
  refine c_skip ?_
  repeat refine c_seq ?_
  refine c_region ?_
  refine l_op (o_mv ?_)
  refine l_op (o_mv ?_)
  refine l_op (o_bin (v := VI r) rfl rfl (fun _ => by rw [← hr]; exact b_remT (by omega)) ?_)
  refine l_op (o_as ?_)
  first | refine l_end ?_ | refine l_nil ?_
  by_cases h0 : r < 0
  · skip
    repeat refine c_seq ?_
    refine c_region ?_
    refine l_op (o_mv ?_)
    refine l_op (o_bin rfl rfl (fun _ => b_lssB true (decide_eq_true h0)) ?_)
    first | refine l_end ?_ | refine l_nil ?_
    repeat refine c_seq ?_
    refine c_yes rfl ?_
    repeat refine c_seq ?_
    refine c_region ?_
    refine l_op (o_mv ?_)
    refine l_op (o_mv ?_)
    refine l_op (o_bin rfl rfl (fun _ => b_add (by omega) (by omega)) ?_)
    refine l_op (o_as ?_)
    first | refine l_end ?_ | refine l_nil ?_
    repeat refine c_seq ?_
    refine c_region ?_
    refine l_op (o_mv ?_)
    refine l_op (o_as ?_)
    first | refine l_end ?_ | refine l_nil ?_
    refine c_ret (e_ret1 (v := VI ((r + n).toNat : Int)) Try.results16 ?_ ⟨_, rfl, (r + n).toNat, rfl, by omega, rfl⟩)
    have e : ((r + n).toNat : Int) = r + n := by omega
    rw [e]; rfl
  · skip
    repeat refine c_seq ?_
    refine c_region ?_
    refine l_op (o_mv ?_)
    refine l_op (o_bin rfl rfl (fun _ => b_lssB false (decide_eq_false h0)) ?_)
    first | refine l_end ?_ | refine l_nil ?_
    repeat refine c_seq ?_
    refine c_no rfl ?_
    refine c_skip ?_
    repeat refine c_seq ?_
    refine c_region ?_
    refine l_op (o_mv ?_)
    refine l_op (o_as ?_)
    first | refine l_end ?_ | refine l_nil ?_
    refine c_ret (e_ret1 (v := VI (r.toNat : Int)) Try.results16 ?_ ⟨_, rfl, r.toNat, rfl, by omega, rfl⟩)
    have e : (r.toNat : Int) = r := by omega
    rw [e]; rfl
end Go.Proofs.Ytncmcgcilijfkaa
namespace Go.Proofs.Ytncmcgcilijfkaa
open Go
set_option maxRecDepth 100000
theorem lightM_ret (w0 : World) (g : Gl OpM) (hg : g.ok opE 4 w0) (m : Nat) (_hm : m ≤ 65536) :
    Ret Try.prog 14 [g.v, VI (m : Int)] w0 fun v w' => v = .bool (lightM g.l m) ∧ Hp w0 w' [] [] := by
  refine ret_mk Try.func14 rfl Try.ntmps14 (by simp) ?_
  have H := Hp.refl w0 []
  have hgl := hg.ln
  have hge := hg.le
  have hgx := hg.mx
  have hmL : maxLen = 9223372036854775807 := rfl
  repeat refine c_seq ?_
  refine c_region ?_
  refine l_op (o_val (r_as) ?_)
  first | refine l_end ?_ | refine l_nil ?_
  repeat refine c_seq ?_
  refine c_region ?_
  refine l_op (o_val (r_mv) ?_)
  refine l_op (o_val (r_lens el22 rfl) ?_)
  refine l_op (o_val (r_mv) ?_)
  refine l_op (o_val (r_bin (a := (g.len : Int)) (b := (m : Int)) rfl rfl (fun _ => b_gtr)) ?_)
  first | refine l_end ?_ | refine l_nil ?_
  by_cases hc1 : (m : Int) < (g.len : Int)
  ·
   repeat refine c_seq ?_
   refine c_yes (by exact congrArg Value.bool (decide_eq_true hc1)) ?_
   repeat refine c_seq ?_
   refine c_region ?_
   refine l_op (o_val (r_as) ?_)
   first | refine l_end ?_ | refine l_nil ?_
   refine c_ret ?_
   try dsimp only [Exit.then, Exit.inBlock]
   refine e_ret1 (v := .bool false) Try.results14 rfl ?_
   refine ⟨_, rfl, ?_⟩
   refine ⟨?_, H⟩
   have e : lightM g.l m = false := Bool.eq_false_iff.2 fun h => by
     have h2 := ((lightM_iff _ _).1 h).1
     omega
   rw [e]
  ·
   repeat refine c_seq ?_
   refine c_no (by exact congrArg Value.bool (decide_eq_false hc1)) ?_
   refine c_skip ?_
   repeat refine c_seq ?_
   refine c_region ?_
   refine l_op (o_val (r_as) ?_)
   first | refine l_end ?_ | refine l_nil ?_
   repeat refine c_seq ?_
   refine c_block ?_
   repeat refine c_seq ?_
   refine c_loop (fun (i : Nat) => [(0, g.v), (5, VI (i : Int))])
     (fun (i : Nat) w => (i ≤ g.len ∧ ∀ (j : Nat) (x : OpM), j < i → g.l[j]? = some x → x.who.length ≤ 100) ∧ Hp w0 w [] ([]))
     (fun (i : Nat) => g.len - i) 0 ⟨rfl, rfl, trivial⟩ ⟨⟨Nat.zero_le _, fun j x hj => absurd hj (by omega)⟩, H⟩ ?_
   clear H
   rintro i τ w ⟨⟨hi, hall⟩, H⟩
   repeat refine c_seq ?_
   refine c_region ?_
   refine l_op (o_val (r_mv) ?_)
   refine l_op (o_val (r_mv) ?_)
   refine l_op (o_val (r_lens el22 rfl) ?_)
   refine l_op (o_val (r_bin (a := (i : Int)) (b := (g.len : Int)) rfl rfl (fun _ => b_lss)) ?_)
   first | refine l_end ?_ | refine l_nil ?_
   by_cases hc2 : (i : Int) < (g.len : Int)
   ·
    repeat refine c_seq ?_
    refine c_yes (by exact congrArg Value.bool (decide_eq_true hc2)) ?_
    refine c_skip ?_
    repeat refine c_seq ?_
    refine c_block ?_
    repeat refine c_seq ?_
    refine c_region ?_
    refine l_op (o_val (r_mv) ?_)
    refine l_op (o_val (r_mv) ?_)
    have ah5 := ((hg.up H)).addr (by decide) (by first | omega | (dsimp only; omega))
    obtain ⟨ab3, ao4, ah5⟩ := ah5
    refine l_op (o_val (r_isN i rfl rfl el22 ah5 (by omega) (by (try simp only [Sl.cut]); omega)) ?_)
    refine l_op (o_val (r_fa rfl fo30_1) ?_)
    have he7 : ∃ c, g.l[i]? = some c := ⟨_, List.getElem?_eq_getElem (by have := ((hg.up H)).ln; (try dsimp only at this ⊢); omega)⟩
    obtain ⟨e6, he7⟩ := he7
    have hez8 := ((hg.up H)).sz e6 (List.mem_of_getElem? he7)
    refine l_op (o_val (r_ldFld (v := .string ⟨(e6.who).toArray⟩) (s := g) (k := i) (off := 1) (hg.up H) ah5 rfl ct9 he7 (by decide) rfl) ?_)
    refine l_op (o_val (r_lenstr (s := ⟨(e6.who).toArray⟩) Try.underlying9 rfl) ?_)
    refine l_op (o_val (r_bin (a := ((e6.who).length : Int)) (b := 100) rfl rfl (fun _ => b_gtr)) ?_)
    first | refine l_end ?_ | refine l_nil ?_
    by_cases hc9 : 100 < ((e6.who).length : Int)
    ·
     repeat refine c_seq ?_
     refine c_yes (by exact congrArg Value.bool (decide_eq_true hc9)) ?_
     repeat refine c_seq ?_
     refine c_region ?_
     refine l_op (o_val (r_as) ?_)
     first | refine l_end ?_ | refine l_nil ?_
     refine c_ret ?_
     try dsimp only [Exit.then, Exit.inBlock]
     refine e_ret1 (v := .bool false) Try.results14 rfl ?_
     refine ⟨_, rfl, ?_⟩
     refine ⟨?_, H⟩
     have e : lightM g.l m = false := Bool.eq_false_iff.2 fun h => by
       have h2 := ((lightM_iff _ _).1 h).2 _ (List.mem_of_getElem? he7)
       omega
     rw [e]
    ·
     repeat refine c_seq ?_
     refine c_no (by exact congrArg Value.bool (decide_eq_false hc9)) ?_
     refine c_skip ?_
     repeat refine c_seq ?_
     refine c_region ?_
     refine l_op (o_val (r_mv) ?_)
     refine l_op (o_val (r_bin (a := (i : Int)) (b := 1) rfl rfl (fun _ => b_add (by omega) (by omega))) ?_)
     refine l_op (o_val (r_as) ?_)
     first | refine l_end ?_ | refine l_nil ?_
     refine round_end (i + 1) ?_ ?_ ?_
     · exact ⟨rfl, show VI ((i : Int) + 1) = VI ((i + 1 : Nat) : Int) from congrArg VI (by omega), trivial⟩
     · refine ⟨?_, ?_⟩
       · try dsimp only
         exact ⟨by omega, fun j x hj hjx => by
           by_cases hji : j < i
           · exact hall j x hji hjx
           · have e : j = i := by omega
             rw [e, he7] at hjx
             cases hjx
             omega⟩
       · exact H
     · show g.len - (i + 1 : Nat) < g.len - i; omega
   ·
    repeat refine c_seq ?_
    refine c_no (by exact congrArg Value.bool (decide_eq_false hc2)) ?_
    refine c_exit ?_
    repeat refine c_seq ?_
    refine c_region ?_
    refine l_op (o_val (r_as) ?_)
    first | refine l_end ?_ | refine l_nil ?_
    refine c_ret ?_
    try dsimp only [Exit.then, Exit.inBlock]
    refine e_ret1 (v := .bool true) Try.results14 rfl ?_
    refine ⟨_, rfl, ?_⟩
    refine ⟨?_, H⟩
    rw [(lightM_iff _ _).2 ⟨by omega, fun x hx => by
      obtain ⟨j, hj⟩ := List.getElem?_of_mem hx
      exact hall j x (by have := (List.getElem?_eq_some_iff.1 hj).1; omega) hj⟩]
theorem begunM_ret (w0 : World) :
    Ret Try.prog 13 [] w0 fun v w' => v = .bool true ∧ Hp w0 w' [] [] := by
  refine ret_mk Try.func13 rfl Try.ntmps13 (by simp) ?_
  have H := Hp.refl w0 []
  have hG0 : MW.mt.X.G.length = 0 := rfl
  repeat refine c_seq ?_
  refine c_region ?_
  refine l_op (o_val (r_as) ?_)
  first | refine l_end ?_ | refine l_nil ?_
  repeat refine c_seq ?_
  refine c_region ?_
  refine l_op (o_callR Try.func15 rfl rfl rfl (mnew_ret _) ?_)
  rintro _ w ⟨nb1, nb2, nb3, rfl, Hc⟩
  replace H : Hp _ w _ ([.obj nb2 (mobj kT MW.mt.Mh MW.mt.c1), .obj nb3 (mobj kS MW.mt.Ma MW.mt.c2), .blk nb1 ([.map (some nb2), .map (some nb3)]) 54]) := H.call Hc
  clear Hc
  refine l_op (o_val (r_as) ?_)
  first | refine l_end ?_ | refine l_nil ?_
  repeat refine c_seq ?_
  refine c_region ?_
  refine l_op (o_val (r_mv) ?_)
  refine l_op (o_callR Try.func19 rfl rfl rfl (quota_m _ _ _ _ MW.mt (mst_of H (i := 2) (j := 0) (k := 1) rfl rfl rfl (by decide) (by decide) (by decide) MW.mt_ok.fh MW.mt_ok.fa MW.mt_ok.oh MW.mt_ok.oa) MW.mt_ok ([97] : List UInt8) 5 (by omega)) ?_)
  rintro _ w ⟨rfl, z4, hzx5, hzo6, Hc⟩
  replace H := (met_at H (i := 2) (j := 0) (k := 1) rfl rfl rfl (by decide) (by decide) (by decide) Hc)
  clear Hc
  replace H : Hp _ w _ ([.obj nb2 (mobj kT z4.Mh z4.c1), .obj nb3 (mobj kS z4.Ma z4.c2), _]) := H
  replace hzx5 : z4.X = quotaX MW.mt.X ([97] : List UInt8) 5 := hzx5
  have hzx5l : z4.X.G.length = MW.mt.X.G.length := by rw [hzx5]; rfl
  first | refine l_end ?_ | refine l_nil ?_
  repeat refine c_seq ?_
  refine c_region ?_
  refine l_op (o_val (r_mv) ?_)
  refine l_op (o_val (r_bld' (cells := ((((1 : UInt8) :: List.replicate 31 (0 : UInt8))).map V8).toArray) (pv := [(0, V8 (1 : UInt8))]) bd36 rfl rfl) ?_)
  refine l_op (o_callR Try.func17 rfl rfl rfl (add_m _ _ _ _ z4 (mst_of H (i := 2) (j := 0) (k := 1) rfl rfl rfl (by decide) (by decide) (by decide) hzo6.fh hzo6.fa hzo6.oh hzo6.oa) hzo6 (by omega) ([97] : List UInt8) (idB (1 : UInt8)).1 (idB (1 : UInt8)).2 3) ?_)
  rintro _ w ⟨rfl, z7, hzx8, hzo9, Hc⟩
  replace H := (met_at H (i := 2) (j := 0) (k := 1) rfl rfl rfl (by decide) (by decide) (by decide) Hc)
  clear Hc
  replace H : Hp _ w _ ([.obj nb2 (mobj kT z7.Mh z7.c1), .obj nb3 (mobj kS z7.Ma z7.c2), _]) := H
  replace hzx8 : z7.X = addX z4.X ([97] : List UInt8) (idB (1 : UInt8)) 3 := hzx8
  have hzx8l := add_len z4.X ([97] : List UInt8) (idB (1 : UInt8)) 3
  rw [← hzx8] at hzx8l
  refine l_op (o_val (r_mv) ?_)
  refine l_op (o_val (r_ext rfl rfl) ?_)
  have hk10 : (addB z4.X ([97] : List UInt8) (idB (1 : UInt8)) 3) = true := (by simp only [hzx5]; rfl)
  refine l_op (o_val (r_ext rfl rfl) ?_)
  refine l_op (o_val (r_as) ?_)
  refine l_op (o_val (r_as) ?_)
  first | refine l_end ?_ | refine l_nil ?_
  repeat refine c_seq ?_
  refine c_region ?_
  refine l_op (o_val (r_mv) ?_)
  refine l_op (o_val (r_bld' (cells := ((((2 : UInt8) :: List.replicate 31 (0 : UInt8))).map V8).toArray) (pv := [(0, V8 (2 : UInt8))]) bd36 rfl rfl) ?_)
  refine l_op (o_callR Try.func17 rfl rfl rfl (add_m _ _ _ _ z7 (mst_of H (i := 2) (j := 0) (k := 1) rfl rfl rfl (by decide) (by decide) (by decide) hzo9.fh hzo9.fa hzo9.oh hzo9.oa) hzo9 (by omega) ([97] : List UInt8) (idB (2 : UInt8)).1 (idB (2 : UInt8)).2 3) ?_)
  rintro _ w ⟨rfl, z11, hzx12, hzo13, Hc⟩
  replace H := (met_at H (i := 2) (j := 0) (k := 1) rfl rfl rfl (by decide) (by decide) (by decide) Hc)
  clear Hc
  replace H : Hp _ w _ ([.obj nb2 (mobj kT z11.Mh z11.c1), .obj nb3 (mobj kS z11.Ma z11.c2), _]) := H
  replace hzx12 : z11.X = addX z7.X ([97] : List UInt8) (idB (2 : UInt8)) 3 := hzx12
  have hzx12l := add_len z7.X ([97] : List UInt8) (idB (2 : UInt8)) 3
  rw [← hzx12] at hzx12l
  refine l_op (o_val (r_mv) ?_)
  refine l_op (o_val (r_ext rfl rfl) ?_)
  refine l_op (o_val (r_ext rfl rfl) ?_)
  refine l_op (o_val (r_as) ?_)
  refine l_op (o_val (r_as) ?_)
  first | refine l_end ?_ | refine l_nil ?_
  repeat refine c_seq ?_
  refine c_region ?_
  refine l_op (o_val (r_mv) ?_)
  refine l_op (o_val (r_mv) ?_)
  refine l_yes rfl rfl (by exact congrArg Value.bool hk10) (o_val (r_mv) ?_)
  refine l_yes rfl rfl (by exact congrArg Value.bool hk10) (o_val (r_bin (a := addE z4.X ([97] : List UInt8) (idB (1 : UInt8)) 3) (b := 0) rfl rfl (fun _ => b_eqlB true (decide_eq_true (by simp only [hzx5]; rfl)))) ?_)
  refine l_op (o_val (r_pick (b := true) (congrArg Value.bool hk10)) ?_)
  refine l_op (o_val (r_mv) ?_)
  refine l_yes rfl rfl rfl (o_val (r_mv) ?_)
  refine l_yes rfl rfl rfl (o_val (r_bin (a := addE z7.X ([97] : List UInt8) (idB (2 : UInt8)) 3) (b := 16) rfl rfl (fun _ => b_eqlB true (decide_eq_true (by simp only [hzx8, hzx5]; rfl)))) ?_)
  refine l_op (o_val (r_pick rfl) ?_)
  refine l_op (o_val (r_mv) ?_)
  refine l_yes rfl rfl rfl (o_val (r_mv) ?_)
  refine l_yes rfl rfl rfl (o_callR Try.func20 rfl rfl rfl (used_m _ _ _ _ z11 (mst_of H (i := 2) (j := 0) (k := 1) rfl rfl rfl (by decide) (by decide) (by decide) hzo13.fh hzo13.fa hzo13.oh hzo13.oa) hzo13 ([97] : List UInt8)) ?_)
  rintro _ w ⟨rfl, z14, hzx15, hzo16, Hc⟩
  replace H := (met_at H (i := 2) (j := 0) (k := 1) rfl rfl rfl (by decide) (by decide) (by decide) Hc)
  clear Hc
  replace H : Hp _ w _ ([.obj nb2 (mobj kT z14.Mh z14.c1), .obj nb3 (mobj kS z14.Ma z14.c2), _]) := H
  replace hzx15 : z14.X = z11.X := hzx15
  have hzx15l : z14.X.G.length = z11.X.G.length := by rw [hzx15]
  refine l_yes rfl rfl rfl (o_val (r_bin (a := (z11.X.acc ([97] : List UInt8)).used) (b := 3) rfl rfl (fun _ => b_eqlB true (decide_eq_true (by simp only [hzx12, hzx8, hzx5]; rfl)))) ?_)
  refine l_op (o_val (r_pick rfl) ?_)
  refine l_op (o_val (r_as) ?_)
  first | refine l_end ?_ | refine l_nil ?_
  refine c_ret ?_
  try dsimp only [Exit.then, Exit.inBlock]
  refine e_ret1 (v := .bool true) Try.results13 rfl ?_
  refine ⟨_, rfl, ?_⟩
  exact ⟨rfl, H.sub (List.nil_sublist _)⟩
end Go.Proofs.Ytncmcgcilijfkaa
namespace Go.Proofs.Ytncmcgcilijfkaa
open Go Go.MapKept
set_option linter.unusedSectionVars false
section
variable {κ α : Type} [DecidableEq κ] {P : Program} {Q : Exit → Act → World → Prop} {n : Nat} {σ : Nat → Value} {w w0 : World} {K : Act → World → Prop}
  {ty : TypeId} {pos : String} {aft : Array Edge} {g : Option (Nat × Bool)} {d : Nat} {t kt et : TypeId} {x : Operand} {S : List Nat} {L : List Ch}
/-- an iterator: which keys it has met. -/
def itO (b : Nat) (M : List (κ × Value × Nat)) (c : Nat) (vis : List κ) : Obj := .mapIter (some b) c (vis.map (mborn M)).toArray c
theorem o_range {kv : κ → Value} {M : List (κ × Value × Nat)} {c i b : Nat} (H : Hp w0 w S L) (hi : L[i]? = some (.obj b (mobj kv M c))) (hu : P.underlying t = some (.map kt et)) (hx : ev n σ x = .map (some b))
    (h : ∀ r w', Hp w0 w' S (L ++ [.obj r (itO b M c [])]) → w0.heap.size ≤ r → K (mk n (up σ d (.pointer (some ⟨r, 0, none⟩)))) w') : Oper.wp P ⟨some d, .range t x, ty, pos, aft, g⟩ (mk n σ) w K Q := by
  have hb : w.heap[b]? = some (.map (M.map (ment kv)).toArray c) := H.has _ (List.mem_of_getElem? hi)
  have hg := run_range_map w t kt et b _ c hu hb
  refine o_val (v := .pointer (some ⟨w.heap.size, 0, none⟩)) (w' := w.alloc (.mapIter (some b) c #[] c)) ?_ (h w.heap.size _ (H.new _ (.obj w.heap.size (itO b M c [])) rfl (heap_alloc_new' w _)) H.size)
  simp only [execOp, hx, Sem.run_bind, hg, Result.andThen_ok]
  rfl
theorem mget_mem {M : List (κ × Value × Nat)} {k : κ} {v : Value} (h : mget M k = some v) : ∃ x ∈ M, x.1 = k ∧ x.2.1 = v ∧ x.2.2 = mborn M k := by
  induction M with
  | nil => cases h
  | cons y M ih =>
    rw [mget] at h
    by_cases e : k = y.1
    · rw [if_pos e] at h; cases h
      exact ⟨y, List.mem_cons_self .., e.symm, rfl, by rw [mborn, if_pos e]⟩
    · rw [if_neg e] at h
      obtain ⟨x, hx, h1, h2, h3⟩ := ih h
      exact ⟨x, List.mem_cons_of_mem _ hx, h1, h2, by rw [mborn, if_neg e]; exact h3⟩
theorem mget_of {M : List (κ × Value × Nat)} (hn : (M.map (·.1)).Nodup) {x : κ × Value × Nat} (h : x ∈ M) : mget M x.1 = some x.2.1 ∧ mborn M x.1 = x.2.2 := by
  induction M with
  | nil => cases h
  | cons y M ih =>
    rw [List.map_cons, List.nodup_cons] at hn
    rw [mget, mborn]
    rcases List.mem_cons.1 h with rfl | h
    · rw [if_pos rfl, if_pos rfl]; exact ⟨rfl, rfl⟩
    · have hne : x.1 ≠ y.1 := fun e => hn.1 (by rw [← e]; exact List.mem_map.2 ⟨x, h, rfl⟩)
      rw [if_neg hne, if_neg hne]; exact ih hn.2 h
theorem born_inj {M : List (κ × Value × Nat)} (hb : (M.map (·.2.2)).Nodup) {x y : κ × Value × Nat} (hx : x ∈ M) (hy : y ∈ M) (e : x.2.2 = y.2.2) : x = y := by
  induction M with
  | nil => cases hx
  | cons z M ih =>
    rw [List.map_cons, List.nodup_cons] at hb
    rcases List.mem_cons.1 hx with h1 | hx
    · rcases List.mem_cons.1 hy with h2 | hy
      · rw [h1, h2]
      · exact absurd (List.mem_map.2 ⟨y, hy, by rw [← e, h1]⟩) hb.1
    · rcases List.mem_cons.1 hy with h2 | hy
      · exact absurd (List.mem_map.2 ⟨x, hx, by rw [e, h2]⟩) hb.1
      · exact ih hb.2 hx hy
theorem o_next {kv : κ → Value} {enc : α → Value} {M : List (κ × Value × Nat)} {F : κ → Option α} {c i j b r : Nat} {vis : List κ} (H : Hp w0 w S L) (hi : L[i]? = some (.obj b (mobj kv M c))) (hj : L[j]? = some (.obj r (itO b M c vis)))
    (hM : MOk M c) (hF : MIs enc M F) (hv : ∀ k ∈ vis, (F k).isSome = true) (hx : ev n σ x = .pointer (some ⟨r, 0, none⟩))
    (h1 : (∀ k, (F k).isSome = true → k ∈ vis) → ∀ w', Hp w0 w' S L → K (mk n (up σ d (.tuple #[.bool false]))) w')
    (h2 : ∀ k a, F k = some a → k ∉ vis → ∀ w', Hp w0 w' S (L.set j (.obj r (itO b M c (vis ++ [k])))) → K (mk n (up σ d (.tuple #[.bool true, kv k, enc a]))) w') :
    Oper.wp P ⟨some d, .next x false, ty, pos, aft, g⟩ (mk n σ) w K Q := by
  have hb : w.heap[b]? = some (.map (M.map (ment kv)).toArray c) := H.has _ (List.mem_of_getElem? hi)
  have hr : w.heap[r]? = some (.mapIter (some b) c (vis.map (mborn M)).toArray c) := H.has _ (List.mem_of_getElem? hj)
  have hin : ∀ k ∈ vis, ∃ y ∈ M, y.1 = k ∧ y.2.2 = mborn M k := fun k hk => by
    have h3 := hv k hk
    rw [← hF.isSome] at h3
    obtain ⟨v, hv'⟩ := Option.isSome_iff_exists.1 h3
    obtain ⟨y, hy, e1, _, e3⟩ := mget_mem hv'
    exact ⟨y, hy, e1, e3⟩
  rcases run_next_at (P := P) w ty r b c c _ _ c hr hb (fun y hy => by
      simp only [List.mem_map] at hy
      obtain ⟨z, hz, rfl⟩ := hy
      exact hM.old z hz) (Nat.le_refl c) with ⟨h0, hrun⟩ | ⟨e, he, w1, hw1, hrun⟩
  · refine o_val (v := .tuple #[.bool false]) (w' := w) ?_ (h1 (fun k hk => ?_) w H)
    · simp only [execOp, hx, Sem.run_bind, hrun, Result.andThen_ok]; rfl
    · rw [← hF.isSome] at hk
      obtain ⟨v, hv'⟩ := Option.isSome_iff_exists.1 hk
      obtain ⟨y, hy, e1, _, e3⟩ := mget_mem hv'
      have hemp := Array.eq_empty_of_size_eq_zero h0
      rw [leftOf, Array.filter_eq_empty_iff] at hemp
      have := hemp (ment kv y) (by simp only [List.mem_toArray]; exact List.mem_map.2 ⟨y, hy, rfl⟩)
      simp only [ment, Bool.not_eq_true, Bool.not_eq_false', List.contains_toArray, List.contains_iff_mem, List.mem_map] at this
      obtain ⟨k', hk', e4⟩ := this
      obtain ⟨z, hz, f1, f3⟩ := hin k' hk'
      have := born_inj hM.born hz hy (by rw [f3, e4])
      rw [← e1, ← this, f1]; exact hk'
  · have hsp : ∃ y ∈ M, e = ment kv y ∧ ∀ k ∈ vis, mborn M k ≠ y.2.2 := by
      rw [leftOf] at he
      simp only [Array.mem_toList_iff, Array.mem_filter, List.mem_toArray, List.mem_map] at he
      obtain ⟨⟨y, hy, rfl⟩, hc⟩ := he
      refine ⟨y, hy, rfl, fun k hk e => ?_⟩
      have : ((vis.map (mborn M)).toArray.contains (ment kv y).born) = true := by
        simp only [List.contains_toArray, List.contains_iff_mem, List.mem_map]
        exact ⟨k, hk, e⟩
      rw [this] at hc; cases hc
    obtain ⟨y, hy, rfl, hny⟩ := hsp
    obtain ⟨g1, g2⟩ := mget_of hM.keys hy
    have hFa : ∃ a, F y.1 = some a ∧ enc a = y.2.1 := by
      have := hF y.1
      rw [g1] at this
      cases hf : F y.1 with
      | none => rw [hf] at this; cases this
      | some a => rw [hf] at this; exact ⟨a, rfl, (Option.some.inj this).symm⟩
    obtain ⟨a, ha, hea⟩ := hFa
    have hH1 : Hp w0 w1 S L := by
      rcases hw1 with rfl | rfl
      · exact H
      · exact H.drew
    have hr1 : w1.heap[r]? = some (.mapIter (some b) c (vis.map (mborn M)).toArray c) := by rcases hw1 with rfl | rfl <;> exact hr
    have hito : (Obj.mapIter (some b) c ((vis.map (mborn M)).toArray.push (ment kv y).born) c) = itO b M c (vis ++ [y.1]) := by
      rw [itO, List.map_append, List.map_cons, List.map_nil, g2]; simp [ment]
    rw [hito] at hrun
    have hset := heap_set (o' := itO b M c (vis ++ [y.1])) hr1
    refine o_val (v := .tuple #[.bool true, kv y.1, enc a]) (w' := ChangeMaps.setBlock w1 r (itO b M c (vis ++ [y.1]))) ?_ (h2 y.1 a ha (fun hk => hny _ hk g2) _ ?_)
    · simp only [execOp, hx, Sem.run_bind, hrun, Result.andThen_ok, hea]; rfl
    · refine hH1.turn hj (c' := .obj r (itO b M c (vis ++ [y.1]))) hset.1 (fun b' hb' => .inl hb') rfl rfl rfl (by simp [ChangeMaps.setBlock]) (fun b' _ hne => ?_)
      exact hset.2 b' (fun e => hne (by rw [e]; rfl))
theorem r_entry {kv : κ → Value} {enc : α → Value} {M : List (κ × Value × Nat)} {F : κ → Option α} {c i j b r : Nat} {vis : List κ} {k : κ} {a : α} (H : Hp w0 w S L) (hi : L[i]? = some (.obj b (mobj kv M c))) (hj : L[j]? = some (.obj r (itO b M c (vis ++ [k]))))
    (hM : MOk M c) (hF : MIs enc M F) (ha : F k = some a) (hx : ev n σ x = .pointer (some ⟨r, 0, none⟩)) :
    (execOp (ev n σ) ⟨some d, .entry x, ty, pos, aft, g⟩).run P w = .ok (.value (.tuple #[kv k, enc a])) w := by
  have hb : w.heap[b]? = some (.map (M.map (ment kv)).toArray c) := H.has _ (List.mem_of_getElem? hi)
  have hr : w.heap[r]? = some (.mapIter (some b) c ((vis ++ [k]).map (mborn M)).toArray c) := H.has _ (List.mem_of_getElem? hj)
  have hg := hF k
  rw [ha] at hg
  obtain ⟨y, hy, e1, e2, e3⟩ := mget_mem hg
  have hrun := run_entry_at (P := P) w r b c ((vis.map (mborn M)).toArray) _ c (ment kv y) (by rw [hr]; simp [ment, e3]) hb (by simp only []; exact List.mem_map.2 ⟨y, hy, rfl⟩) (by
    have := hM.born
    simpa [List.map_map, Function.comp_def, ment] using this)
  simp only [execOp, hx, Sem.run_bind, hrun, Result.andThen_ok, ment, e1, e2]
  rfl
end
end Go.Proofs.Ytncmcgcilijfkaa
namespace Go.Proofs.Ytncmcgcilijfkaa
open Go
/-- C is A, then B at a of b cells, then D. -/
structure Cut3 (C A B D : List Value) (a b : Nat) : Prop where
  e : C = A ++ (B ++ D)
  ha : A.length = a
  hb : B.length = b
section
variable {C A B D V : List Value} {a b : Nat}
theorem Cut3.get {v : Value} (h : Cut3 C A [v] D a 1) : C[a]? = some v := by
  rw [h.e, ← h.ha, List.getElem?_append_right (Nat.le_refl _), Nat.sub_self]; rfl
theorem Cut3.seg (h : Cut3 C A B D a b) : (C.drop a).take b = B := by
  rw [h.e, ← h.ha, ← h.hb, List.drop_left, List.take_left]
theorem Cut3.le (h : Cut3 C A B D a b) : a + b ≤ C.length := by
  rw [h.e, List.length_append, List.length_append, h.ha, h.hb]; omega
theorem Cut3.put (h : Cut3 C A B D a b) : C.take a ++ V ++ C.drop (a + b) = A ++ (V ++ D) := by
  rw [h.e, ← h.ha, ← h.hb, List.take_left, ← List.drop_drop, List.drop_left, List.drop_left, List.append_assoc]
theorem fill_step {places : Nat → Option (Nat × Nat)} {k : Nat} {v : Value} {rest : List (Nat × Value)} (hp : places k = some (a, b)) (h : Cut3 C A B D a b) (hv : v.cells.toList = V) (hl : V.length = b) :
    Instr.fill places C.toArray ((k, v) :: rest) = Instr.fill places (A ++ (V ++ D)).toArray rest := by
  have hs : v.cells.size = b := by rw [← hl, ← hv, Array.length_toList]
  have hn : ¬ ((v.cells.size ≠ b || a + v.cells.size > C.toArray.size) = true) := by
    have := h.le
    simp [hs]; omega
  have h2 : ∀ (vs done zs : List Value), zs.length = vs.length → (vs.zipIdx done.length).foldl (fun (acc : Array Value) (p : Value × Nat) => acc.setIfInBounds (A.length + p.2) p.1) (A ++ done ++ zs ++ D).toArray = (A ++ done ++ vs ++ D).toArray := by
    intro vs
    induction vs with
    | nil => intro done zs hz; have : zs = [] := List.length_eq_zero_iff.1 (by simpa using hz); subst this; simp
    | cons v vs ih =>
      intro done zs hz
      cases zs with
      | nil => simp at hz
      | cons z zs =>
        have := ih (done ++ [v]) zs (by simpa using hz)
        simp only [List.length_append, List.length_singleton, List.append_assoc, List.cons_append, List.nil_append] at this
        rw [List.zipIdx_cons, List.foldl_cons]
        simp only [List.append_assoc, List.cons_append]
        rw [← this]
        congr 1
        simp []
  have h3 := h2 V [] B (by rw [hl, h.hb])
  simp only [Instr.fill, hp]
  rw [if_neg hn]
  simp only [List.append_nil, List.length_nil] at h3
  rw [h.ha] at h3
  have e1 : v.cells.zipIdx.foldl (fun (acc : Array Value) (p : Value × Nat) => acc.setIfInBounds (a + p.2) p.1) C.toArray = (A ++ (V ++ D)).toArray := by
    rw [h.e, ← List.append_assoc, ← List.append_assoc, ← h3]
    have : v.cells.zipIdx = (V.zipIdx 0).toArray := by rw [← hv]; simp [← Array.toList_inj]
    rw [this]; simp
  first | exact congrArg (fun z => Instr.fill places z rest) e1 | (rw [← e1])
inductive Fills (places : Nat → Option (Nat × Nat)) : List Value → List (Nat × Value) → List Value → Prop
  | nil (C : List Value) : Fills places C [] C
  | cons {C A B D V E : List Value} {a b k : Nat} {v : Value} {rest : List (Nat × Value)} : places k = some (a, b) → Cut3 C A B D a b → v.cells.toList = V → V.length = b → Fills places (A ++ (V ++ D)) rest E → Fills places C ((k, v) :: rest) E
theorem Fills.run {places : Nat → Option (Nat × Nat)} {C E : List Value} {pv : List (Nat × Value)} (h : Fills places C pv E) : Instr.fill places C.toArray pv = some E.toArray := by
  induction h with
  | nil C => rfl
  | cons hp hc hv hl _ ih => rw [fill_step hp hc hv hl, ih]
end
section
variable {P : Program} {Q : Exit → Act → World → Prop} {n : Nat} {σ : Nat → Value} {w w0 : World} {K : Act → World → Prop}
  {ty : TypeId} {pos : String} {aft : Array Edge} {g : Option (Nat × Bool)} {d : Nat} {t : TypeId} {x y : Operand} {S : List Nat} {L : List Ch} {C A B D : List Value} {a k : Nat}
theorem r_bldG {parts : Array (Nat × Operand)} {zs : Array Value} {places : Nat → Option (Nat × Nat)} {pv : List (Nat × Value)} {Z E : List Value} (hB : Bld P t zs places) (hz : zs = Z.toArray) (hp0 : pvs n σ parts.toList = pv) (hf : Fills places Z pv E) :
    (execOp (ev n σ) ⟨some d, .build t parts, ty, pos, aft, g⟩).run P w = .ok (.value (.agg E.toArray)) w :=
  r_bld' hB hp0 (by rw [hz]; exact hf.run)
/-- a part of a struct of a slice. -/
theorem r_g1 {α : Type} {enc : α → List Value} {sz : Nat} {s : Gl α} {b o j : Nat} {c : α} {v : Value} (hs : s.ok enc sz w) (ha : s.a = some ⟨b, o, none⟩) (hx : ev n σ x = .pointer (some ⟨b, o + j * sz + a, none⟩)) (ht : cellTy P t = true) (hk : s.l[j]? = some c) (hoff : a < sz) (h : Cut3 (enc c) A [v] D a 1) :
    (execOp (ev n σ) ⟨some d, .load t x, ty, pos, aft, g⟩).run P w = .ok (.value v) w := r_ldFld hs ha hx ht hk hoff h.get
theorem r_gk {α : Type} {enc : α → List Value} {sz : Nat} {s : Gl α} {b o j : Nat} {c : α} (hs : s.ok enc sz w) (ha : s.a = some ⟨b, o, none⟩) (hx : ev n σ x = .pointer (some ⟨b, o + j * sz + a, none⟩)) (ht : rowTy P t = some k) (hk0 : 0 < k) (hk : s.l[j]? = some c) (h : Cut3 (enc c) A B D a k) :
    (execOp (ev n σ) ⟨some d, .load t x, ty, pos, aft, g⟩).run P w = .ok (.value (.agg B.toArray)) w := by
  have hlt : j < s.l.length := (List.getElem?_eq_some_iff.1 hk).1
  have hsz := hs.sz c (List.mem_of_getElem? hk)
  have hle := h.le
  rw [hsz] at hle
  have hrow := flat_at hs.sz hk
  have h2 := r_ldsr (P := P) (w := w) (t := t) (d := d) (ty := ty) (pos := pos) (aft := aft) (g := g) (i := j * sz + a) hs.rd ha (by rw [hx, Nat.add_assoc]) ht hk0 (by
    rw [flat_len hs.sz]
    have : (j + 1) * sz ≤ s.l.length * sz := Nat.mul_le_mul_right _ hlt
    rw [Nat.succ_mul] at this; omega)
  have e : ((s.l.flatMap enc).drop (j * sz + a)).take k = B := by
    rw [← h.seg, ← hrow, ← List.drop_drop, List.drop_take, List.take_take, Nat.min_eq_left (by omega)]
  rwa [e] at h2
/-- an element of one cell. -/
theorem r_gc {α : Type} {enc : α → List Value} {s : Gl α} {b o j : Nat} {c : α} {v : Value} (hs : s.ok enc 1 w) (ha : s.a = some ⟨b, o, none⟩) (hx : ev n σ x = .pointer (some ⟨b, o + j * 1, none⟩)) (ht : cellTy P t = true) (hk : s.l[j]? = some c) (h : enc c = [v]) :
    (execOp (ev n σ) ⟨some d, .load t x, ty, pos, aft, g⟩).run P w = .ok (.value v) w := r_ldFld (off := 0) hs ha hx ht hk (by decide) (by rw [h]; rfl)
end
end Go.Proofs.Ytncmcgcilijfkaa
namespace Go.Proofs.Ytncmcgcilijfkaa
open Go
section
variable {P : Program} {Q : Exit → Act → World → Prop} {n : Nat} {σ : Nat → Value} {w w0 : World} {K : Act → World → Prop}
  {ty : TypeId} {pos : String} {aft : Array Edge} {g : Option (Nat × Bool)} {d : Nat} {t : TypeId} {x y : Operand} {S : List Nat} {L : List Ch} {A B D V : List Value}
theorem flat_split {α : Type} {enc : α → List Value} {sz k : Nat} {c : α} : ∀ {l : List α}, (∀ c ∈ l, (enc c).length = sz) → l[k]? = some c → ∃ R1 R2, l.flatMap enc = R1 ++ (enc c ++ R2) ∧ R1.length = k * sz ∧ ∀ c', (l.set k c').flatMap enc = R1 ++ (enc c' ++ R2) := by
  induction k with
  | zero =>
    intro l hs h
    cases l with
    | nil => cases h
    | cons a l => cases h; exact ⟨[], l.flatMap enc, by simp, by simp, fun c' => by simp⟩
  | succ k ih =>
    intro l hs h
    cases l with
    | nil => cases h
    | cons a l =>
      obtain ⟨R1, R2, h1, h2, h3⟩ := ih (l := l) (fun c hc => hs c (List.mem_cons_of_mem _ hc)) h
      refine ⟨enc a ++ R1, R2, by rw [List.flatMap_cons, h1, List.append_assoc], by rw [List.length_append, h2, hs a (List.mem_cons_self ..), Nat.succ_mul]; omega, fun c' => by rw [List.set_cons_succ, List.flatMap_cons, h3 c', List.append_assoc]⟩
theorem o_stGV {α : Type} {enc : α → List Value} {b o k i off m : Nat} {a : Option Nat} {len cap sz : Nat} {l : List α} {T : TypeId} {c : α} (c' : α) {v : Value} (H : Hp w0 w S L) (hi : L[i]? = some (.own a len cap (l.flatMap enc) T sz)) (hsz : ∀ c ∈ l, (enc c).length = sz)
    (hx : ev n σ x = .pointer (some ⟨b, o + k * sz + off, none⟩)) (ha : hd a = some ⟨b, o, none⟩) (hy : ev n σ y = v) (hv : v.cells.toList = V) (hs : cellSz P t = some m) (hm : V.length = m) (h1 : V.all (·.oneCell') = true) (hk : l[k]? = some c)
    (hc : Cut3 (enc c) A B D off m) (hc' : enc c' = A ++ (V ++ D))
    (h : ∀ w', Hp w0 w' S (L.set i (.own a len cap ((l.set k c').flatMap enc) T sz)) → K (mk n σ) w') : Oper.wp P ⟨none, .store t x y, ty, pos, aft, g⟩ (mk n σ) w K Q := by
  cases a with
  | none => cases ha
  | some b' =>
    simp only [hd, Option.map_some, Option.some.injEq, Addr.mk.injEq, and_true] at ha
    obtain ⟨rfl, rfl⟩ := ha
    obtain ⟨q1, q2, q3, rest, hw, q5⟩ := H.has _ (List.mem_of_getElem? hi)
    obtain ⟨R1, R2, e1, e2, e3⟩ := flat_split hsz hk
    have hvs : v.cells.size = m := by rw [← hm, ← hv, Array.length_toList]
    have hcut : Cut3 (l.flatMap enc ++ rest) (R1 ++ A) B (D ++ (R2 ++ rest)) (0 + k * sz + off) m := by
      refine ⟨?_, ?_, hc.hb⟩
      · rw [e1, hc.e]; simp only [List.append_assoc]
      · rw [List.length_append, e2, hc.ha]; omega
    have hr := run_storeAt_row (P := P) (t := t) (v := v) hw (o := 0 + k * sz + off) (by rw [hvs]; exact hs) (by rw [hvs]; exact hcut.le) (by rw [← hv, List.all_eq_true] at h1; rw [Array.all_eq_true']; intro z hz; exact h1 z (by simpa using hz))
    have e : (l.flatMap enc ++ rest).take (0 + k * sz + off) ++ v.cells.toList ++ (l.flatMap enc ++ rest).drop (0 + k * sz + off + v.cells.size) = (l.set k c').flatMap enc ++ rest := by
      rw [hvs, hv, hcut.put, e3 c', hc']
      simp only [List.append_assoc]
    rw [e] at hr
    simp only [Nat.zero_add] at hr hx
    have hl2 : ((l.set k c').flatMap enc).length = (l.flatMap enc).length := by
      rw [e3 c', e1, hc', hc.e]
      simp only [List.length_append, hm, hc.hb]
    refine o_skip (w' := w.setRow b' ((l.set k c').flatMap enc ++ rest).toArray) (by simp [execOp, hx, hy, hr]) (h _ ?_)
    exact H.row hi rfl rfl hw fun w' hw' => ⟨by rw [hl2]; exact q1, q2, q3, rest, hw', by rw [List.length_append, hl2, ← List.length_append]; exact q5⟩
end
end Go.Proofs.Ytncmcgcilijfkaa
namespace Go.Proofs.Ytncmcgcilijfkaa
open Go
set_option maxRecDepth 100000
def thgE (x : MKey × Int) : List Value := ([.string ⟨(x.1.1).toArray⟩] : List Value) ++ ((x.1.2.1).map V8 ++ (([VI x.2] : List Value)))
theorem thgE_len (x : MKey × Int) : (thgE x).length = 34 := by
  show (([.string ⟨(x.1.1).toArray⟩] : List Value) ++ ((x.1.2.1).map V8 ++ (([VI x.2] : List Value)))).length = 34
  exact (by simp only [List.length_append, List.length_map, List.length_cons, List.length_nil, (show (x.1.2.1).length = 32 from x.1.2.2)])
theorem thgE_all (x : MKey × Int) : (thgE x).all (·.oneCell') = true := by
  show (([.string ⟨(x.1.1).toArray⟩] : List Value) ++ ((x.1.2.1).map V8 ++ (([VI x.2] : List Value)))).all (·.oneCell') = true
  exact (by simp [Value.oneCell', List.all_append, List.all_map])
def limE (x : List UInt8 × Int) : List Value := ([.string ⟨(x.1).toArray⟩, VI x.2] : List Value)
theorem limE_len (x : List UInt8 × Int) : (limE x).length = 2 := by
  show (([.string ⟨(x.1).toArray⟩, VI x.2] : List Value)).length = 2
  exact (by rfl)
theorem limE_all (x : List UInt8 × Int) : (limE x).all (·.oneCell') = true := by
  show (([.string ⟨(x.1).toArray⟩, VI x.2] : List Value)).all (·.oneCell') = true
  exact (by simp [Value.oneCell'])
def strE (l : List UInt8) : List Value := [.string ⟨l.toArray⟩]
/-- the document's meter, as a world has it. -/
structure RW where
  a1 : Option Nat
  c1 : Nat
  a2 : Option Nat
  c2 : Nat
  Ls : List (MKey × Int)
  Qs : List (List UInt8 × Int)
def rch (rb : Nat) (z : RW) : List Ch := [.blk rb [.slice (hd z.a1) z.Ls.length z.c1, .slice (hd z.a2) z.Qs.length z.c2] 46, .own z.a1 z.Ls.length z.c1 (z.Ls.flatMap thgE) 93 34, .own z.a2 z.Qs.length z.c2 (z.Qs.flatMap limE) 98 2]
def RLeft (w0 w' : World) (rb : Nat) (z : RW) (Ls : List (MKey × Int)) (Qs : List (List UInt8 × Int)) : Prop := ∃ y : RW, y.Ls = Ls ∧ y.Qs = Qs ∧ Hp w0 w' (keys (rch rb z)) (rch rb y)
theorem rleft_of {w0 w' : World} {rb : Nat} {z : RW} {a1 a2 : Option Nat} {n1 c1 n2 c2 : Nat} {Ls X : List (MKey × Int)} {Qs Y : List (List UInt8 × Int)} (H : Hp w0 w' (keys (rch rb z)) [.blk rb [.slice (hd a1) n1 c1, .slice (hd a2) n2 c2] 46, .own a1 n1 c1 (X.flatMap thgE) 93 34, .own a2 n2 c2 (Y.flatMap limE) 98 2])
    (h1 : n1 = Ls.length) (h2 : n2 = Qs.length) (e1 : X = Ls) (e2 : Y = Qs) : RLeft w0 w' rb z Ls Qs := by
  subst h1 h2 e1 e2
  exact ⟨⟨a1, c1, a2, c2, X, Y⟩, rfl, rfl, H⟩
def atL (s : List UInt8) (k : Id32) : List (MKey × Int) → Int
  | [] => -1
  | p :: L => if (s, k) = p.1 then 0 else if atL s k L < 0 then -1 else atL s k L + 1
def mayQ (s : List UInt8) : List (List UInt8 × Int) → Int
  | [] => 0
  | p :: Q => if p.1 = s then p.2 else mayQ s Q
def setQ (s : List UInt8) (n : Int) : List (List UInt8 × Int) → List (List UInt8 × Int)
  | [] => [(s, n)]
  | p :: Q => if p.1 = s then (p.1, n) :: Q else p :: setQ s n Q
theorem mayQ_get (s : List UInt8) : ∀ (Q : List (List UInt8 × Int)) (i : Nat) (e : List UInt8 × Int), (∀ (j : Nat) (x : List UInt8 × Int), j < i → Q[j]? = some x → x.1 ≠ s) → Q[i]? = some e → e.1 = s → mayQ s Q = e.2
  | p :: Q, 0, e, _, h, hs => by cases h; rw [mayQ, if_pos hs]
  | p :: Q, i + 1, e, hn, h, hs => by
    rw [mayQ, if_neg (hn 0 p (by omega) rfl)]
    exact mayQ_get s Q i e (fun j x hj hx => hn (j + 1) x (by omega) hx) h hs
theorem mayQ_none (s : List UInt8) : ∀ (Q : List (List UInt8 × Int)), (∀ (j : Nat) (x : List UInt8 × Int), Q[j]? = some x → x.1 ≠ s) → mayQ s Q = 0
  | [], _ => rfl
  | p :: Q, hn => by
    rw [mayQ, if_neg (hn 0 p rfl)]
    exact mayQ_none s Q (fun j x hx => hn (j + 1) x hx)
theorem sumT_take (s : List UInt8) (L : List (MKey × Int)) (i : Nat) (e : MKey × Int) (h : L[i]? = some e) : sumT s (L.take (i + 1)) = sumT s (L.take i) + (if e.1.1 = s then e.2 else 0) := by
  have happ : ∀ (a b : List (MKey × Int)), sumT s (a ++ b) = sumT s a + sumT s b := by
    intro a b
    induction a with
    | nil => simp [sumT]
    | cons x a ih => rw [List.cons_append, sumT, sumT, ih]; omega
  rw [List.take_add_one, h, Option.toList, happ, sumT, sumT]; omega
theorem sumT_app (s : List UInt8) (a b : List (MKey × Int)) : sumT s (a ++ b) = sumT s a + sumT s b := by
  induction a with
  | nil => simp [sumT]
  | cons x a ih => rw [List.cons_append, sumT, sumT, ih]; omega
theorem sumT_pre (s : List UInt8) {L : List (MKey × Int)} (h : ∀ p ∈ L, 0 ≤ p.2) (k : Nat) : 0 ≤ sumT s (L.take k) ∧ sumT s (L.take k) ≤ sumT s L := by
  have h1 := sum_nn s (fun x hx => h x (List.mem_of_mem_take hx) : ∀ x ∈ L.take k, 0 ≤ x.2)
  have h2 := sum_nn s (fun x hx => h x (List.mem_of_mem_drop hx) : ∀ x ∈ L.drop k, 0 ≤ x.2)
  have h3 := sumT_app s (L.take k) (L.drop k)
  rw [List.take_append_drop] at h3
  omega
theorem atL_get (s : List UInt8) (k : Id32) : ∀ (L : List (MKey × Int)) (i : Nat) (e : MKey × Int), (∀ (j : Nat) (x : MKey × Int), j < i → L[j]? = some x → x.1 ≠ (s, k)) → L[i]? = some e → e.1 = (s, k) → atL s k L = (i : Int)
  | p :: L, 0, e, _, h, hs => by cases h; rw [atL, if_pos hs.symm]; rfl
  | p :: L, i + 1, e, hn, h, hs => by
    have := atL_get s k L i e (fun j x hj hx => hn (j + 1) x (by omega) hx) h hs
    rw [atL, if_neg (fun e => hn 0 p (by omega) rfl e.symm), this, if_neg (by omega)]; omega
theorem atL_none (s : List UInt8) (k : Id32) : ∀ (L : List (MKey × Int)), (∀ (j : Nat) (x : MKey × Int), L[j]? = some x → x.1 ≠ (s, k)) → atL s k L = -1
  | [], _ => rfl
  | p :: L, hn => by
    rw [atL, if_neg (fun e => hn 0 p rfl e.symm), atL_none s k L (fun j x hx => hn (j + 1) x hx), if_pos (by decide)]
theorem atL_look (s : List UInt8) (k : Id32) : ∀ (L : List (MKey × Int)), (0 ≤ atL s k L ↔ (look L (s, k)).isSome = true) ∧ -1 ≤ atL s k L ∧ atL s k L < L.length
  | [] => by simp [atL, look]
  | p :: L => by
    obtain ⟨h1, h2, h3⟩ := atL_look s k L
    rw [atL, look, List.length_cons]
    by_cases e : (s, k) = p.1
    · rw [if_pos e, if_pos e]; exact ⟨by simp, by omega, by omega⟩
    · rw [if_neg e, if_neg e]
      by_cases h : atL s k L < 0
      · rw [if_pos h, ← h1]; omega
      · rw [if_neg h, ← h1]; omega
theorem atL_drop (s : List UInt8) (k : Id32) : ∀ (L : List (MKey × Int)) (i : Nat), atL s k L = (i : Int) → L.take i ++ L.drop (i + 1) = dropG (s, k) L
  | [], i, h => by rw [atL] at h; omega
  | p :: L, i, h => by
    rw [atL] at h
    rw [dropG]
    by_cases e : (s, k) = p.1
    · rw [if_pos e] at h
      have : i = 0 := by omega
      subst this
      rw [if_pos e]; rfl
    · rw [if_neg e] at h
      rw [if_neg e]
      by_cases h2 : atL s k L < 0
      · rw [if_pos h2] at h; omega
      · rw [if_neg h2] at h
        cases i with
        | zero => have := (atL_look s k L).2.1; omega
        | succ i =>
          have := atL_drop s k L i (by omega)
          rw [List.take_succ_cons, List.drop_succ_cons, List.cons_append, this]
theorem setQ_get (s : List UInt8) (n : Int) : ∀ (Q : List (List UInt8 × Int)) (i : Nat) (e : List UInt8 × Int), (∀ (j : Nat) (x : List UInt8 × Int), j < i → Q[j]? = some x → x.1 ≠ s) → Q[i]? = some e → e.1 = s → setQ s n Q = Q.set i (e.1, n)
  | p :: Q, 0, e, _, h, hs => by cases h; rw [setQ, if_pos hs]; rfl
  | p :: Q, i + 1, e, hn, h, hs => by
    rw [setQ, if_neg (hn 0 p (by omega) rfl), List.set_cons_succ, setQ_get s n Q i e (fun j x hj hx => hn (j + 1) x (by omega) hx) h hs]
theorem setQ_none (s : List UInt8) (n : Int) : ∀ (Q : List (List UInt8 × Int)), (∀ (j : Nat) (x : List UInt8 × Int), Q[j]? = some x → x.1 ≠ s) → setQ s n Q = Q ++ [(s, n)]
  | [], _ => rfl
  | p :: Q, hn => by
    rw [setQ, if_neg (hn 0 p rfl), setQ_none s n Q (fun j x hx => hn (j + 1) x hx)]; rfl
/-- a text put into a rising list, once. -/
def withF (s : List UInt8) : List (List UInt8) → List (List UInt8)
  | [] => [s]
  | x :: l => if Op.bytesLess x s = true then x :: withF s l else if x = s then x :: l else s :: x :: l
theorem withF_at (s : List UInt8) : ∀ (l : List (List UInt8)) (i : Nat), (∀ (j : Nat) (x : List UInt8), j < i → l[j]? = some x → Op.bytesLess x s = true) → i ≤ l.length → (∀ x, l[i]? = some x → Op.bytesLess x s = false ∧ x ≠ s) → withF s l = l.take i ++ [s] ++ l.drop i
  | [], i, _, hi, _ => by
    have : i = 0 := by simpa using hi
    subst this; rfl
  | x :: l, 0, _, _, h => by
    have := h x rfl
    rw [withF, if_neg (by rw [this.1]; decide), if_neg this.2]; rfl
  | x :: l, i + 1, hn, hi, h => by
    rw [withF, if_pos (hn 0 x (by omega) rfl), withF_at s l i (fun j y hj hy => hn (j + 1) y (by omega) hy) (by simpa using hi) (fun y hy => h y hy)]; rfl
theorem withF_there (s : List UInt8) : ∀ (l : List (List UInt8)) (i : Nat), (∀ (j : Nat) (x : List UInt8), j < i → l[j]? = some x → Op.bytesLess x s = true) → l[i]? = some s → Op.bytesLess s s = false → withF s l = l
  | x :: l, 0, _, h, hs => by cases h; rw [withF, if_neg (by rw [hs]; decide), if_pos rfl]
  | x :: l, i + 1, hn, h, hs => by
    rw [withF, if_pos (hn 0 x (by omega) rfl), withF_there s l i (fun j y hj hy => hn (j + 1) y (by omega) hy) h hs]
theorem less_self : ∀ (s : List UInt8), Op.bytesLess s s = false
  | [] => rfl
  | a :: s => by rw [Op.bytesLess, less_self s]; simp
theorem thg_key {e : MKey × Int} {s o : List UInt8} {ho : o.length = 32} (h1 : e.1.1 = s) (h2 : e.1.2.1 = o) : e.1 = (s, ⟨o, ho⟩) := Prod.ext h1 (Subtype.ext h2)
theorem mayR_ret (w0 : World) (rb : Nat) (z : RW) (hO : Own w0 (rch rb z)) (_hl1 : z.Ls.length ≤ 1048576) (hl2 : z.Qs.length ≤ 1048576) (s : List UInt8) :
    Ret Try.prog 70 [.pointer (some ⟨rb, 0, none⟩), .string ⟨(s).toArray⟩] w0 fun v w' => v = VI (mayQ s z.Qs) ∧ Hp w0 w' (keys (rch rb z)) (rch rb z) := by
  refine ret_mk Try.func70 rfl Try.ntmps70 (by simp) ?_
  have H : Hp w0 w0 (keys (rch rb z)) [.blk rb ([.slice (hd z.a1) z.Ls.length z.c1, .slice (hd z.a2) z.Qs.length z.c2]) 46, .own z.a1 z.Ls.length z.c1 ((z.Ls).flatMap thgE) 93 34, .own z.a2 z.Qs.length z.c2 ((z.Qs).flatMap limE) 98 2] := hO.start
  repeat refine c_seq ?_
  refine c_region ?_
  refine l_op (o_val (r_as) ?_)
  first | refine l_end ?_ | refine l_nil ?_
  repeat refine c_seq ?_
  refine c_region ?_
  refine l_op (o_val (r_as) ?_)
  first | refine l_end ?_ | refine l_nil ?_
  repeat refine c_seq ?_
  refine c_block ?_
  repeat refine c_seq ?_
  refine c_loop (fun (i : Nat) => [(0, .pointer (some ⟨rb, 0, none⟩)), (1, .string ⟨(s).toArray⟩), (5, VI (i : Int))])
    (fun (i : Nat) w => (i ≤ z.Qs.length ∧ ∀ (j : Nat) (x : List UInt8 × Int), j < i → z.Qs[j]? = some x → x.1 ≠ s) ∧ Hp w0 w (keys (rch rb z)) ([.blk rb ([.slice (hd z.a1) z.Ls.length z.c1, .slice (hd z.a2) z.Qs.length z.c2]) 46, .own z.a1 z.Ls.length z.c1 ((z.Ls).flatMap thgE) 93 34, .own z.a2 z.Qs.length z.c2 ((z.Qs).flatMap limE) 98 2]))
    (fun (i : Nat) => z.Qs.length - i) 0 ⟨rfl, rfl, rfl, trivial⟩ ⟨⟨Nat.zero_le _, fun j x hj => absurd hj (by omega)⟩, H⟩ ?_
  clear H
  rintro i τ w ⟨⟨hi, hall⟩, H⟩
  repeat refine c_seq ?_
  refine c_region ?_
  refine l_op (o_val (r_mv) ?_)
  refine l_op (o_val (r_mv) ?_)
  refine l_op (o_val (r_nilc rfl) ?_)
  refine l_op (o_val (r_fa rfl fo46_1) ?_)
  refine l_op (o_val (r_ld (v := .slice (hd z.a2) z.Qs.length z.c2) H (i := 0) rfl rfl ct44 rfl) ?_)
  refine l_op (o_val (r_lens el44 rfl) ?_)
  refine l_op (o_val (r_bin (a := (i : Int)) (b := (z.Qs.length : Int)) rfl rfl (fun _ => b_lss)) ?_)
  first | refine l_end ?_ | refine l_nil ?_
  by_cases hc1 : (i : Int) < (z.Qs.length : Int)
  ·
   repeat refine c_seq ?_
   refine c_yes (by exact congrArg Value.bool (decide_eq_true hc1)) ?_
   refine c_skip ?_
   repeat refine c_seq ?_
   refine c_block ?_
   repeat refine c_seq ?_
   refine c_region ?_
   refine l_op (o_val (r_mv) ?_)
   refine l_op (o_val (r_nilc rfl) ?_)
   refine l_op (o_val (r_fa rfl fo46_1) ?_)
   refine l_op (o_val (r_ld (v := .slice (hd z.a2) z.Qs.length z.c2) H (i := 0) rfl rfl ct44 rfl) ?_)
   refine l_op (o_val (r_mv) ?_)
   have ah3 := H.ownAddr (i := 2) rfl (by omega)
   obtain ⟨ab2, ah3⟩ := ah3
   refine l_op (o_val (r_isN i rfl rfl el44 ah3 (by omega) (by (try simp only [Sl.cut]); omega)) ?_)
   refine l_op (o_val (r_fa rfl fo98_0) ?_)
   have he5 : ∃ c, (z.Qs)[i]? = some c := ⟨_, List.getElem?_eq_getElem (by have := ((H.glOwn (i := 2) rfl (by decide) (fun c _ => limE_len c))).ln; (try dsimp only at this ⊢); omega)⟩
   obtain ⟨e4, he5⟩ := he5
   have hez6 := ((H.glOwn (i := 2) rfl (by decide) (fun c _ => limE_len c))).sz e4 (List.mem_of_getElem? he5)
   refine l_op (o_val (r_g1 (v := .string ⟨(e4.1).toArray⟩) (s := (⟨hd z.a2, z.Qs.length, z.c2, z.Qs⟩ : Gl (List UInt8 × Int))) (j := i) (H.glOwn (i := 2) rfl (by decide) (fun c _ => limE_len c)) ah3 rfl ct9 he5 (by decide) (show Cut3 (limE e4) (([] : List Value)) (([.string ⟨(e4.1).toArray⟩] : List Value)) (([VI e4.2] : List Value)) 0 1 from ⟨(show ([.string ⟨(e4.1).toArray⟩, VI e4.2] : List Value) = ([] : List Value) ++ ((([.string ⟨(e4.1).toArray⟩] : List Value)) ++ (([VI e4.2] : List Value))) from by simp only [List.cons_append, List.nil_append]), (by rfl), (by rfl)⟩)) ?_)
   refine l_op (o_val (r_mv) ?_)
   refine l_op (o_val (r_streq (a := e4.1) (b := s) rfl rfl) ?_)
   first | refine l_end ?_ | refine l_nil ?_
   by_cases hc7 : e4.1 = s
   ·
    repeat refine c_seq ?_
    refine c_yes (by exact congrArg Value.bool (decide_eq_true hc7)) ?_
    repeat refine c_seq ?_
    refine c_region ?_
    refine l_op (o_val (r_mv) ?_)
    refine l_op (o_val (r_nilc rfl) ?_)
    refine l_op (o_val (r_fa rfl fo46_1) ?_)
    refine l_op (o_val (r_ld (v := .slice (hd z.a2) z.Qs.length z.c2) H (i := 0) rfl rfl ct44 rfl) ?_)
    refine l_op (o_val (r_mv) ?_)
    refine l_op (o_val (r_isN i rfl rfl el44 ah3 (by omega) (by (try simp only [Sl.cut]); omega)) ?_)
    refine l_op (o_val (r_fa rfl fo98_1) ?_)
    refine l_op (o_val (r_g1 (v := VI e4.2) (s := (⟨hd z.a2, z.Qs.length, z.c2, z.Qs⟩ : Gl (List UInt8 × Int))) (j := i) (H.glOwn (i := 2) rfl (by decide) (fun c _ => limE_len c)) ah3 rfl ct2 he5 (by decide) (show Cut3 (limE e4) (([.string ⟨(e4.1).toArray⟩] : List Value)) (([VI e4.2] : List Value)) (([] : List Value)) 1 1 from ⟨(show ([.string ⟨(e4.1).toArray⟩, VI e4.2] : List Value) = ([.string ⟨(e4.1).toArray⟩] : List Value) ++ ((([VI e4.2] : List Value)) ++ (([] : List Value))) from by simp only [List.cons_append, List.nil_append]), (by rfl), (by rfl)⟩)) ?_)
    refine l_op (o_val (r_as) ?_)
    first | refine l_end ?_ | refine l_nil ?_
    refine c_ret ?_
    try dsimp only [Exit.then, Exit.inBlock]
    refine e_ret1 (v := VI e4.2) Try.results70 rfl ?_
    refine ⟨_, rfl, ?_⟩
    refine ⟨?_, H.sub (.cons_cons _ (.cons_cons _ (.cons_cons _ (List.nil_sublist _))))⟩
    rw [mayQ_get s z.Qs i e4 hall he5 (by assumption)]
   ·
    repeat refine c_seq ?_
    refine c_no (by exact congrArg Value.bool (decide_eq_false hc7)) ?_
    refine c_skip ?_
    repeat refine c_seq ?_
    refine c_region ?_
    refine l_op (o_val (r_mv) ?_)
    refine l_op (o_val (r_bin (a := (i : Int)) (b := 1) rfl rfl (fun _ => b_add (by omega) (by omega))) ?_)
    refine l_op (o_val (r_as) ?_)
    first | refine l_end ?_ | refine l_nil ?_
    refine round_end (i + 1) ?_ ?_ ?_
    · exact ⟨rfl, rfl, show VI ((i : Int) + 1) = VI ((i + 1 : Nat) : Int) from congrArg VI (by omega), trivial⟩
    · refine ⟨?_, ?_⟩
      · try dsimp only
        exact ⟨by omega, fun j x hj hjx => by
          by_cases hji : j < i
          · exact hall j x hji hjx
          · have e : j = i := by omega
            rw [e, he5] at hjx
            cases hjx
            assumption⟩
      · exact H
    · show z.Qs.length - (i + 1 : Nat) < z.Qs.length - i; omega
  ·
   repeat refine c_seq ?_
   refine c_no (by exact congrArg Value.bool (decide_eq_false hc1)) ?_
   refine c_exit ?_
   repeat refine c_seq ?_
   refine c_region ?_
   refine l_op (o_val (r_as) ?_)
   first | refine l_end ?_ | refine l_nil ?_
   refine c_ret ?_
   try dsimp only [Exit.then, Exit.inBlock]
   refine e_ret1 (v := VI 0) Try.results70 rfl ?_
   refine ⟨_, rfl, ?_⟩
   refine ⟨?_, H.sub (.cons_cons _ (.cons_cons _ (.cons_cons _ (List.nil_sublist _))))⟩
   rw [mayQ_none s z.Qs (fun j x hx => hall j x (by have := (List.getElem?_eq_some_iff.1 hx).1; omega) hx)]
theorem usedR_ret (w0 : World) (rb : Nat) (z : RW) (hO : Own w0 (rch rb z)) (hl1 : z.Ls.length ≤ 1048576) (_hl2 : z.Qs.length ≤ 1048576) (hnn : ∀ p ∈ z.Ls, 0 ≤ p.2) (s : List UInt8) (hsm : sumT s z.Ls ≤ 9223372036854775807) :
    Ret Try.prog 22 [.pointer (some ⟨rb, 0, none⟩), .string ⟨(s).toArray⟩] w0 fun v w' => v = VI (sumT s z.Ls) ∧ Hp w0 w' (keys (rch rb z)) (rch rb z) := by
  refine ret_mk Try.func22 rfl Try.ntmps22 (by simp) ?_
  have H : Hp w0 w0 (keys (rch rb z)) [.blk rb ([.slice (hd z.a1) z.Ls.length z.c1, .slice (hd z.a2) z.Qs.length z.c2]) 46, .own z.a1 z.Ls.length z.c1 ((z.Ls).flatMap thgE) 93 34, .own z.a2 z.Qs.length z.c2 ((z.Qs).flatMap limE) 98 2] := hO.start
  repeat refine c_seq ?_
  refine c_region ?_
  refine l_op (o_val (r_as) ?_)
  first | refine l_end ?_ | refine l_nil ?_
  repeat refine c_seq ?_
  refine c_region ?_
  refine l_op (o_val (r_as) ?_)
  first | refine l_end ?_ | refine l_nil ?_
  repeat refine c_seq ?_
  refine c_region ?_
  refine l_op (o_val (r_as) ?_)
  first | refine l_end ?_ | refine l_nil ?_
  repeat refine c_seq ?_
  refine c_block ?_
  repeat refine c_seq ?_
  refine c_loop (fun (i : Nat) => [(0, .pointer (some ⟨rb, 0, none⟩)), (1, .string ⟨(s).toArray⟩), (5, VI (sumT s (z.Ls.take i))), (6, VI (i : Int))])
    (fun (i : Nat) w => (i ≤ z.Ls.length) ∧ Hp w0 w (keys (rch rb z)) ([.blk rb ([.slice (hd z.a1) z.Ls.length z.c1, .slice (hd z.a2) z.Qs.length z.c2]) 46, .own z.a1 z.Ls.length z.c1 ((z.Ls).flatMap thgE) 93 34, .own z.a2 z.Qs.length z.c2 ((z.Qs).flatMap limE) 98 2]))
    (fun (i : Nat) => z.Ls.length - i) 0 ⟨rfl, rfl, rfl, rfl, trivial⟩ ⟨Nat.zero_le _, H⟩ ?_
  clear H
  rintro i τ w ⟨hi, H⟩
  have hp1 := sumT_pre s hnn i
  have hp2 := sumT_pre s hnn (i + 1)
  repeat refine c_seq ?_
  refine c_region ?_
  refine l_op (o_val (r_mv) ?_)
  refine l_op (o_val (r_mv) ?_)
  refine l_op (o_val (r_nilc rfl) ?_)
  refine l_op (o_val (r_fa rfl fo46_0) ?_)
  refine l_op (o_val (r_ld (v := .slice (hd z.a1) z.Ls.length z.c1) H (i := 0) rfl rfl ct43 rfl) ?_)
  refine l_op (o_val (r_lens el43 rfl) ?_)
  refine l_op (o_val (r_bin (a := (i : Int)) (b := (z.Ls.length : Int)) rfl rfl (fun _ => b_lss)) ?_)
  first | refine l_end ?_ | refine l_nil ?_
  by_cases hc1 : (i : Int) < (z.Ls.length : Int)
  ·
   repeat refine c_seq ?_
   refine c_yes (by exact congrArg Value.bool (decide_eq_true hc1)) ?_
   refine c_skip ?_
   repeat refine c_seq ?_
   refine c_block ?_
   repeat refine c_seq ?_
   refine c_region ?_
   refine l_op (o_val (r_mv) ?_)
   refine l_op (o_val (r_nilc rfl) ?_)
   refine l_op (o_val (r_fa rfl fo46_0) ?_)
   refine l_op (o_val (r_ld (v := .slice (hd z.a1) z.Ls.length z.c1) H (i := 0) rfl rfl ct43 rfl) ?_)
   refine l_op (o_val (r_mv) ?_)
   have ah3 := H.ownAddr (i := 1) rfl (by omega)
   obtain ⟨ab2, ah3⟩ := ah3
   refine l_op (o_val (r_isN i rfl rfl el43 ah3 (by omega) (by (try simp only [Sl.cut]); omega)) ?_)
   refine l_op (o_val (r_fa rfl fo93_0) ?_)
   have he5 : ∃ c, (z.Ls)[i]? = some c := ⟨_, List.getElem?_eq_getElem (by have := ((H.glOwn (i := 1) rfl (by decide) (fun c _ => thgE_len c))).ln; (try dsimp only at this ⊢); omega)⟩
   obtain ⟨e4, he5⟩ := he5
   have hez6 := ((H.glOwn (i := 1) rfl (by decide) (fun c _ => thgE_len c))).sz e4 (List.mem_of_getElem? he5)
   refine l_op (o_val (r_g1 (v := .string ⟨(e4.1.1).toArray⟩) (s := (⟨hd z.a1, z.Ls.length, z.c1, z.Ls⟩ : Gl (MKey × Int))) (j := i) (H.glOwn (i := 1) rfl (by decide) (fun c _ => thgE_len c)) ah3 rfl ct9 he5 (by decide) (show Cut3 (thgE e4) (([] : List Value)) (([.string ⟨(e4.1.1).toArray⟩] : List Value)) ((e4.1.2.1).map V8 ++ (([VI e4.2] : List Value))) 0 1 from ⟨(show ([.string ⟨(e4.1.1).toArray⟩] : List Value) ++ ((e4.1.2.1).map V8 ++ (([VI e4.2] : List Value))) = ([] : List Value) ++ ((([.string ⟨(e4.1.1).toArray⟩] : List Value)) ++ ((e4.1.2.1).map V8 ++ (([VI e4.2] : List Value)))) from by simp only [List.cons_append, List.nil_append]), (by rfl), (by rfl)⟩)) ?_)
   refine l_op (o_val (r_mv) ?_)
   refine l_op (o_val (r_streq (a := e4.1.1) (b := s) rfl rfl) ?_)
   first | refine l_end ?_ | refine l_nil ?_
   by_cases hc7 : e4.1.1 = s
   ·
    repeat refine c_seq ?_
    refine c_yes (by exact congrArg Value.bool (decide_eq_true hc7)) ?_
    have hs0 := sumT_take s z.Ls i e4 he5
    rw [if_pos (of_decide_eq_true (decide_eq_true hc7))] at hs0
    repeat refine c_seq ?_
    refine c_region ?_
    refine l_op (o_val (r_mv) ?_)
    refine l_op (o_val (r_mv) ?_)
    refine l_op (o_val (r_nilc rfl) ?_)
    refine l_op (o_val (r_fa rfl fo46_0) ?_)
    refine l_op (o_val (r_ld (v := .slice (hd z.a1) z.Ls.length z.c1) H (i := 0) rfl rfl ct43 rfl) ?_)
    refine l_op (o_val (r_mv) ?_)
    refine l_op (o_val (r_isN i rfl rfl el43 ah3 (by omega) (by (try simp only [Sl.cut]); omega)) ?_)
    refine l_op (o_val (r_fa rfl fo93_2) ?_)
    refine l_op (o_val (r_g1 (v := VI e4.2) (s := (⟨hd z.a1, z.Ls.length, z.c1, z.Ls⟩ : Gl (MKey × Int))) (j := i) (H.glOwn (i := 1) rfl (by decide) (fun c _ => thgE_len c)) ah3 rfl ct2 he5 (by decide) (show Cut3 (thgE e4) (([.string ⟨(e4.1.1).toArray⟩] : List Value) ++ ((e4.1.2.1).map V8)) (([VI e4.2] : List Value)) (([] : List Value)) 33 1 from ⟨(show ([.string ⟨(e4.1.1).toArray⟩] : List Value) ++ ((e4.1.2.1).map V8 ++ (([VI e4.2] : List Value))) = (([.string ⟨(e4.1.1).toArray⟩] : List Value) ++ ((e4.1.2.1).map V8)) ++ ((([VI e4.2] : List Value)) ++ (([] : List Value))) from by simp only [List.cons_append, List.nil_append]), (by simp only [List.length_append, List.length_map, List.length_cons, List.length_nil, (show (e4.1.2.1).length = 32 from e4.1.2.2)]), (by rfl)⟩)) ?_)
    refine l_op (o_val (r_bin (a := sumT s (z.Ls.take i)) (b := e4.2) rfl rfl (fun _ => b_add (by omega) (by omega))) ?_)
    refine l_op (o_val (r_as) ?_)
    first | refine l_end ?_ | refine l_nil ?_
    have hs1 : (sumT s (z.Ls.take i)) + e4.2 = sumT s (z.Ls.take (i + 1)) := by
      rw [sumT_take s z.Ls i e4 he5, if_pos (of_decide_eq_true (decide_eq_true hc7))]
    repeat refine c_seq ?_
    refine c_region ?_
    refine l_op (o_val (r_mv) ?_)
    refine l_op (o_val (r_bin (a := (i : Int)) (b := 1) rfl rfl (fun _ => b_add (by omega) (by omega))) ?_)
    refine l_op (o_val (r_as) ?_)
    first | refine l_end ?_ | refine l_nil ?_
    refine round_end (i + 1) ?_ ?_ ?_
    · exact ⟨rfl, rfl, show VI ((sumT s (z.Ls.take i)) + e4.2) = VI (sumT s (z.Ls.take (i + 1 : Nat))) from congrArg VI hs1, show VI ((i : Int) + 1) = VI ((i + 1 : Nat) : Int) from congrArg VI (by omega), trivial⟩
    · refine ⟨?_, ?_⟩
      · try dsimp only
        exact by omega
      · exact H
    · show z.Ls.length - (i + 1 : Nat) < z.Ls.length - i; omega
   ·
    repeat refine c_seq ?_
    refine c_no (by exact congrArg Value.bool (decide_eq_false hc7)) ?_
    refine c_skip ?_
    have hs1 : sumT s (z.Ls.take i) = sumT s (z.Ls.take (i + 1)) := by
      rw [sumT_take s z.Ls i e4 he5, if_neg (of_decide_eq_false (decide_eq_false hc7))]
      omega
    repeat refine c_seq ?_
    refine c_region ?_
    refine l_op (o_val (r_mv) ?_)
    refine l_op (o_val (r_bin (a := (i : Int)) (b := 1) rfl rfl (fun _ => b_add (by omega) (by omega))) ?_)
    refine l_op (o_val (r_as) ?_)
    first | refine l_end ?_ | refine l_nil ?_
    refine round_end (i + 1) ?_ ?_ ?_
    · exact ⟨rfl, rfl, show VI (sumT s (z.Ls.take i)) = VI (sumT s (z.Ls.take (i + 1 : Nat))) from congrArg VI hs1, show VI ((i : Int) + 1) = VI ((i + 1 : Nat) : Int) from congrArg VI (by omega), trivial⟩
    · refine ⟨?_, ?_⟩
      · try dsimp only
        exact by omega
      · exact H
    · show z.Ls.length - (i + 1 : Nat) < z.Ls.length - i; omega
  ·
   repeat refine c_seq ?_
   refine c_no (by exact congrArg Value.bool (decide_eq_false hc1)) ?_
   refine c_exit ?_
   repeat refine c_seq ?_
   refine c_region ?_
   refine l_op (o_val (r_mv) ?_)
   refine l_op (o_val (r_as) ?_)
   first | refine l_end ?_ | refine l_nil ?_
   refine c_ret ?_
   try dsimp only [Exit.then, Exit.inBlock]
   refine e_ret1 (v := VI (sumT s (z.Ls.take i))) Try.results22 rfl ?_
   refine ⟨_, rfl, ?_⟩
   refine ⟨?_, H.sub (.cons_cons _ (.cons_cons _ (.cons_cons _ (List.nil_sublist _))))⟩
   rw [List.take_of_length_le (by omega)]
theorem atR_ret (w0 : World) (rb : Nat) (z : RW) (hO : Own w0 (rch rb z)) (hl1 : z.Ls.length ≤ 1048576) (_hl2 : z.Qs.length ≤ 1048576) (s o : List UInt8) (ho : o.length = 32) :
    Ret Try.prog 51 [.pointer (some ⟨rb, 0, none⟩), .string ⟨(s).toArray⟩, .agg ((o).map V8).toArray] w0 fun v w' => v = VI (atL s ⟨o, ho⟩ z.Ls) ∧ Hp w0 w' (keys (rch rb z)) (rch rb z) := by
  refine ret_mk Try.func51 rfl Try.ntmps51 (by simp) ?_
  have H : Hp w0 w0 (keys (rch rb z)) [.blk rb ([.slice (hd z.a1) z.Ls.length z.c1, .slice (hd z.a2) z.Qs.length z.c2]) 46, .own z.a1 z.Ls.length z.c1 ((z.Ls).flatMap thgE) 93 34, .own z.a2 z.Qs.length z.c2 ((z.Qs).flatMap limE) 98 2] := hO.start
  repeat refine c_seq ?_
  refine c_region ?_
  refine l_op (o_box (v := .agg ((o).map V8).toArray) H rfl (fun b1 w H hb1 => ?_))
  replace H : Hp _ w _ ([.blk rb ([.slice (hd z.a1) z.Ls.length z.c1, .slice (hd z.a2) z.Qs.length z.c2]) 46, .own z.a1 z.Ls.length z.c1 ((z.Ls).flatMap thgE) 93 34, .own z.a2 z.Qs.length z.c2 ((z.Qs).flatMap limE) 98 2, .blk b1 ((o).map V8) 36]) := H
  refine l_op (o_val (r_as) ?_)
  first | refine l_end ?_ | refine l_nil ?_
  repeat refine c_seq ?_
  refine c_region ?_
  refine l_op (o_val (r_as) ?_)
  first | refine l_end ?_ | refine l_nil ?_
  repeat refine c_seq ?_
  refine c_block ?_
  repeat refine c_seq ?_
  refine c_loop (fun (i : Nat) => [(0, .pointer (some ⟨rb, 0, none⟩)), (1, .string ⟨(s).toArray⟩), (5, .pointer (some ⟨b1, 0, none⟩)), (7, VI (i : Int))])
    (fun (i : Nat) w => (i ≤ z.Ls.length ∧ ∀ (j : Nat) (x : MKey × Int), j < i → z.Ls[j]? = some x → x.1 ≠ (s, ⟨o, ho⟩)) ∧ Hp w0 w (keys (rch rb z)) ([.blk rb ([.slice (hd z.a1) z.Ls.length z.c1, .slice (hd z.a2) z.Qs.length z.c2]) 46, .own z.a1 z.Ls.length z.c1 ((z.Ls).flatMap thgE) 93 34, .own z.a2 z.Qs.length z.c2 ((z.Qs).flatMap limE) 98 2, .blk b1 ((o).map V8) 36]))
    (fun (i : Nat) => z.Ls.length - i) 0 ⟨rfl, rfl, rfl, rfl, trivial⟩ ⟨⟨Nat.zero_le _, fun j x hj => absurd hj (by omega)⟩, H⟩ ?_
  clear H
  rintro i τ w ⟨⟨hi, hall⟩, H⟩
  repeat refine c_seq ?_
  refine c_region ?_
  refine l_op (o_val (r_mv) ?_)
  refine l_op (o_val (r_mv) ?_)
  refine l_op (o_val (r_nilc rfl) ?_)
  refine l_op (o_val (r_fa rfl fo46_0) ?_)
  refine l_op (o_val (r_ld (v := .slice (hd z.a1) z.Ls.length z.c1) H (i := 0) rfl rfl ct43 rfl) ?_)
  refine l_op (o_val (r_lens el43 rfl) ?_)
  refine l_op (o_val (r_bin (a := (i : Int)) (b := (z.Ls.length : Int)) rfl rfl (fun _ => b_lss)) ?_)
  first | refine l_end ?_ | refine l_nil ?_
  by_cases hc2 : (i : Int) < (z.Ls.length : Int)
  ·
   repeat refine c_seq ?_
   refine c_yes (by exact congrArg Value.bool (decide_eq_true hc2)) ?_
   refine c_skip ?_
   repeat refine c_seq ?_
   refine c_block ?_
   repeat refine c_seq ?_
   refine c_still mixed (by kernel_rfl) ?_
   replace H := H.drew
   refine s_op (r_mv) ?_
   refine s_op (r_nilc rfl) ?_
   refine s_op (r_fa rfl fo46_0) ?_
   refine s_op (r_ld (v := .slice (hd z.a1) z.Ls.length z.c1) H (i := 0) rfl rfl ct43 rfl) ?_
   refine s_op (r_mv) ?_
   have ah4 := H.ownAddr (i := 1) rfl (by omega)
   obtain ⟨ab3, ah4⟩ := ah4
   refine s_op (r_isN i rfl rfl el43 ah4 (by omega) (by (try simp only [Sl.cut]); omega)) ?_
   refine s_op (r_fa rfl fo93_0) ?_
   have he6 : ∃ c, (z.Ls)[i]? = some c := ⟨_, List.getElem?_eq_getElem (by have := ((H.glOwn (i := 1) rfl (by decide) (fun c _ => thgE_len c))).ln; (try dsimp only at this ⊢); omega)⟩
   obtain ⟨e5, he6⟩ := he6
   have hez7 := ((H.glOwn (i := 1) rfl (by decide) (fun c _ => thgE_len c))).sz e5 (List.mem_of_getElem? he6)
   refine s_op (r_g1 (v := .string ⟨(e5.1.1).toArray⟩) (s := (⟨hd z.a1, z.Ls.length, z.c1, z.Ls⟩ : Gl (MKey × Int))) (j := i) (H.glOwn (i := 1) rfl (by decide) (fun c _ => thgE_len c)) ah4 rfl ct9 he6 (by decide) (show Cut3 (thgE e5) (([] : List Value)) (([.string ⟨(e5.1.1).toArray⟩] : List Value)) ((e5.1.2.1).map V8 ++ (([VI e5.2] : List Value))) 0 1 from ⟨(show ([.string ⟨(e5.1.1).toArray⟩] : List Value) ++ ((e5.1.2.1).map V8 ++ (([VI e5.2] : List Value))) = ([] : List Value) ++ ((([.string ⟨(e5.1.1).toArray⟩] : List Value)) ++ ((e5.1.2.1).map V8 ++ (([VI e5.2] : List Value)))) from by simp only [List.cons_append, List.nil_append]), (by rfl), (by rfl)⟩)) ?_
   refine s_op (r_mv) ?_
   refine s_op (r_streq (a := e5.1.1) (b := s) rfl rfl) ?_
   refine s_op (r_mv) ?_
   by_cases hc8 : e5.1.1 = s
   ·
    refine s_yes rfl rfl (by exact congrArg Value.bool (decide_eq_true hc8)) (r_mv) ?_
    refine s_yes rfl rfl (by exact congrArg Value.bool (decide_eq_true hc8)) (r_nilc rfl) ?_
    refine s_yes rfl rfl (by exact congrArg Value.bool (decide_eq_true hc8)) (r_fa rfl fo46_0) ?_
    refine s_yes rfl rfl (by exact congrArg Value.bool (decide_eq_true hc8)) (r_ld (v := .slice (hd z.a1) z.Ls.length z.c1) H (i := 0) rfl rfl ct43 rfl) ?_
    refine s_yes rfl rfl (by exact congrArg Value.bool (decide_eq_true hc8)) (r_mv) ?_
    refine s_yes rfl rfl (by exact congrArg Value.bool (decide_eq_true hc8)) (r_isN i rfl rfl el43 ah4 (by omega) (by (try simp only [Sl.cut]); omega)) ?_
    refine s_yes rfl rfl (by exact congrArg Value.bool (decide_eq_true hc8)) (r_fa rfl fo93_1) ?_
    refine s_yes rfl rfl (by exact congrArg Value.bool (decide_eq_true hc8)) (r_gk (s := (⟨hd z.a1, z.Ls.length, z.c1, z.Ls⟩ : Gl (MKey × Int))) (j := i) (H.glOwn (i := 1) rfl (by decide) (fun c _ => thgE_len c)) ah4 rfl rt36 (by decide) he6 (show Cut3 (thgE e5) (([.string ⟨(e5.1.1).toArray⟩] : List Value)) ((e5.1.2.1).map V8) (([VI e5.2] : List Value)) 1 32 from ⟨(show ([.string ⟨(e5.1.1).toArray⟩] : List Value) ++ ((e5.1.2.1).map V8 ++ (([VI e5.2] : List Value))) = ([.string ⟨(e5.1.1).toArray⟩] : List Value) ++ (((e5.1.2.1).map V8) ++ (([VI e5.2] : List Value))) from by simp only [List.cons_append, List.nil_append]), (by rfl), (by simp only [List.length_map, (show (e5.1.2.1).length = 32 from e5.1.2.2)])⟩)) ?_
    refine s_yes rfl rfl (by exact congrArg Value.bool (decide_eq_true hc8)) (r_ldAA (l := o) H (i := 3) rfl rfl rt36 (show (o).length = 32 from ho)) ?_
    refine s_yes rfl rfl (by exact congrArg Value.bool (decide_eq_true hc8)) (r_eqa (a := e5.1.2.1) (b := o) Try.underlying36 Try.underlying5 cs5 rfl rfl (show (e5.1.2.1).length = 32 from e5.1.2.2) (show (o).length = 32 from ho)) ?_
    refine s_op (r_pick (b := true) (congrArg Value.bool (decide_eq_true hc8))) ?_
    refine s_nil ?_
    by_cases hc9 : e5.1.2.1 = o
    ·
     repeat refine c_seq ?_
     refine c_yes (by exact congrArg Value.bool (decide_eq_true hc9)) ?_
     repeat refine c_seq ?_
     refine c_region ?_
     refine l_op (o_val (r_mv) ?_)
     refine l_op (o_val (r_as) ?_)
     first | refine l_end ?_ | refine l_nil ?_
     refine c_ret ?_
     try dsimp only [Exit.then, Exit.inBlock]
     refine e_ret1 (v := VI (i : Int)) Try.results51 rfl ?_
     refine ⟨_, rfl, ?_⟩
     refine ⟨?_, H.sub (.cons_cons _ (.cons_cons _ (.cons_cons _ (List.nil_sublist _))))⟩
     rw [atL_get s ⟨o, ho⟩ z.Ls i e5 hall he6 (thg_key (of_decide_eq_true (decide_eq_true hc8)) (of_decide_eq_true (decide_eq_true hc9)))]
    ·
     repeat refine c_seq ?_
     refine c_no (by exact congrArg Value.bool (decide_eq_false hc9)) ?_
     refine c_skip ?_
     repeat refine c_seq ?_
     refine c_region ?_
     refine l_op (o_val (r_mv) ?_)
     refine l_op (o_val (r_bin (a := (i : Int)) (b := 1) rfl rfl (fun _ => b_add (by omega) (by omega))) ?_)
     refine l_op (o_val (r_as) ?_)
     first | refine l_end ?_ | refine l_nil ?_
     refine round_end (i + 1) ?_ ?_ ?_
     · exact ⟨rfl, rfl, rfl, show VI ((i : Int) + 1) = VI ((i + 1 : Nat) : Int) from congrArg VI (by omega), trivial⟩
     · refine ⟨?_, ?_⟩
       · try dsimp only
         exact ⟨by omega, fun j x hj hjx => by
           by_cases hji : j < i
           · exact hall j x hji hjx
           · have e : j = i := by omega
             rw [e, he6] at hjx
             cases hjx
             exact fun e2 => absurd (congrArg (·.2.1) e2) (of_decide_eq_false (decide_eq_false hc9))⟩
       · exact H
     · show z.Ls.length - (i + 1 : Nat) < z.Ls.length - i; omega
   ·
    refine s_no rfl rfl (by exact congrArg Value.bool (decide_eq_false hc8)) rfl ?_
    refine s_no rfl rfl (by exact congrArg Value.bool (decide_eq_false hc8)) rfl ?_
    refine s_no rfl rfl (by exact congrArg Value.bool (decide_eq_false hc8)) rfl ?_
    refine s_no rfl rfl (by exact congrArg Value.bool (decide_eq_false hc8)) rfl ?_
    refine s_no rfl rfl (by exact congrArg Value.bool (decide_eq_false hc8)) rfl ?_
    refine s_no rfl rfl (by exact congrArg Value.bool (decide_eq_false hc8)) rfl ?_
    refine s_no rfl rfl (by exact congrArg Value.bool (decide_eq_false hc8)) rfl ?_
    refine s_no rfl rfl (by exact congrArg Value.bool (decide_eq_false hc8)) rfl ?_
    refine s_no rfl rfl (by exact congrArg Value.bool (decide_eq_false hc8)) rfl ?_
    refine s_no rfl rfl (by exact congrArg Value.bool (decide_eq_false hc8)) rfl ?_
    refine s_op (r_pick (b := false) (congrArg Value.bool (decide_eq_false hc8))) ?_
    refine s_nil ?_
    repeat refine c_seq ?_
    refine c_no rfl ?_
    refine c_skip ?_
    repeat refine c_seq ?_
    refine c_region ?_
    refine l_op (o_val (r_mv) ?_)
    refine l_op (o_val (r_bin (a := (i : Int)) (b := 1) rfl rfl (fun _ => b_add (by omega) (by omega))) ?_)
    refine l_op (o_val (r_as) ?_)
    first | refine l_end ?_ | refine l_nil ?_
    refine round_end (i + 1) ?_ ?_ ?_
    · exact ⟨rfl, rfl, rfl, show VI ((i : Int) + 1) = VI ((i + 1 : Nat) : Int) from congrArg VI (by omega), trivial⟩
    · refine ⟨?_, ?_⟩
      · try dsimp only
        exact ⟨by omega, fun j x hj hjx => by
          by_cases hji : j < i
          · exact hall j x hji hjx
          · have e : j = i := by omega
            rw [e, he6] at hjx
            cases hjx
            exact fun e2 => absurd (congrArg (·.1) e2) (of_decide_eq_false (decide_eq_false hc8))⟩
      · exact H
    · show z.Ls.length - (i + 1 : Nat) < z.Ls.length - i; omega
  ·
   repeat refine c_seq ?_
   refine c_no (by exact congrArg Value.bool (decide_eq_false hc2)) ?_
   refine c_exit ?_
   repeat refine c_seq ?_
   refine c_region ?_
   refine l_op (o_val (r_as) ?_)
   first | refine l_end ?_ | refine l_nil ?_
   refine c_ret ?_
   try dsimp only [Exit.then, Exit.inBlock]
   refine e_ret1 (v := VI (-1)) Try.results51 rfl ?_
   refine ⟨_, rfl, ?_⟩
   refine ⟨?_, H.sub (.cons_cons _ (.cons_cons _ (.cons_cons _ (List.nil_sublist _))))⟩
   rw [atL_none s ⟨o, ho⟩ z.Ls (fun j x hx => hall j x (by have := (List.getElem?_eq_some_iff.1 hx).1; omega) hx)]
end Go.Proofs.Ytncmcgcilijfkaa
