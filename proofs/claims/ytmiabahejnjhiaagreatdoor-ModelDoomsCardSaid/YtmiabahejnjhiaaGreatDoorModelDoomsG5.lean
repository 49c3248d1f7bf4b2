/- Lemmas for the statement ModelDooms, part 5: rules of operations, walks through functions, plain laws. -/
import Derived.Test.YtmiabahejnjhiaaGreatDoorModelDoomsG4
import Derived.Lib.Bytealg
namespace Go.Proofs.YtmiabahejnjhiaaGreatDoor
open Go
set_option maxRecDepth 100000
theorem pass0_ret (w0 : World) (wb nb : Nat) (z : Sta) (hO : Own w0 [.blk wb (wrkE (⟨some nb, (⟨17, [], zId, 0, 0, 0, ⟨none, 0, 0, []⟩, ⟨none, 0, 0, []⟩, 0, zId⟩ : Opr), none, 0⟩ : Wrk)) 75, .blk nb (staE z) 30]) :
    Ret Tryz.prog 20 [.pointer (some ⟨wb, 0, none⟩)] w0 fun v w' => v = .agg (ansE (⟨401, ⟨none, 0, 0, []⟩⟩ : Ans)).toArray ∧ Hp w0 w' (keys [.blk wb (wrkE (⟨some nb, (⟨17, [], zId, 0, 0, 0, ⟨none, 0, 0, []⟩, ⟨none, 0, 0, []⟩, 0, zId⟩ : Opr), none, 0⟩ : Wrk)) 75, .blk nb (staE z) 30]) [.blk wb (wrkE (⟨some nb, (⟨17, [], zId, 0, 0, 0, ⟨none, 0, 0, []⟩, ⟨none, 0, 0, []⟩, 0, zId⟩ : Opr), none, 0⟩ : Wrk)) 75, .blk nb (staE z) 30] := by
  refine ret_mk Tryz.func20 rfl Tryz.ntmps20 (by simp) ?_
  have H := hO.start
  refine rG ?_; refine l_op (o_alloc H zc43 (fun b1 w H hb1 => ?_)); replace H : Hp _ w _ ([.blk wb (wrkE (⟨(some nb), (⟨17, ([] : List UInt8), zId, 0, 0, (0 : UInt8), ⟨none, 0, 0, []⟩, ⟨none, 0, 0, []⟩, 0, zId⟩ : Opr), none, (0 : UInt64)⟩ : Wrk)) 75, .blk nb (staE z) 30, .blk b1 (ansE (⟨0, ⟨none, 0, 0, []⟩⟩ : Ans)) 43]) := H
  refine eN ?_
  refine rG ?_; refine mV ?_; refine lV (r_nilc rfl) ?_; refine lV (r_fa rfl fo75_1) ?_; refine lV (r_fa rfl fo47_7) ?_; refine lV (r_l1 (v := .slice none 0 0) H (i := 0) rfl rfl ct33 ((wrkE_c1 _).comp (oprE_c7 _))) ?_; refine lV (r_lens el33 rfl) ?_; refine lV (r_bin (a := 0) (b := 0) rfl rfl (fun _ => b_eqlB true (decide_eq_true (by decide)))) ?_; refine eN ?_
  refine qY ?_; refine rG ?_; refine l_op (o_callR Tryz.func18 rfl rfl rfl (only_ret _ (401)) ?_); rintro _ w ⟨rfl, Hc⟩
  replace H : Hp _ w _ ([_, _, _]) := H.call Hc
  clear Hc
  refine l_op (o_stW (C' := ansE (⟨401, ⟨none, 0, 0, []⟩⟩ : Ans)) H (i := 2) rfl rfl rfl cs43 (ansE_all _) (ansE_len _) (ansE_len _) (fun w H => ?_)); replace H : Hp _ w _ ([_, _, .blk b1 (ansE (⟨401, ⟨none, 0, 0, []⟩⟩ : Ans)) 43]) := H
  refine eN ?_
  refine cR ?_
  refine e_retc Tryz.results20 H (i := 2) rfl rfl rt43 (ansE_len _).symm ?_
  refine ⟨_, rfl, ?_⟩
  exact ⟨rfl, H.sub (.cons_cons _ (.cons_cons _ (List.nil_sublist _)))⟩
theorem pass1_ret (w0 : World) (wb nb : Nat) (r : Id32) (d : Int) (h : Id32) (s : Sl) (hs : s.ok w0) (hap : s.l ≠ [] → Apart s.a (keys [.blk wb (wrkE (⟨some nb, (⟨17, [], zId, 0, 0, 0, ⟨none, 0, 0, []⟩, s, 0, zId⟩ : Opr), none, 0⟩ : Wrk)) 75, .blk nb (staE (⟨r, d, 0, ⟨none, 0, 0, []⟩, ⟨none, 0, 0, []⟩, ⟨none, 0, 0, []⟩, h⟩ : Sta)) 30])) (hsl : s.l = tokB (tagR r) ∧ s.len ≤ 4096) (hO : Own w0 [.blk wb (wrkE (⟨some nb, (⟨17, [], zId, 0, 0, 0, ⟨none, 0, 0, []⟩, s, 0, zId⟩ : Opr), none, 0⟩ : Wrk)) 75, .blk nb (staE (⟨r, d, 0, ⟨none, 0, 0, []⟩, ⟨none, 0, 0, []⟩, ⟨none, 0, 0, []⟩, h⟩ : Sta)) 30]) :
    Ret Tryz.prog 20 [.pointer (some ⟨wb, 0, none⟩)] w0 fun v w' => v = .agg (ansE (⟨0, ⟨none, 0, 0, []⟩⟩ : Ans)).toArray ∧ Hp w0 w' (keys [.blk wb (wrkE (⟨some nb, (⟨17, [], zId, 0, 0, 0, ⟨none, 0, 0, []⟩, s, 0, zId⟩ : Opr), none, 0⟩ : Wrk)) 75, .blk nb (staE (⟨r, d, 0, ⟨none, 0, 0, []⟩, ⟨none, 0, 0, []⟩, ⟨none, 0, 0, []⟩, h⟩ : Sta)) 30]) [.blk wb (wrkE (⟨some nb, (⟨17, [], zId, 0, 0, 0, ⟨none, 0, 0, []⟩, s, 0, zId⟩ : Opr), none, 0⟩ : Wrk)) 75, .blk nb (staE (⟨r, d, 0, ⟨none, 0, 0, []⟩, ⟨none, 0, 0, []⟩, ⟨none, 0, 0, []⟩, h⟩ : Sta)) 30] := by
  refine ret_mk Tryz.func20 rfl Tryz.ntmps20 (by simp) ?_
  have H := hO.start
  have hsn := hs.ln
  have hs0 : s.len ≠ 0 := by
    intro h0
    rw [h0, hsl.1] at hsn
    simp [tokB] at hsn
  refine rG ?_; refine l_op (o_alloc H zc43 (fun b1 w H hb1 => ?_)); replace H : Hp _ w _ ([.blk wb (wrkE (⟨(some nb), (⟨17, ([] : List UInt8), zId, 0, 0, (0 : UInt8), ⟨none, 0, 0, []⟩, s, 0, zId⟩ : Opr), none, (0 : UInt64)⟩ : Wrk)) 75, .blk nb (staE (⟨r, d, (0 : UInt64), ⟨none, 0, 0, []⟩, ⟨none, 0, 0, []⟩, ⟨none, 0, 0, []⟩, h⟩ : Sta)) 30, .blk b1 (ansE (⟨0, ⟨none, 0, 0, []⟩⟩ : Ans)) 43]) := H
  refine eN ?_
  refine rG ?_; refine mV ?_; refine lV (r_nilc rfl) ?_; refine lV (r_fa rfl fo75_1) ?_; refine lV (r_fa rfl fo47_7) ?_; refine lV (r_l1 (v := s.v) H (i := 0) rfl rfl ct33 ((wrkE_c1 _).comp (oprE_c7 _))) ?_; refine lV (r_lens el33 rfl) ?_; refine lV (r_bin (a := (s.len : Int)) (b := 0) rfl rfl (fun _ => b_eqlB false (decide_eq_false oM))) ?_; refine eN ?_
  refine qN ?_; refine c_skip ?_; refine rG ?_; refine mV ?_; refine lV (r_nilc rfl) ?_; refine lV (r_fa rfl fo75_1) ?_; refine lV (r_fa rfl fo47_7) ?_; refine lV (r_l1 (v := s.v) H (i := 0) rfl rfl ct33 ((wrkE_c1 _).comp (oprE_c7 _))) ?_; refine l_op (o_callR Tryz.func41 rfl rfl rfl (take1_ret _ r s (hs.up H hap) hsl) ?_); rintro _ w ⟨rfl, Hc⟩
  replace H : Hp _ w _ ([_, _, _]) := H.call Hc
  clear Hc
  refine mV ?_; refine lV (r_ext rfl rfl) ?_; refine lV (r_ext rfl rfl) ?_; refine l_op (o_alloc H zc40 (fun b2 w H hb2 => ?_)); replace H : Hp _ w _ ([_, _, _, .blk b2 ([V64 (0 : UInt64), .string ⟨(([] : List UInt8)).toArray⟩, V8 (0 : UInt8), VI 0, VI 0, .slice none 0 0] ++ (List.replicate 32 (0 : UInt8)).map V8) 40]) := H
  refine l_op (o_stW (C' := [V64 (0 : UInt64), .string ⟨(([] : List UInt8)).toArray⟩, V8 (15 : UInt8), VI 0, VI 9223372036854775807, .slice none 0 0] ++ (tagR r).map V8) H (i := 3) rfl rfl rfl cs40 (by simp [Value.oneCell']) (by rw [List.length_append, List.length_map, (show (List.replicate 32 (0 : UInt8)).length = 32 from (List.length_replicate ..))]; rfl) (by rw [List.length_append, List.length_map, (show (tagR r).length = 32 from tagR_len _)]; rfl) (fun w H => ?_)); replace H : Hp _ w _ ([_, _, _, .blk b2 ([V64 (0 : UInt64), .string ⟨(([] : List UInt8)).toArray⟩, V8 (15 : UInt8), VI 0, VI 9223372036854775807, .slice none 0 0] ++ (tagR r).map V8) 40]) := H
  refine aZ ?_; refine eN ?_
  repeat refine c_seq ?_
  refine heldH H mixed fun H => ?_
  have HS := H
  refine tK 0 rfl (fun w HS => r_mv) HS ?_; refine tK 1 rfl (fun w HS => r_bin (a := 0) (b := 0) rfl rfl (fun _ => b_neqB false (decide_eq_false (by decide)))) HS ?_; refine tK 2 rfl (fun w HS => r_mv) HS ?_; refine tG 3 rfl (yK rfl rfl rfl) (fun w HS => r_mv) HS ?_; refine tG 4 rfl (yK rfl rfl rfl) (fun w HS => r_nilc rfl) HS ?_; refine tG 5 rfl (yK rfl rfl rfl) (fun w HS => r_fa rfl fo75_0) HS ?_; refine tG 6 rfl (yK rfl rfl rfl) (fun w HS => r_l1 (v := .pointer (some ⟨nb, 0, none⟩)) HS (i := 0) rfl rfl ct72 (wrkE_c0 _)) HS ?_; refine tG 7 rfl (yK rfl rfl rfl) (fun w HS => r_nilc rfl) HS ?_; refine tG 8 rfl (yK rfl rfl rfl) (fun w HS => r_fa rfl fo30_0) HS ?_; refine tG 9 rfl (yK rfl rfl rfl) (fun w HS => r_lk HS (i := 1) rfl rfl rt24 (staE_c0 _)) HS ?_; refine tG 10 rfl (yK rfl rfl rfl) (fun w HS => r_ldA (C := [V64 (0 : UInt64), .string ⟨(([] : List UInt8)).toArray⟩, V8 (15 : UInt8), VI 0, VI 9223372036854775807, .slice none 0 0] ++ (tagR r).map V8) HS (i := 3) rfl rfl rt40 (by rw [List.length_append, List.length_map, (show (tagR r).length = 32 from tagR_len _)]; rfl)) HS ?_; refine tG 11 rfl (yK rfl rfl rfl) (fun w HS => r_mv) HS ?_; refine tG 12 rfl (yK rfl rfl rfl) (fun w HS => r_nilc rfl) HS ?_; refine tG 13 rfl (yK rfl rfl rfl) (fun w HS => r_fa rfl fo75_1) HS ?_; refine tG 14 rfl (yK rfl rfl rfl) (fun w HS => r_fa rfl fo47_8) HS ?_; refine tG 15 rfl (yK rfl rfl rfl) (fun w HS => r_l1 (v := VI 0) HS (i := 0) rfl rfl ct2 ((wrkE_c1 _).comp (oprE_c8 _))) HS ?_; refine t_stepg 16 rfl (by kernel_rfl) (yK rfl rfl rfl) (o_callR Tryz.func42 rfl rfl rfl (check0_ret _ r (0) ⟨Int.le_refl _, by decide⟩) ?_); rintro _ w ⟨rfl, Hc⟩
  replace H : Hp _ w _ ([_, _, _, _]) := H.call Hc
  clear Hc
  replace HS := H
  refine ⟨HS, ?_⟩
  refine tG 17 rfl (yK rfl rfl rfl) (fun w HS => r_bin (a := 0) (b := 0) rfl rfl (fun _ => b_neqB false (decide_eq_false (by decide)))) HS ?_; refine tK 18 rfl (fun w HS => r_pick rfl) HS ?_; refine t_done (by kernel_rfl) ?_
  clear HS
  refine qN ?_; refine c_skip ?_; repeat refine c_seq ?_
  refine heldH H mixed fun H => ?_
  have HS := H
  refine tK 0 rfl (fun w HS => r_mv) HS ?_; refine tK 1 rfl (fun w HS => r_nilc rfl) HS ?_; refine tK 2 rfl (fun w HS => r_fa rfl fo75_0) HS ?_; refine tK 3 rfl (fun w HS => r_l1 (v := .pointer (some ⟨nb, 0, none⟩)) HS (i := 0) rfl rfl ct72 (wrkE_c0 _)) HS ?_; refine tK 4 rfl (fun w HS => r_nilc rfl) HS ?_; refine tK 5 rfl (fun w HS => r_fa rfl fo30_4) HS ?_; refine tK 6 rfl (fun w HS => r_l1 (v := .slice none 0 0) HS (i := 1) rfl rfl ct27 (staE_c4 _)) HS ?_; refine tK 7 rfl (fun w HS => r_fa rfl fo40_0) HS ?_; refine tK 8 rfl (fun w HS => r_ld (v := V64 (0 : UInt64)) HS (i := 3) rfl rfl ct25 rfl) HS ?_; refine tU 9 rfl (o_callR Tryz.func43 rfl rfl rfl (bsu_ret _ ((0 : UInt64))) ?_); rintro _ w ⟨rfl, Hc⟩
  replace H : Hp _ w _ ([_, _, _, _]) := H.call Hc
  clear Hc
  replace HS := H
  refine ⟨HS, ?_⟩
  refine tK 10 rfl (fun w HS => r_mv) HS ?_; refine tK 11 rfl (fun w HS => r_ext rfl rfl) HS ?_; refine tK 12 rfl (fun w HS => r_ext rfl rfl) HS ?_; refine tK 13 rfl (fun w HS => r_as) HS ?_; refine tK 14 rfl (fun w HS => r_as) HS ?_; refine t_done (by kernel_rfl) ?_
  clear HS
  refine rG ?_; refine mV ?_; refine eN ?_
  refine qN ?_; refine c_skip ?_; refine rG ?_; refine mV ?_; refine lV (r_fa rfl fo40_0) ?_; refine lV (r_ld (v := V64 (0 : UInt64)) H (i := 3) rfl rfl ct25 rfl) ?_; refine lV (r_nilc rfl) ?_; refine lV (r_fa rfl fo75_3) ?_; refine l_op (o_s1P (C' := wrkE (⟨(some nb), (⟨17, ([] : List UInt8), zId, 0, 0, (0 : UInt8), ⟨none, 0, 0, []⟩, s, 0, zId⟩ : Opr), none, (0 : UInt64)⟩ : Wrk)) (u := V64 (0 : UInt64)) H (i := 0) rfl rfl rfl cs25 rfl (wrkE_p3 _ (0 : UInt64)) (fun w H => ?_)); replace H : Hp _ w _ [_, _, _, _] := H
  refine eN ?_
  refine rG ?_; refine mV ?_; refine lV (r_nilc rfl) ?_; refine lV (r_fa rfl fo75_1) ?_; refine lV (r_fa rfl fo47_0) ?_; refine lV (r_l1 (v := VI 17) H (i := 0) rfl rfl ct3 ((wrkE_c1 _).comp (oprE_c0 _))) ?_; refine l_op (o_callR Tryz.func44 rfl rfl rfl (needs17_ret _) ?_); rintro _ w ⟨rfl, Hc⟩
  replace H : Hp _ w _ ([_, _, _, _]) := H.call Hc
  clear Hc
  refine mV ?_; refine lV (r_ext rfl rfl) ?_; refine lV (r_ext rfl rfl) ?_; refine aZ ?_; refine aZ ?_; refine eN ?_
  refine rG ?_; refine lV (r_ldA (C := [V64 (0 : UInt64), .string ⟨(([] : List UInt8)).toArray⟩, V8 (15 : UInt8), VI 0, VI 9223372036854775807, .slice none 0 0] ++ (tagR r).map V8) H (i := 3) rfl rfl rt40 (by rw [List.length_append, List.length_map, (show (tagR r).length = 32 from tagR_len _)]; rfl)) ?_; refine l_op (o_callR Tryz.func45 rfl rfl rfl (eff0_ret _ (tagR r) (show (tagR r).length = 32 from tagR_len _)) ?_); rintro _ w ⟨rfl, Hc⟩
  replace H : Hp _ w _ ([_, _, _, _]) := H.call Hc
  clear Hc
  refine mV ?_; refine lV (r_ext rfl rfl) ?_; refine lV (r_ext rfl rfl) ?_; refine aZ ?_; refine aZ ?_; refine eN ?_
  repeat refine c_seq ?_
  refine heldH H mixed fun H => ?_
  have HS := H
  refine tK 0 rfl (fun w HS => r_mv) HS ?_; refine tK 1 rfl (fun w HS => r_mv) HS ?_; refine tU 2 rfl (o_callR Tryz.func46 rfl rfl rfl (rcov_ret _ ((15 : UInt8)) ((8 : UInt8))) ?_); rintro _ w' ⟨rfl, hw3⟩
  rw [hw3]; clear hw3 w'
  have hk4 : (rCov ((15 : UInt8)) ((8 : UInt8))) = true := (by rfl)
  replace HS := H
  refine ⟨HS, ?_⟩
  refine tK 3 rfl (fun w HS => r_not rfl) HS ?_; refine tK 4 rfl (fun w HS => r_mv) HS ?_; refine tG 5 rfl (yK rfl rfl (by exact congrArg Value.bool (congrArg not hk4))) (fun w HS => r_fa rfl fo40_1) HS ?_; refine tG 6 rfl (yK rfl rfl (by exact congrArg Value.bool (congrArg not hk4))) (fun w HS => r_ld (v := .string ⟨(([] : List UInt8)).toArray⟩) HS (i := 3) rfl rfl ct9 rfl) HS ?_; refine tG 7 rfl (yK rfl rfl (by exact congrArg Value.bool (congrArg not hk4))) (fun w HS => r_strne (a := ([] : List UInt8)) (b := ([] : List UInt8)) rfl rfl) HS ?_; refine tG 8 rfl (yK rfl rfl (by exact congrArg Value.bool (congrArg not hk4))) (fun w HS => r_mv) HS ?_; refine tN 9 rfl (yK rfl rfl (by exact congrArg Value.bool (congrArg not (decide_eq_true (rfl : ([] : List UInt8) = ([] : List UInt8)))))) rfl HS ?_; refine tN 10 rfl (yK rfl rfl (by exact congrArg Value.bool (congrArg not (decide_eq_true (rfl : ([] : List UInt8) = ([] : List UInt8)))))) rfl HS ?_; refine tN 11 rfl (yK rfl rfl (by exact congrArg Value.bool (congrArg not (decide_eq_true (rfl : ([] : List UInt8) = ([] : List UInt8)))))) rfl HS ?_; refine tN 12 rfl (yK rfl rfl (by exact congrArg Value.bool (congrArg not (decide_eq_true (rfl : ([] : List UInt8) = ([] : List UInt8)))))) rfl HS ?_; refine tN 13 rfl (yK rfl rfl (by exact congrArg Value.bool (congrArg not (decide_eq_true (rfl : ([] : List UInt8) = ([] : List UInt8)))))) rfl HS ?_; refine tN 14 rfl (yK rfl rfl (by exact congrArg Value.bool (congrArg not (decide_eq_true (rfl : ([] : List UInt8) = ([] : List UInt8)))))) rfl HS ?_; refine tN 15 rfl (yK rfl rfl (by exact congrArg Value.bool (congrArg not (decide_eq_true (rfl : ([] : List UInt8) = ([] : List UInt8)))))) rfl HS ?_; refine t_non 16 rfl (by kernel_rfl) (by kernel_rfl) (by kernel_rfl) (fun _ _ _ h => h) rfl rfl rfl HS ?_; refine t_non 17 rfl (by kernel_rfl) (by kernel_rfl) (by kernel_rfl) (fun _ _ _ h => h) rfl rfl rfl HS ?_; refine t_non 18 rfl (by kernel_rfl) (by kernel_rfl) (by kernel_rfl) (fun _ _ _ h => h) rfl rfl rfl HS ?_; refine t_non 19 rfl (by kernel_rfl) (by kernel_rfl) (by kernel_rfl) (fun _ _ _ h => h) rfl rfl rfl HS ?_; refine t_non 20 rfl (by kernel_rfl) (by kernel_rfl) (by kernel_rfl) (fun _ _ _ h => h) rfl rfl rfl HS ?_; refine t_non 21 rfl (by kernel_rfl) (by kernel_rfl) (by kernel_rfl) (fun _ _ _ h => h) rfl rfl rfl HS ?_; refine t_non 22 rfl (by kernel_rfl) (by kernel_rfl) (by kernel_rfl) (fun _ _ _ h => h) rfl rfl rfl HS ?_; refine t_non 23 rfl (by kernel_rfl) (by kernel_rfl) (by kernel_rfl) (fun _ _ _ h => h) rfl rfl rfl HS ?_; refine tN 24 rfl (yK rfl rfl (by exact congrArg Value.bool (congrArg not (decide_eq_true (rfl : ([] : List UInt8) = ([] : List UInt8)))))) rfl HS ?_; refine tG 25 rfl (yK rfl rfl (by exact congrArg Value.bool (congrArg not hk4))) (fun w HS => r_pick (b := false) (congrArg Value.bool (congrArg not (decide_eq_true (rfl : ([] : List UInt8) = ([] : List UInt8)))))) HS ?_; refine tK 26 rfl (fun w HS => r_pick (b := false) (congrArg Value.bool (congrArg not hk4))) HS ?_; refine t_done (by kernel_rfl) ?_
  clear HS
  refine qN ?_; refine c_skip ?_; repeat refine c_seq ?_
  refine heldH H mixed fun H => ?_
  have HS := H
  refine tK 0 rfl (fun w HS => r_mv) HS ?_; refine tK 1 rfl (fun w HS => r_nilc rfl) HS ?_; refine tK 2 rfl (fun w HS => r_fa rfl fo75_0) HS ?_; refine tK 3 rfl (fun w HS => r_l1 (v := .pointer (some ⟨nb, 0, none⟩)) HS (i := 0) rfl rfl ct72 (wrkE_c0 _)) HS ?_; refine tK 4 rfl (fun w HS => r_nilc rfl) HS ?_; refine tK 5 rfl (fun w HS => r_fa rfl fo30_3) HS ?_; refine tK 6 rfl (fun w HS => r_l1 (v := .slice none 0 0) HS (i := 1) rfl rfl ct26 (staE_c3 _)) HS ?_; refine tK 7 rfl (fun w HS => r_mv) HS ?_; refine tK 8 rfl (fun w HS => r_nilc rfl) HS ?_; refine tK 9 rfl (fun w HS => r_fa rfl fo75_1) HS ?_; refine tK 10 rfl (fun w HS => r_fa rfl fo47_1) HS ?_; refine tK 11 rfl (fun w HS => r_l1 (v := .string ⟨(([] : List UInt8)).toArray⟩) HS (i := 0) rfl rfl ct9 ((wrkE_c1 _).comp (oprE_c1 _))) HS ?_; refine tU 12 rfl (o_callR Tryz.func48 rfl rfl rfl (bst_ret _ (([] : List UInt8)) (.func (.func 49) #[] #[])) ?_); rintro _ w ⟨rfl, Hc⟩
  replace H : Hp _ w _ ([_, _, _, _]) := H.call Hc
  clear Hc
  replace HS := H
  refine ⟨HS, ?_⟩
  refine tK 13 rfl (fun w HS => r_mv) HS ?_; refine tK 14 rfl (fun w HS => r_ext rfl rfl) HS ?_; refine tK 15 rfl (fun w HS => r_ext rfl rfl) HS ?_; refine tK 16 rfl (fun w HS => r_as) HS ?_; refine tK 17 rfl (fun w HS => r_as) HS ?_; refine t_done (by kernel_rfl) ?_
  clear HS
  refine rG ?_; refine mV ?_; refine eN ?_
  refine qN ?_; refine c_skip ?_; refine rG ?_; refine mV ?_; refine lV (r_nilc rfl) ?_; refine lV (r_fa rfl fo75_1) ?_; refine lV (r_fa rfl fo47_0) ?_; refine lV (r_l1 (v := VI 17) H (i := 0) rfl rfl ct3 ((wrkE_c1 _).comp (oprE_c0 _))) ?_; refine aZ ?_; refine eN ?_
  refine qB ?_; refine rG ?_; refine mV ?_; refine lV (r_bin (a := 17) (b := 10) rfl rfl (fun _ => b_eqlB false (decide_eq_false (by decide)))) ?_; refine aZ ?_; refine eN ?_
  refine qN ?_; refine rG ?_; refine mV ?_; refine lV (r_bin (a := 17) (b := 13) rfl rfl (fun _ => b_eqlB false (decide_eq_false (by decide)))) ?_; refine aZ ?_; refine eN ?_
  refine qN ?_; refine rG ?_; refine mV ?_; refine lV (r_bin (a := 17) (b := 16) rfl rfl (fun _ => b_eqlB false (decide_eq_false (by decide)))) ?_; refine aZ ?_; refine eN ?_
  refine qN ?_; refine rG ?_; refine mV ?_; refine lV (r_bin (a := 17) (b := 17) rfl rfl (fun _ => b_eqlB true (decide_eq_true (by decide)))) ?_; refine aZ ?_; refine eN ?_
  refine qY ?_; refine c_skip ?_; refine rG ?_; refine l_op (o_callR Tryz.func18 rfl rfl rfl (only_ret _ (0)) ?_); rintro _ w ⟨rfl, Hc⟩
  replace H : Hp _ w _ ([_, _, _, _]) := H.call Hc
  clear Hc
  refine l_op (o_stW (C' := ansE (⟨0, ⟨none, 0, 0, []⟩⟩ : Ans)) H (i := 2) rfl rfl rfl cs43 (ansE_all _) (ansE_len _) (ansE_len _) (fun w H => ?_)); replace H : Hp _ w _ [_, _, _, _] := H
  refine eN ?_
  refine cR ?_
  refine e_retc Tryz.results20 H (i := 2) rfl rfl rt43 (ansE_len _).symm ?_
  refine ⟨_, rfl, ?_⟩
  exact ⟨rfl, H.sub (.cons_cons _ (.cons_cons _ (List.nil_sublist _)))⟩
theorem do1_ret (w0 : World) (wb nb : Nat) (z : Sta) (s : Sl) (hO : Own w0 [.blk wb (wrkE (⟨some nb, (⟨17, [], zId, 0, 0, 0, ⟨none, 0, 0, []⟩, s, 0, zId⟩ : Opr), none, 0⟩ : Wrk)) 75, .blk nb (staE z) 30]) :
    Ret Tryz.prog 21 [.pointer (some ⟨wb, 0, none⟩)] w0 fun v w' => ∃ a c, v = .agg (ansE (⟨200, ⟨hd a, 32, c, z.head.1⟩⟩ : Ans)).toArray ∧ Hp w0 w' (keys [.blk wb (wrkE (⟨some nb, (⟨17, [], zId, 0, 0, 0, ⟨none, 0, 0, []⟩, s, 0, zId⟩ : Opr), none, 0⟩ : Wrk)) 75, .blk nb (staE z) 30]) [.blk wb (wrkE (⟨some nb, (⟨17, [], zId, 0, 0, 0, ⟨none, 0, 0, []⟩, s, 0, zId⟩ : Opr), none, 0⟩ : Wrk)) 75, .blk nb (staE z) 30, .own a 32 c (z.head.1.map V8) 5 1] := by
  refine ret_mk Tryz.func21 rfl Tryz.ntmps21 (by simp) ?_
  have H := hO.start
  refine rG ?_; refine l_op (o_alloc H zc43 (fun b1 w H hb1 => ?_)); replace H : Hp _ w _ ([.blk wb (wrkE (⟨(some nb), (⟨17, ([] : List UInt8), zId, 0, 0, (0 : UInt8), ⟨none, 0, 0, []⟩, s, 0, zId⟩ : Opr), none, (0 : UInt64)⟩ : Wrk)) 75, .blk nb (staE z) 30, .blk b1 (ansE (⟨0, ⟨none, 0, 0, []⟩⟩ : Ans)) 43]) := H
  refine eN ?_
  refine rG ?_; refine mV ?_; refine lV (r_nilc rfl) ?_; refine lV (r_fa rfl fo75_1) ?_; refine lV (r_fa rfl fo47_0) ?_; refine lV (r_l1 (v := VI 17) H (i := 0) rfl rfl ct3 ((wrkE_c1 _).comp (oprE_c0 _))) ?_; refine eN ?_
  refine qB ?_; refine rG ?_; refine lV (r_bin (a := 17) (b := 1) rfl rfl (fun _ => b_eqlB false (decide_eq_false (by decide)))) ?_; refine aZ ?_; refine eN ?_
  refine qN ?_; refine rG ?_; refine lV (r_bin (a := 17) (b := 2) rfl rfl (fun _ => b_eqlB false (decide_eq_false (by decide)))) ?_; refine aZ ?_; refine eN ?_
  refine qN ?_; refine rG ?_; refine lV (r_bin (a := 17) (b := 3) rfl rfl (fun _ => b_eqlB false (decide_eq_false (by decide)))) ?_; refine aZ ?_; refine eN ?_
  refine qN ?_; refine rG ?_; refine lV (r_bin (a := 17) (b := 4) rfl rfl (fun _ => b_eqlB false (decide_eq_false (by decide)))) ?_; refine aZ ?_; refine eN ?_
  refine qN ?_; refine rG ?_; refine lV (r_bin (a := 17) (b := 5) rfl rfl (fun _ => b_eqlB false (decide_eq_false (by decide)))) ?_; refine aZ ?_; refine eN ?_
  refine qN ?_; refine rG ?_; refine lV (r_bin (a := 17) (b := 6) rfl rfl (fun _ => b_eqlB false (decide_eq_false (by decide)))) ?_; refine aZ ?_; refine eN ?_
  refine qN ?_; refine rG ?_; refine lV (r_bin (a := 17) (b := 7) rfl rfl (fun _ => b_eqlB false (decide_eq_false (by decide)))) ?_; refine aZ ?_; refine eN ?_
  refine qN ?_; refine rG ?_; refine lV (r_bin (a := 17) (b := 8) rfl rfl (fun _ => b_eqlB false (decide_eq_false (by decide)))) ?_; refine aZ ?_; refine eN ?_
  refine qN ?_; refine rG ?_; refine lV (r_bin (a := 17) (b := 9) rfl rfl (fun _ => b_eqlB false (decide_eq_false (by decide)))) ?_; refine aZ ?_; refine eN ?_
  refine qN ?_; refine rG ?_; refine lV (r_bin (a := 17) (b := 10) rfl rfl (fun _ => b_eqlB false (decide_eq_false (by decide)))) ?_; refine aZ ?_; refine eN ?_
  refine qN ?_; refine rG ?_; refine lV (r_bin (a := 17) (b := 11) rfl rfl (fun _ => b_eqlB false (decide_eq_false (by decide)))) ?_; refine aZ ?_; refine eN ?_
  refine qN ?_; refine rG ?_; refine lV (r_bin (a := 17) (b := 12) rfl rfl (fun _ => b_eqlB false (decide_eq_false (by decide)))) ?_; refine aZ ?_; refine eN ?_
  refine qN ?_; refine rG ?_; refine lV (r_bin (a := 17) (b := 13) rfl rfl (fun _ => b_eqlB false (decide_eq_false (by decide)))) ?_; refine aZ ?_; refine eN ?_
  refine qN ?_; refine rG ?_; refine lV (r_bin (a := 17) (b := 14) rfl rfl (fun _ => b_eqlB false (decide_eq_false (by decide)))) ?_; refine aZ ?_; refine eN ?_
  refine qN ?_; refine rG ?_; refine lV (r_bin (a := 17) (b := 15) rfl rfl (fun _ => b_eqlB false (decide_eq_false (by decide)))) ?_; refine aZ ?_; refine eN ?_
  refine qN ?_; refine rG ?_; refine lV (r_bin (a := 17) (b := 16) rfl rfl (fun _ => b_eqlB false (decide_eq_false (by decide)))) ?_; refine aZ ?_; refine eN ?_
  refine qN ?_; refine c_skip ?_; refine rG ?_; refine mV ?_; refine lV (r_nilc rfl) ?_; refine lV (r_fa rfl fo75_0) ?_; refine lV (r_l1 (v := .pointer (some ⟨nb, 0, none⟩)) H (i := 0) rfl rfl ct72 (wrkE_c0 _)) ?_; refine lV (r_nilc rfl) ?_; refine lV (r_fa rfl fo30_6) ?_; refine lV (r_slAo (o := 37) (h := 32) (m := 32) (lv := none) (hv := none) (mv := none) rfl ar24 rfl rfl rfl (fun w => sbn w)) ?_; refine l_op (o_callR Tryz.func57 rfl rfl rfl (clone8_ret _ (⟨some ⟨nb, 37, none⟩, 32, 32, z.head.1⟩ : Sl) (H.slMid (i := 1) rfl (staE_c6 _) (by decide)) rfl (by first | decide | omega | (dsimp only; omega))) ?_); rintro _ w ⟨a2, c3, rfl, Hc⟩
  replace H : Hp _ w _ ([_, _, _, .own a2 32 c3 ((z.head.1).map V8) 5 1]) := H.call Hc
  clear Hc
  refine l_op (o_callR Tryz.func56 rfl rfl rfl (told_ret _ (⟨hd a2, 32, c3, z.head.1⟩)) ?_); rintro _ w ⟨rfl, Hc⟩
  replace H : Hp _ w _ ([_, _, _, _]) := H.call Hc
  clear Hc
  refine l_op (o_stW (C' := ansE (⟨200, ⟨hd a2, 32, c3, z.head.1⟩⟩ : Ans)) H (i := 2) rfl rfl rfl cs43 (ansE_all _) (ansE_len _) (ansE_len _) (fun w H => ?_)); replace H : Hp _ w _ ([_, _, .blk b1 (ansE (⟨200, ⟨hd a2, 32, c3, z.head.1⟩⟩ : Ans)) 43, _]) := H
  refine eN ?_
  refine cR ?_
  refine e_retc Tryz.results21 H (i := 2) rfl rfl rt43 (ansE_len _).symm ?_
  refine ⟨_, rfl, ?_⟩
  exact ⟨_, _, rfl, H.sub (.cons_cons _ (.cons_cons _ (.cons _ (.cons_cons _ (List.nil_sublist _)))))⟩
end Go.Proofs.YtmiabahejnjhiaaGreatDoor
namespace Go.Proofs.YtmiabahejnjhiaaGreatDoor
open Go
set_option maxRecDepth 100000
theorem run_load_cell {P : Program} {w : World} {a : Addr} {v : Value} (h : w.cell? a = some v) : (load a).run P w = .ok v w := by simp [load, Sem.run, h]
theorem run_loadBytes {P : Program} {w : World} {b : Nat} {C : Array Value} {T fr} (hb : w.heap[b]? = some (.cells C T fr)) : ∀ (l : List UInt8) (o : Nat) (acc : ByteArray), (∀ i v, (l.map V8)[i]? = some v → C[o + i]? = some v) →
    (Extern.Bytes.loadBytes ⟨b, o, none⟩ l.length acc).run P w = .ok ⟨(acc.data.toList ++ l).toArray⟩ w
  | [], o, acc, _ => by simp [Extern.Bytes.loadBytes]
  | c :: l, o, acc, h => by
    have h0 : C[o]? = some (V8 c) := by simpa using h 0 (V8 c) (by simp)
    have hc : w.cell? ⟨b, o, none⟩ = some (V8 c) := by simp [World.cell?, hb, h0]
    have ih := run_loadBytes (P := P) hb l (o + 1) (acc.push c) (fun i v hv => by
      have := h (i + 1) v (by simpa using hv)
      rw [show o + 1 + i = o + (i + 1) by omega]; exact this)
    rw [List.length_cons, Extern.Bytes.loadBytes]
    simp only [Sem.run_bind, run_load_cell hc, Result.andThen_ok, V8]
    have e1 : ((c.toNat : Int)).toNat.toUInt8 = c := by simp
    rw [e1]
    have e2 : (⟨b, o, none⟩ : Addr).add 1 = ⟨b, o + 1, none⟩ := rfl
    rw [e2, ih]
    simp [ByteArray.push]
theorem run_bytesOf {P : Program} {w : World} {s : Sl} (hs : s.ok w) : (Extern.Bytes.bytesOf s.v).run P w = .ok ⟨s.l.toArray⟩ w := by
  have hl := hs.ln
  rcases hs.rd with h | ⟨b, o, C, T, fr, ha, hb, hc⟩
  · have h0 : s.l = [] := by simpa using h
    rw [h0] at hl ⊢
    have hl0 : s.len = 0 := hl.symm
    unfold Sl.v
    rw [hl0]
    cases s.a with
    | none => simp [Extern.Bytes.bytesOf]; rfl
    | some a => simp [Extern.Bytes.bytesOf, Extern.Bytes.loadBytes]; rfl
  · unfold Sl.v
    rw [ha, ← hl]
    have := run_loadBytes (P := P) hb s.l o .empty hc
    simpa [Extern.Bytes.bytesOf] using this
theorem run_compare {P : Program} {w : World} {s u : Sl} (hs : s.ok w) (hu : u.ok w) : (Extern.BytealgCompare.compare #[s.v, u.v]).run P w = .ok (.int .i64 (Lib.compareBytes s.l u.l)) w := by
  change Sem.run P (do pure (goInt (Extern.BytealgCompare.cmp (← Extern.Bytes.bytesOf s.v) (← Extern.Bytes.bytesOf u.v)))) w = _
  simp only [Sem.run_bind, run_bytesOf hs, run_bytesOf hu, Result.andThen_ok, Sem.run_pure, Lib.cmp_eq]
  rfl
open Go.Proofs in
set_option maxHeartbeats 1000000 in
theorem bytesCompare_ret (w : World) (s u : Sl) (hs : s.ok w) (hu : u.ok w) : Ret Tryz.prog 50 [s.v, u.v] w fun v w' => v = VI (Lib.compareBytes s.l u.l) ∧ w' = w := by
  have hc := run_compare (P := Tryz.prog) hs hu
  unfold Sl.v at hc ⊢
  have h : Calls Tryz.prog 50 #[.slice s.a s.len s.cap, .slice u.a u.len u.cap] w fun e w' => e = .returned (VI (Lib.compareBytes s.l u.l)) ∧ w' = w := by
    go_enter Tryz.func50, Tryz.ntmps50
    go_wp2
    rw [run_callFunc_extern Tryz.func82 (by kernel_rfl) (by kernel_rfl) (by kernel_rfl) (e := Extern.BytealgCompare.compare) (by kernel_rfl), hc]
    simp only [Result.andThen]
    rw [Oper.upon_value]
    go_wp2
    go_ret
    exact ⟨rfl, rfl⟩
  exact Calls.mono h fun e w' ⟨he, hw⟩ => ⟨_, he, rfl, hw⟩
end Go.Proofs.YtmiabahejnjhiaaGreatDoor
namespace Go.Proofs.YtmiabahejnjhiaaGreatDoor
open Go
set_option maxRecDepth 100000
theorem mayA_ret (w0 : World) (d : Int) (hdo : d = 1 ∨ d = 3 ∨ d = 7 ∨ d = 8 ∨ d = 10 ∨ d = 15) (of : Id32) (n : Int) (b t : Sl) (now : Int) (hm : 0 ≤ n ∧ b.len ≤ 4096 ∧ 0 ≤ now) :
    Ret Tryz.prog 19 [.agg (oprE (⟨d, ([97] : List UInt8), of, n, 0, (0 : UInt8), b, t, now, zId⟩ : Opr)).toArray] w0 fun v w' => v = .bool true ∧ Hp w0 w' [] [] := by
  refine ret_mk Tryz.func19 rfl Tryz.ntmps19 (by simp) ?_
  have H := Hp.refl w0 []
  obtain ⟨hm1, hm2, hm3⟩ := hm
  have hz0 : ([97] : List UInt8).length = 1 := rfl
  refine rG ?_; refine l_op (o_box (v := .agg (oprE (⟨d, ([97] : List UInt8), of, n, 0, (0 : UInt8), b, t, now, zId⟩ : Opr)).toArray) H rfl (fun b1 w H hb1 => ?_)); replace H : Hp _ w _ ([.blk b1 (oprE (⟨d, ([97] : List UInt8), of, n, 0, (0 : UInt8), b, t, now, zId⟩ : Opr)) 47]) := H
  refine aZ ?_; refine eN ?_
  refine rG ?_; refine lV (r_fa rfl fo47_0) ?_; refine lV (r_l1 (v := VI d) H (i := 0) rfl rfl ct3 (oprE_c0 _)) ?_; refine lV (r_bin (a := d) (b := 1) rfl rfl (fun _ => b_lssB false (decide_eq_false oM))) ?_; refine mV ?_; refine l_yes rfl rfl rfl (o_val (r_fa rfl fo47_0) ?_); refine l_yes rfl rfl rfl (o_val (r_l1 (v := VI d) H (i := 0) rfl rfl ct3 (oprE_c0 _)) ?_); refine l_yes rfl rfl rfl (o_val (r_bin (a := d) (b := 17) rfl rfl (fun _ => b_gtrB false (decide_eq_false oM))) ?_); refine lV (r_pick rfl) ?_; refine mV ?_; refine l_yes rfl rfl rfl (o_val (r_fa rfl fo47_8) ?_); refine l_yes rfl rfl rfl (o_val (r_l1 (v := VI now) H (i := 0) rfl rfl ct2 (oprE_c8 _)) ?_); refine l_yes rfl rfl rfl (o_val (r_bin (a := now) (b := 0) rfl rfl (fun _ => b_lssB false (decide_eq_false oM))) ?_); refine lV (r_pick rfl) ?_; refine mV ?_; refine l_yes rfl rfl rfl (o_val (r_fa rfl fo47_3) ?_); refine l_yes rfl rfl rfl (o_val (r_l1 (v := VI n) H (i := 0) rfl rfl ct2 (oprE_c3 _)) ?_); refine l_yes rfl rfl rfl (o_val (r_bin (a := n) (b := 0) rfl rfl (fun _ => b_lssB false (decide_eq_false oM))) ?_); refine lV (r_pick rfl) ?_; refine mV ?_; refine l_yes rfl rfl rfl (o_val (r_fa rfl fo47_4) ?_); refine l_yes rfl rfl rfl (o_val (r_l1 (v := VI 0) H (i := 0) rfl rfl ct2 (oprE_c4 _)) ?_); refine l_yes rfl rfl rfl (o_val (r_bin (a := 0) (b := 0) rfl rfl (fun _ => b_lssB false (decide_eq_false oM))) ?_); refine lV (r_pick rfl) ?_; refine mV ?_; refine l_yes rfl rfl rfl (o_val (r_fa rfl fo47_6) ?_); refine l_yes rfl rfl rfl (o_val (r_l1 (v := b.v) H (i := 0) rfl rfl ct33 (oprE_c6 _)) ?_); refine l_yes rfl rfl rfl (o_val (r_lens el33 rfl) ?_); refine l_yes rfl rfl rfl (o_val (r_bin (a := (b.len : Int)) (b := 4096) rfl rfl (fun _ => b_gtrB false (decide_eq_false oM))) ?_); refine lV (r_pick rfl) ?_; refine mV ?_; refine l_yes rfl rfl rfl (o_val (r_fa rfl fo47_5) ?_); refine l_yes rfl rfl rfl (o_val (r_l1 (v := V8 (0 : UInt8)) H (i := 0) rfl rfl ct37 (oprE_c5 _)) ?_); refine l_yes rfl rfl rfl (o_callR Tryz.func39 rfl rfl rfl (rmay_ret _ ((0 : UInt8))) ?_); rintro _ w' ⟨rfl, hw2⟩
  rw [hw2]; clear hw2 w'
  have hk3 : (rMay ((0 : UInt8))) = true := (by decide)
  refine l_yes rfl rfl rfl (o_val (r_not rfl) ?_); refine lV (r_pick rfl) ?_; refine eN ?_
  repeat refine c_seq ?_
  refine c_no (by exact congrArg Value.bool (congrArg not hk3)) ?_; refine c_skip ?_; refine rG ?_; refine lV (r_fa rfl fo47_0) ?_; refine lV (r_l1 (v := VI d) H (i := 0) rfl rfl ct3 (oprE_c0 _)) ?_; refine lV (r_bin (a := d) (b := 12) rfl rfl (fun _ => b_eqlB false (decide_eq_false oM))) ?_; refine mV ?_; refine l_yes rfl rfl rfl (o_val (r_fa rfl fo47_0) ?_); refine l_yes rfl rfl rfl (o_val (r_l1 (v := VI d) H (i := 0) rfl rfl ct3 (oprE_c0 _)) ?_); refine l_yes rfl rfl rfl (o_val (r_bin (a := d) (b := 13) rfl rfl (fun _ => b_eqlB false (decide_eq_false oM))) ?_); refine lV (r_pick rfl) ?_; refine mV ?_; refine l_yes rfl rfl rfl (o_val (r_fa rfl fo47_0) ?_); refine l_yes rfl rfl rfl (o_val (r_l1 (v := VI d) H (i := 0) rfl rfl ct3 (oprE_c0 _)) ?_); refine l_yes rfl rfl rfl (o_val (r_bin (a := d) (b := 16) rfl rfl (fun _ => b_eqlB false (decide_eq_false oM))) ?_); refine lV (r_pick rfl) ?_; refine mV ?_; refine l_yes rfl rfl rfl (o_val (r_fa rfl fo47_0) ?_); refine l_yes rfl rfl rfl (o_val (r_l1 (v := VI d) H (i := 0) rfl rfl ct3 (oprE_c0 _)) ?_); refine l_yes rfl rfl rfl (o_val (r_bin (a := d) (b := 17) rfl rfl (fun _ => b_eqlB false (decide_eq_false oM))) ?_); refine lV (r_pick rfl) ?_; refine aZ ?_; refine eN ?_
  refine rG ?_; refine lV (r_fa rfl fo47_1) ?_; refine lV (r_l1 (v := .string ⟨(([97] : List UInt8)).toArray⟩) H (i := 0) rfl rfl ct9 (oprE_c1 _)) ?_; refine l_op (o_callR Tryz.func40 rfl rfl rfl (nmay_ret _ (([97] : List UInt8)) oM) ?_); rintro _ w ⟨rfl, Hc⟩
  replace H : Hp _ w _ ([_]) := H.call Hc
  clear Hc
  have hk4 : (nameMay (([97] : List UInt8))) = true := (by rfl)
  refine mV ?_; refine l_no rfl rfl (by exact congrArg Value.bool hk4) rfl ?_; refine l_no rfl rfl (by exact congrArg Value.bool hk4) rfl ?_; refine l_no rfl rfl (by exact congrArg Value.bool hk4) rfl ?_; refine l_no rfl rfl (by exact congrArg Value.bool hk4) rfl ?_; refine l_non rfl rfl rfl ?_; refine l_no rfl rfl (by exact congrArg Value.bool hk4) rfl ?_; refine lV (r_pick (b := true) (congrArg Value.bool hk4)) ?_; refine aZ ?_; refine eN ?_
  refine cR ?_
  refine e_ret1 (v := .bool true) Tryz.results19 rfl ?_
  refine ⟨_, rfl, ?_⟩
  exact ⟨rfl, H.sub (List.nil_sublist _)⟩
theorem rules_ret (w0 : World) (d : Int) (h1 : 10 ≤ d) (h2 : d ≤ 17) :
    Ret Tryz.prog 47 [VI d] w0 fun v w' => v = .bool true ∧ Hp w0 w' [] [] := by
  refine ret_mk Tryz.func47 rfl Tryz.ntmps47 (by simp) ?_
  have H := Hp.refl w0 []
  refine rG ?_; refine aZ ?_; refine eN ?_
  refine rG ?_; refine mV ?_; refine lV (r_bin (a := d) (b := 10) rfl rfl (fun _ => b_geqB true (decide_eq_true oM))) ?_; refine mV ?_; refine l_yes rfl rfl rfl (o_val r_mv ?_); refine l_yes rfl rfl rfl (o_val (r_bin (a := d) (b := 17) rfl rfl (fun _ => b_leqB true (decide_eq_true oM))) ?_); refine lV (r_pick rfl) ?_; refine aZ ?_; refine eN ?_
  refine cR ?_
  refine e_ret1 (v := .bool true) Tryz.results47 rfl ?_
  refine ⟨_, rfl, ?_⟩
  exact ⟨rfl, H.sub (List.nil_sublist _)⟩
theorem needs1_ret (w0 : World) :
    Ret Tryz.prog 44 [VI 1] w0 fun v w' => v = .tuple #[V8 2, VI 0] ∧ Hp w0 w' [] [] := by
  refine ret_mk Tryz.func44 rfl Tryz.ntmps44 (by simp) ?_
  have H := Hp.refl w0 []
  refine rG ?_; refine lV (r_asV (c8 0 (by decide))) ?_; refine aZ ?_; refine eN ?_
  refine qB ?_; refine rG ?_; refine mV ?_; refine lV (r_bin (a := 1) (b := 2) rfl rfl (fun _ => b_eqlB false (decide_eq_false (by decide)))) ?_; refine aZ ?_; refine eN ?_
  refine qN ?_; refine rG ?_; refine mV ?_; refine lV (r_bin (a := 1) (b := 4) rfl rfl (fun _ => b_eqlB false (decide_eq_false (by decide)))) ?_; refine aZ ?_; refine eN ?_
  refine qN ?_; refine rG ?_; refine mV ?_; refine lV (r_bin (a := 1) (b := 5) rfl rfl (fun _ => b_eqlB false (decide_eq_false (by decide)))) ?_; refine aZ ?_; refine eN ?_
  refine qN ?_; refine rG ?_; refine mV ?_; refine lV (r_bin (a := 1) (b := 6) rfl rfl (fun _ => b_eqlB false (decide_eq_false (by decide)))) ?_; refine aZ ?_; refine eN ?_
  refine qN ?_; refine rG ?_; refine mV ?_; refine lV (r_bin (a := 1) (b := 9) rfl rfl (fun _ => b_eqlB false (decide_eq_false (by decide)))) ?_; refine aZ ?_; refine eN ?_
  refine qN ?_; refine rG ?_; refine mV ?_; refine lV (r_bin (a := 1) (b := 1) rfl rfl (fun _ => b_eqlB true (decide_eq_true (by decide)))) ?_; refine aZ ?_; refine eN ?_
  refine qY ?_; refine c_skip ?_; refine qY ?_; refine rG ?_; refine lV (r_asV (c8 2 (by decide))) ?_; refine aZ ?_; refine eN ?_
  refine cR ?_
  refine e_retN (vs := [V8 (2 : UInt8), VI 0]) _ Tryz.results44 rfl (resT (v := V8 (2 : UInt8)) rfl (resT (v := VI 0) rfl (resZ))) ?_
  refine ⟨_, rfl, ?_⟩
  exact ⟨rfl, H.sub (List.nil_sublist _)⟩
theorem needs3_ret (w0 : World) :
    Ret Tryz.prog 44 [VI 3] w0 fun v w' => v = .tuple #[V8 2, VI 0] ∧ Hp w0 w' [] [] := by
  refine ret_mk Tryz.func44 rfl Tryz.ntmps44 (by simp) ?_
  have H := Hp.refl w0 []
  refine rG ?_; refine lV (r_asV (c8 0 (by decide))) ?_; refine aZ ?_; refine eN ?_
  refine qB ?_; refine rG ?_; refine mV ?_; refine lV (r_bin (a := 3) (b := 2) rfl rfl (fun _ => b_eqlB false (decide_eq_false (by decide)))) ?_; refine aZ ?_; refine eN ?_
  refine qN ?_; refine rG ?_; refine mV ?_; refine lV (r_bin (a := 3) (b := 4) rfl rfl (fun _ => b_eqlB false (decide_eq_false (by decide)))) ?_; refine aZ ?_; refine eN ?_
  refine qN ?_; refine rG ?_; refine mV ?_; refine lV (r_bin (a := 3) (b := 5) rfl rfl (fun _ => b_eqlB false (decide_eq_false (by decide)))) ?_; refine aZ ?_; refine eN ?_
  refine qN ?_; refine rG ?_; refine mV ?_; refine lV (r_bin (a := 3) (b := 6) rfl rfl (fun _ => b_eqlB false (decide_eq_false (by decide)))) ?_; refine aZ ?_; refine eN ?_
  refine qN ?_; refine rG ?_; refine mV ?_; refine lV (r_bin (a := 3) (b := 9) rfl rfl (fun _ => b_eqlB false (decide_eq_false (by decide)))) ?_; refine aZ ?_; refine eN ?_
  refine qN ?_; refine rG ?_; refine mV ?_; refine lV (r_bin (a := 3) (b := 1) rfl rfl (fun _ => b_eqlB false (decide_eq_false (by decide)))) ?_; refine aZ ?_; refine eN ?_
  refine qN ?_; refine rG ?_; refine mV ?_; refine lV (r_bin (a := 3) (b := 3) rfl rfl (fun _ => b_eqlB true (decide_eq_true (by decide)))) ?_; refine aZ ?_; refine eN ?_
  refine qY ?_; refine rG ?_; refine lV (r_asV (c8 2 (by decide))) ?_; refine aZ ?_; refine eN ?_
  refine cR ?_
  refine e_retN (vs := [V8 (2 : UInt8), VI 0]) _ Tryz.results44 rfl (resT (v := V8 (2 : UInt8)) rfl (resT (v := VI 0) rfl (resZ))) ?_
  refine ⟨_, rfl, ?_⟩
  exact ⟨rfl, H.sub (List.nil_sublist _)⟩
theorem needs7_ret (w0 : World) :
    Ret Tryz.prog 44 [VI 7] w0 fun v w' => v = .tuple #[V8 4, VI 0] ∧ Hp w0 w' [] [] := by
  refine ret_mk Tryz.func44 rfl Tryz.ntmps44 (by simp) ?_
  have H := Hp.refl w0 []
  refine rG ?_; refine lV (r_asV (c8 0 (by decide))) ?_; refine aZ ?_; refine eN ?_
  refine qB ?_; refine rG ?_; refine mV ?_; refine lV (r_bin (a := 7) (b := 2) rfl rfl (fun _ => b_eqlB false (decide_eq_false (by decide)))) ?_; refine aZ ?_; refine eN ?_
  refine qN ?_; refine rG ?_; refine mV ?_; refine lV (r_bin (a := 7) (b := 4) rfl rfl (fun _ => b_eqlB false (decide_eq_false (by decide)))) ?_; refine aZ ?_; refine eN ?_
  refine qN ?_; refine rG ?_; refine mV ?_; refine lV (r_bin (a := 7) (b := 5) rfl rfl (fun _ => b_eqlB false (decide_eq_false (by decide)))) ?_; refine aZ ?_; refine eN ?_
  refine qN ?_; refine rG ?_; refine mV ?_; refine lV (r_bin (a := 7) (b := 6) rfl rfl (fun _ => b_eqlB false (decide_eq_false (by decide)))) ?_; refine aZ ?_; refine eN ?_
  refine qN ?_; refine rG ?_; refine mV ?_; refine lV (r_bin (a := 7) (b := 9) rfl rfl (fun _ => b_eqlB false (decide_eq_false (by decide)))) ?_; refine aZ ?_; refine eN ?_
  refine qN ?_; refine rG ?_; refine mV ?_; refine lV (r_bin (a := 7) (b := 1) rfl rfl (fun _ => b_eqlB false (decide_eq_false (by decide)))) ?_; refine aZ ?_; refine eN ?_
  refine qN ?_; refine rG ?_; refine mV ?_; refine lV (r_bin (a := 7) (b := 3) rfl rfl (fun _ => b_eqlB false (decide_eq_false (by decide)))) ?_; refine aZ ?_; refine eN ?_
  refine qN ?_; refine rG ?_; refine mV ?_; refine lV (r_bin (a := 7) (b := 7) rfl rfl (fun _ => b_eqlB true (decide_eq_true (by decide)))) ?_; refine aZ ?_; refine eN ?_
  refine qY ?_; refine c_skip ?_; refine qY ?_; refine rG ?_; refine lV (r_asV (c8 4 (by decide))) ?_; refine aZ ?_; refine eN ?_
  refine cR ?_
  refine e_retN (vs := [V8 (4 : UInt8), VI 0]) _ Tryz.results44 rfl (resT (v := V8 (4 : UInt8)) rfl (resT (v := VI 0) rfl (resZ))) ?_
  refine ⟨_, rfl, ?_⟩
  exact ⟨rfl, H.sub (List.nil_sublist _)⟩
theorem needs8_ret (w0 : World) :
    Ret Tryz.prog 44 [VI 8] w0 fun v w' => v = .tuple #[V8 4, VI 0] ∧ Hp w0 w' [] [] := by
  refine ret_mk Tryz.func44 rfl Tryz.ntmps44 (by simp) ?_
  have H := Hp.refl w0 []
  refine rG ?_; refine lV (r_asV (c8 0 (by decide))) ?_; refine aZ ?_; refine eN ?_
  refine qB ?_; refine rG ?_; refine mV ?_; refine lV (r_bin (a := 8) (b := 2) rfl rfl (fun _ => b_eqlB false (decide_eq_false (by decide)))) ?_; refine aZ ?_; refine eN ?_
  refine qN ?_; refine rG ?_; refine mV ?_; refine lV (r_bin (a := 8) (b := 4) rfl rfl (fun _ => b_eqlB false (decide_eq_false (by decide)))) ?_; refine aZ ?_; refine eN ?_
  refine qN ?_; refine rG ?_; refine mV ?_; refine lV (r_bin (a := 8) (b := 5) rfl rfl (fun _ => b_eqlB false (decide_eq_false (by decide)))) ?_; refine aZ ?_; refine eN ?_
  refine qN ?_; refine rG ?_; refine mV ?_; refine lV (r_bin (a := 8) (b := 6) rfl rfl (fun _ => b_eqlB false (decide_eq_false (by decide)))) ?_; refine aZ ?_; refine eN ?_
  refine qN ?_; refine rG ?_; refine mV ?_; refine lV (r_bin (a := 8) (b := 9) rfl rfl (fun _ => b_eqlB false (decide_eq_false (by decide)))) ?_; refine aZ ?_; refine eN ?_
  refine qN ?_; refine rG ?_; refine mV ?_; refine lV (r_bin (a := 8) (b := 1) rfl rfl (fun _ => b_eqlB false (decide_eq_false (by decide)))) ?_; refine aZ ?_; refine eN ?_
  refine qN ?_; refine rG ?_; refine mV ?_; refine lV (r_bin (a := 8) (b := 3) rfl rfl (fun _ => b_eqlB false (decide_eq_false (by decide)))) ?_; refine aZ ?_; refine eN ?_
  refine qN ?_; refine rG ?_; refine mV ?_; refine lV (r_bin (a := 8) (b := 7) rfl rfl (fun _ => b_eqlB false (decide_eq_false (by decide)))) ?_; refine aZ ?_; refine eN ?_
  refine qN ?_; refine rG ?_; refine mV ?_; refine lV (r_bin (a := 8) (b := 8) rfl rfl (fun _ => b_eqlB true (decide_eq_true (by decide)))) ?_; refine aZ ?_; refine eN ?_
  refine qY ?_; refine rG ?_; refine lV (r_asV (c8 4 (by decide))) ?_; refine aZ ?_; refine eN ?_
  refine cR ?_
  refine e_retN (vs := [V8 (4 : UInt8), VI 0]) _ Tryz.results44 rfl (resT (v := V8 (4 : UInt8)) rfl (resT (v := VI 0) rfl (resZ))) ?_
  refine ⟨_, rfl, ?_⟩
  exact ⟨rfl, H.sub (List.nil_sublist _)⟩
theorem needs10_ret (w0 : World) :
    Ret Tryz.prog 44 [VI 10] w0 fun v w' => v = .tuple #[V8 8, VI 0] ∧ Hp w0 w' [] [] := by
  refine ret_mk Tryz.func44 rfl Tryz.ntmps44 (by simp) ?_
  have H := Hp.refl w0 []
  refine rG ?_; refine lV (r_asV (c8 0 (by decide))) ?_; refine aZ ?_; refine eN ?_
  refine qB ?_; refine rG ?_; refine mV ?_; refine lV (r_bin (a := 10) (b := 2) rfl rfl (fun _ => b_eqlB false (decide_eq_false (by decide)))) ?_; refine aZ ?_; refine eN ?_
  refine qN ?_; refine rG ?_; refine mV ?_; refine lV (r_bin (a := 10) (b := 4) rfl rfl (fun _ => b_eqlB false (decide_eq_false (by decide)))) ?_; refine aZ ?_; refine eN ?_
  refine qN ?_; refine rG ?_; refine mV ?_; refine lV (r_bin (a := 10) (b := 5) rfl rfl (fun _ => b_eqlB false (decide_eq_false (by decide)))) ?_; refine aZ ?_; refine eN ?_
  refine qN ?_; refine rG ?_; refine mV ?_; refine lV (r_bin (a := 10) (b := 6) rfl rfl (fun _ => b_eqlB false (decide_eq_false (by decide)))) ?_; refine aZ ?_; refine eN ?_
  refine qN ?_; refine rG ?_; refine mV ?_; refine lV (r_bin (a := 10) (b := 9) rfl rfl (fun _ => b_eqlB false (decide_eq_false (by decide)))) ?_; refine aZ ?_; refine eN ?_
  refine qN ?_; refine rG ?_; refine mV ?_; refine lV (r_bin (a := 10) (b := 1) rfl rfl (fun _ => b_eqlB false (decide_eq_false (by decide)))) ?_; refine aZ ?_; refine eN ?_
  refine qN ?_; refine rG ?_; refine mV ?_; refine lV (r_bin (a := 10) (b := 3) rfl rfl (fun _ => b_eqlB false (decide_eq_false (by decide)))) ?_; refine aZ ?_; refine eN ?_
  refine qN ?_; refine rG ?_; refine mV ?_; refine lV (r_bin (a := 10) (b := 7) rfl rfl (fun _ => b_eqlB false (decide_eq_false (by decide)))) ?_; refine aZ ?_; refine eN ?_
  refine qN ?_; refine rG ?_; refine mV ?_; refine lV (r_bin (a := 10) (b := 8) rfl rfl (fun _ => b_eqlB false (decide_eq_false (by decide)))) ?_; refine aZ ?_; refine eN ?_
  refine qN ?_; refine rG ?_; refine mV ?_; refine l_op (o_callR Tryz.func47 rfl rfl rfl (rules_ret _ (10) oM oM) ?_); rintro _ w ⟨rfl, Hc⟩
  replace H : Hp _ w _ ([]) := H.call Hc
  clear Hc
  refine aZ ?_; refine eN ?_
  refine qY ?_; refine rG ?_; refine lV (r_asV (c8 8 (by decide))) ?_; refine aZ ?_; refine eN ?_
  refine cR ?_
  refine e_retN (vs := [V8 (8 : UInt8), VI 0]) _ Tryz.results44 rfl (resT (v := V8 (8 : UInt8)) rfl (resT (v := VI 0) rfl (resZ))) ?_
  refine ⟨_, rfl, ?_⟩
  exact ⟨rfl, H.sub (List.nil_sublist _)⟩
theorem needs15_ret (w0 : World) :
    Ret Tryz.prog 44 [VI 15] w0 fun v w' => v = .tuple #[V8 8, VI 0] ∧ Hp w0 w' [] [] := by
  refine ret_mk Tryz.func44 rfl Tryz.ntmps44 (by simp) ?_
  have H := Hp.refl w0 []
  refine rG ?_; refine lV (r_asV (c8 0 (by decide))) ?_; refine aZ ?_; refine eN ?_
  refine qB ?_; refine rG ?_; refine mV ?_; refine lV (r_bin (a := 15) (b := 2) rfl rfl (fun _ => b_eqlB false (decide_eq_false (by decide)))) ?_; refine aZ ?_; refine eN ?_
  refine qN ?_; refine rG ?_; refine mV ?_; refine lV (r_bin (a := 15) (b := 4) rfl rfl (fun _ => b_eqlB false (decide_eq_false (by decide)))) ?_; refine aZ ?_; refine eN ?_
  refine qN ?_; refine rG ?_; refine mV ?_; refine lV (r_bin (a := 15) (b := 5) rfl rfl (fun _ => b_eqlB false (decide_eq_false (by decide)))) ?_; refine aZ ?_; refine eN ?_
  refine qN ?_; refine rG ?_; refine mV ?_; refine lV (r_bin (a := 15) (b := 6) rfl rfl (fun _ => b_eqlB false (decide_eq_false (by decide)))) ?_; refine aZ ?_; refine eN ?_
  refine qN ?_; refine rG ?_; refine mV ?_; refine lV (r_bin (a := 15) (b := 9) rfl rfl (fun _ => b_eqlB false (decide_eq_false (by decide)))) ?_; refine aZ ?_; refine eN ?_
  refine qN ?_; refine rG ?_; refine mV ?_; refine lV (r_bin (a := 15) (b := 1) rfl rfl (fun _ => b_eqlB false (decide_eq_false (by decide)))) ?_; refine aZ ?_; refine eN ?_
  refine qN ?_; refine rG ?_; refine mV ?_; refine lV (r_bin (a := 15) (b := 3) rfl rfl (fun _ => b_eqlB false (decide_eq_false (by decide)))) ?_; refine aZ ?_; refine eN ?_
  refine qN ?_; refine rG ?_; refine mV ?_; refine lV (r_bin (a := 15) (b := 7) rfl rfl (fun _ => b_eqlB false (decide_eq_false (by decide)))) ?_; refine aZ ?_; refine eN ?_
  refine qN ?_; refine rG ?_; refine mV ?_; refine lV (r_bin (a := 15) (b := 8) rfl rfl (fun _ => b_eqlB false (decide_eq_false (by decide)))) ?_; refine aZ ?_; refine eN ?_
  refine qN ?_; refine rG ?_; refine mV ?_; refine l_op (o_callR Tryz.func47 rfl rfl rfl (rules_ret _ (15) oM oM) ?_); rintro _ w ⟨rfl, Hc⟩
  replace H : Hp _ w _ ([]) := H.call Hc
  clear Hc
  refine aZ ?_; refine eN ?_
  refine qY ?_; refine rG ?_; refine lV (r_asV (c8 8 (by decide))) ?_; refine aZ ?_; refine eN ?_
  refine cR ?_
  refine e_retN (vs := [V8 (8 : UInt8), VI 0]) _ Tryz.results44 rfl (resT (v := V8 (8 : UInt8)) rfl (resT (v := VI 0) rfl (resZ))) ?_
  refine ⟨_, rfl, ?_⟩
  exact ⟨rfl, H.sub (List.nil_sublist _)⟩
theorem needsA_ret (w0 : World) (d : Int) (hdo : d = 1 ∨ d = 3 ∨ d = 7 ∨ d = 8 ∨ d = 10 ∨ d = 15) : Ret Tryz.prog 44 [VI d] w0 fun v w' => ∃ u : UInt8, v = .tuple #[V8 u, VI 0] ∧ rCov 15 u = true ∧ Hp w0 w' [] [] := by
  rcases hdo with rfl | rfl | rfl | rfl | rfl | rfl
  · exact (needs1_ret w0).mono fun v w' h => ⟨2, h.1, by decide, h.2⟩
  · exact (needs3_ret w0).mono fun v w' h => ⟨2, h.1, by decide, h.2⟩
  · exact (needs7_ret w0).mono fun v w' h => ⟨4, h.1, by decide, h.2⟩
  · exact (needs8_ret w0).mono fun v w' h => ⟨4, h.1, by decide, h.2⟩
  · exact (needs10_ret w0).mono fun v w' h => ⟨8, h.1, by decide, h.2⟩
  · exact (needs15_ret w0).mono fun v w' h => ⟨8, h.1, by decide, h.2⟩
theorem passc_ret (w0 : World) (t : Tn) (l : List UInt8) (h1 : t.name.length ≤ 1099511627776) (h2 : l.length ≤ 1099511627776) :
    Ret Tryz.prog 49 [.agg (tnE t).toArray, .string ⟨(l).toArray⟩] w0 fun v w' => v = VI (Lib.compareBytes t.name l) ∧ Hp w0 w' [] [] := by
  refine ret_mk Tryz.func49 rfl Tryz.ntmps49 (by simp) ?_
  have H := Hp.refl w0 []
  refine rG ?_; refine l_op (o_box (v := .agg (tnE t).toArray) H rfl (fun b1 w H hb1 => ?_)); replace H : Hp _ w _ ([.blk b1 (tnE t) 53]) := H
  refine aZ ?_; refine eN ?_
  refine rG ?_; refine lV (r_fa rfl fo53_0) ?_; refine lV (r_l1 (v := .string ⟨(t.name).toArray⟩) H (i := 0) rfl rfl ct9 (tnE_c0 _)) ?_; refine l_op (o_s2B (l := t.name) H Tryz.underlying9 Tryz.underlying33 Tryz.underlying5 rfl oM (fun b2 c3 ob4 w H hb2 hr5 => ?_)); replace H : Hp _ w _ ([_, .obj b2 ob4]) := H
  refine mV ?_; refine l_op (o_s2B (l := l) H Tryz.underlying9 Tryz.underlying33 Tryz.underlying5 rfl oM (fun b6 c7 ob8 w H hb6 hr9 => ?_)); replace H : Hp _ w _ ([_, _, .obj b6 ob8]) := H
  refine l_op (o_callR Tryz.func50 rfl rfl rfl (bytesCompare_ret _ (⟨some ⟨b2, 0, none⟩, (t.name).length, c3, t.name⟩ : Sl) (⟨some ⟨b6, 0, none⟩, (l).length, c7, l⟩ : Sl) (hr5 _ (H.has (.obj b2 ob4) (by simp))) (hr9 _ (H.has (.obj b6 ob8) (by simp)))) ?_); rintro _ w' ⟨rfl, hw10⟩
  rw [hw10]; clear hw10 w'
  refine aZ ?_; refine eN ?_
  refine cR ?_
  refine e_ret1 (v := VI (Lib.compareBytes (t.name) (l))) Tryz.results49 rfl ?_
  refine ⟨_, rfl, ?_⟩
  exact ⟨rfl, H.sub (List.nil_sublist _)⟩
end Go.Proofs.YtmiabahejnjhiaaGreatDoor
namespace Go.Proofs.YtmiabahejnjhiaaGreatDoor
open Go
set_option maxRecDepth 100000
theorem bstA_ret (w0 : World) (x : Gl Tn) (hx : x.ok tnE 38 w0) (T : Tn) (hxl : x.l = [T]) (hT : T.name = [97]) :
    Ret Tryz.prog 48 [x.v, .string ⟨(([97] : List UInt8)).toArray⟩, .func (.func 49) #[] #[]] w0 fun v w' => v = .tuple #[VI 0, .bool true] ∧ Hp w0 w' [] [] := by
  refine ret_mk Tryz.func48 rfl Tryz.ntmps48 (by simp) ?_
  have H := Hp.refl w0 []
  have hsh : (UInt64.ofNat (0 + 1) >>> UInt64.ofNat 1).toNat = 0 := by decide
  have hx1 := hx.ln
  rw [hxl] at hx1
  have hx2 : x.len = 1 := by rw [← hx1]; rfl
  have hz1 : ([97] : List UInt8).length = 1 := rfl
  refine rG ?_; refine aZ ?_; refine aZ ?_; refine eN ?_
  refine rG ?_; refine mV ?_; refine lV (r_lens el26 rfl) ?_; refine aZ ?_; refine eN ?_
  refine rG ?_; refine mV ?_; refine aZ ?_; refine aZ ?_; refine eN ?_
  refine qB ?_; repeat refine c_seq ?_
  refine c_loop (fun (j : Nat) => [(0, x.v), (1, .string ⟨(([97] : List UInt8)).toArray⟩), (2, .func (.func 49) #[] #[]), (8, VI (x.len : Int)), (9, VI 0), (10, VI (j : Int))])
    (fun (j : Nat) w => (j ≤ 1) ∧ Hp w0 w [] ([]))
    (fun (j : Nat) => j) x.len ⟨rfl, rfl, rfl, rfl, rfl, rfl, trivial⟩ ⟨oM, H⟩ ?_
  clear H
  rintro j τ w ⟨hj, H⟩
  refine rG ?_; refine mV ?_; refine mV ?_; refine lV (r_bin (a := 0) (b := (j : Int)) rfl rfl (fun _ => b_lss)) ?_; refine eN ?_
  by_cases hc1 : 0 < (j : Int)
  ·
   repeat refine c_seq ?_
   refine c_yes (by exact bT hc1) ?_; refine c_skip ?_; refine qB ?_; obtain rfl : j = 1 := by omega
   refine rG ?_; refine mV ?_; refine mV ?_; refine lV (r_bin (a := 0) (b := 1) rfl rfl (fun _ => b_add oM oM)) ?_; refine lV (r_conv (v := ((UInt64.ofNat (0 + 1)).toNat : Int)) Tryz.underlying3 Tryz.underlying131 rfl (w_u64_N (0 + 1) oM)) ?_; refine lV (r_shift rfl rfl (.inr rfl) (fun _ => b_shr_u64N 1 oM)) ?_; refine lV (r_conv Tryz.underlying131 Tryz.underlying3 rfl (w_i64_64 oM)) ?_; refine aZ ?_; refine eN ?_
   refine rG ?_; refine mV ?_; refine mV ?_; refine mV ?_; have ah4 := ((hx.up H)).addr (by decide) (by first | omega | (dsimp only; omega))
   obtain ⟨ab2, ao3, ah4⟩ := ah4
   refine lV (r_isN (((UInt64.ofNat (0 + 1)) >>> UInt64.ofNat 1).toNat) rfl rfl el26 ah4 oM (by (try simp only [Sl.cut]); omega)) ?_; have he6 : ∃ c, x.l[((UInt64.ofNat (0 + 1)) >>> UInt64.ofNat 1).toNat]? = some c := ⟨_, List.getElem?_eq_getElem (by have := ((hx.up H)).ln; (try dsimp only at this ⊢); omega)⟩
   obtain ⟨e5, he6⟩ := he6
   have hez7 := ((hx.up H)).sz e5 (List.mem_of_getElem? he6)
   have hen_e5 : e5.name = [97] := by
     have hm := List.mem_of_getElem? he6
     rw [hxl] at hm
     rw [List.mem_singleton.1 hm]
     exact hT
   have hln_e5 : e5.name.length = 1 := by rw [hen_e5]; rfl
   refine lV (r_ldRow (s := x) (k := ((UInt64.ofNat (0 + 1)) >>> UInt64.ofNat 1).toNat) (hx.up H) ah4 rfl rt53 (by decide) he6) ?_; refine mV ?_; refine l_op (o_callV rfl Tryz.func49 rfl rfl rfl (passc_ret _ e5 (([97] : List UInt8)) oM oM) ?_); rintro _ w ⟨rfl, Hc⟩
   replace H : Hp _ w _ ([]) := H.call Hc
   clear Hc
   refine lV (r_bin (a := Lib.compareBytes (e5).name (([97] : List UInt8))) (b := 0) rfl rfl (fun _ => b_lssB false (decide_eq_false (by rw [hen_e5]; decide)))) ?_; refine eN ?_
   refine qN ?_; refine rG ?_; refine mV ?_; refine aZ ?_; refine eN ?_
   refine round_end 0 ?_ ?_ ?_
   · exact ⟨rfl, rfl, rfl, rfl, rfl, show VI (((UInt64.ofNat (0 + 1)) >>> UInt64.ofNat 1).toNat : Int) = VI ((0 : Nat) : Int) from congrArg VI oM, trivial⟩
   · refine ⟨?_, ?_⟩
     · try dsimp only
       exact by omega
     · exact H
   · show (0 : Nat) < 1; omega
  ·
   repeat refine c_seq ?_
   refine c_no (by exact bF hc1) ?_; refine c_exit ?_; refine rG ?_; refine mV ?_; refine mV ?_; refine mV ?_; refine lV (r_bin (a := 0) (b := (x.len : Int)) rfl rfl (fun _ => b_lssB true (decide_eq_true oM))) ?_; refine mV ?_; refine l_yes rfl rfl rfl (o_val r_mv ?_); refine l_yes rfl rfl rfl (o_val r_mv ?_); refine l_yes rfl rfl rfl (o_val r_mv ?_); have ah10 := ((hx.up H)).addr (by decide) (by first | omega | (dsimp only; omega))
   obtain ⟨ab8, ao9, ah10⟩ := ah10
   refine l_yes rfl rfl rfl (o_val (r_isN 0 rfl rfl el26 ah10 oM (by (try simp only [Sl.cut]); omega)) ?_); have he12 : ∃ c, x.l[0]? = some c := ⟨_, List.getElem?_eq_getElem (by have := ((hx.up H)).ln; (try dsimp only at this ⊢); omega)⟩
   obtain ⟨e11, he12⟩ := he12
   have hez13 := ((hx.up H)).sz e11 (List.mem_of_getElem? he12)
   have hen_e11 : e11.name = [97] := by
     have hm := List.mem_of_getElem? he12
     rw [hxl] at hm
     rw [List.mem_singleton.1 hm]
     exact hT
   have hln_e11 : e11.name.length = 1 := by rw [hen_e11]; rfl
   refine l_yes rfl rfl rfl (o_val (r_ldRow (s := x) (k := 0) (hx.up H) ah10 rfl rt53 (by decide) he12) ?_); refine l_yes rfl rfl rfl (o_val r_mv ?_); refine l_yes rfl rfl rfl (o_callV rfl Tryz.func49 rfl rfl rfl (passc_ret _ e11 (([97] : List UInt8)) oM oM) ?_); rintro _ w ⟨rfl, Hc⟩
   replace H : Hp _ w _ ([]) := H.call Hc
   clear Hc
   refine l_yes rfl rfl rfl (o_val (r_bin (a := Lib.compareBytes (e11).name (([97] : List UInt8))) (b := 0) rfl rfl (fun _ => b_eqlB true (decide_eq_true (by rw [hen_e11]; decide)))) ?_); refine lV (r_pick rfl) ?_; refine aZ ?_; refine aZ ?_; refine eN ?_
   refine cR ?_
   refine e_retN (vs := [VI 0, .bool true]) _ Tryz.results48 rfl (resT (v := VI 0) rfl (resT (v := .bool true) rfl (resZ))) ?_
   refine ⟨_, rfl, ?_⟩
   exact ⟨rfl, H⟩
end Go.Proofs.YtmiabahejnjhiaaGreatDoor
namespace Go.Proofs.YtmiabahejnjhiaaGreatDoor
open Go
set_option maxRecDepth 100000
theorem pass2_ret (w0 : World) (wb nb tb tc : Nat) (r : Id32) (dl : Int) (h : Id32) (lg : Gl Ent) (T : Tn) (hT : T.name = [97]) (d : Int) (hdo : d = 1 ∨ d = 3 ∨ d = 7 ∨ d = 8 ∨ d = 10 ∨ d = 15) (of : Id32) (n : Int) (b s : Sl) (now : Int) (hnow : 0 ≤ now ∧ now < 9223372036854775807) (hs : s.ok w0) (hap : s.l ≠ [] → Apart s.a (keys [.blk wb (wrkE (⟨some nb, (⟨d, [97], of, n, 0, 0, b, s, now, zId⟩ : Opr), none, 0⟩ : Wrk)) 75, .blk nb (staE (⟨r, dl, 0, ⟨some ⟨tb, 0, none⟩, 1, tc, [T]⟩, ⟨none, 0, 0, []⟩, lg, h⟩ : Sta)) 30, .own (some tb) 1 tc (([T] : List Tn).flatMap tnE) 53 38])) (hsl : s.l = tokB (tagR r) ∧ s.len ≤ 4096) (hO : Own w0 [.blk wb (wrkE (⟨some nb, (⟨d, [97], of, n, 0, 0, b, s, now, zId⟩ : Opr), none, 0⟩ : Wrk)) 75, .blk nb (staE (⟨r, dl, 0, ⟨some ⟨tb, 0, none⟩, 1, tc, [T]⟩, ⟨none, 0, 0, []⟩, lg, h⟩ : Sta)) 30, .own (some tb) 1 tc (([T] : List Tn).flatMap tnE) 53 38]) :
    Ret Tryz.prog 20 [.pointer (some ⟨wb, 0, none⟩)] w0 fun v w' => v = .agg (ansE (⟨0, ⟨none, 0, 0, []⟩⟩ : Ans)).toArray ∧ Hp w0 w' (keys [.blk wb (wrkE (⟨some nb, (⟨d, [97], of, n, 0, 0, b, s, now, zId⟩ : Opr), none, 0⟩ : Wrk)) 75, .blk nb (staE (⟨r, dl, 0, ⟨some ⟨tb, 0, none⟩, 1, tc, [T]⟩, ⟨none, 0, 0, []⟩, lg, h⟩ : Sta)) 30, .own (some tb) 1 tc (([T] : List Tn).flatMap tnE) 53 38]) [.blk wb (wrkE (⟨some nb, (⟨d, [97], of, n, 0, 0, b, s, now, zId⟩ : Opr), (some tb), 0⟩ : Wrk)) 75, .blk nb (staE (⟨r, dl, 0, ⟨some ⟨tb, 0, none⟩, 1, tc, [T]⟩, ⟨none, 0, 0, []⟩, lg, h⟩ : Sta)) 30, .own (some tb) 1 tc (([T] : List Tn).flatMap tnE) 53 38] := by
  refine ret_mk Tryz.func20 rfl Tryz.ntmps20 (by simp) ?_
  have H := hO.start
  have hsn := hs.ln
  have hs0 : s.len ≠ 0 := by
    intro h0
    rw [h0, hsl.1] at hsn
    simp [tokB] at hsn
  refine rG ?_; refine l_op (o_alloc H zc43 (fun b1 w H hb1 => ?_)); replace H : Hp _ w _ ([.blk wb (wrkE (⟨(some nb), (⟨d, ([97] : List UInt8), of, n, 0, (0 : UInt8), b, s, now, zId⟩ : Opr), none, (0 : UInt64)⟩ : Wrk)) 75, .blk nb (staE (⟨r, dl, (0 : UInt64), ⟨hd (some tb), 1, tc, [T]⟩, ⟨none, 0, 0, []⟩, lg, h⟩ : Sta)) 30, .own (some tb) 1 tc (([T]).flatMap tnE) 53 38, .blk b1 (ansE (⟨0, ⟨none, 0, 0, []⟩⟩ : Ans)) 43]) := H
  refine eN ?_
  refine rG ?_; refine mV ?_; refine lV (r_nilc rfl) ?_; refine lV (r_fa rfl fo75_1) ?_; refine lV (r_fa rfl fo47_7) ?_; refine lV (r_l1 (v := s.v) H (i := 0) rfl rfl ct33 ((wrkE_c1 _).comp (oprE_c7 _))) ?_; refine lV (r_lens el33 rfl) ?_; refine lV (r_bin (a := (s.len : Int)) (b := 0) rfl rfl (fun _ => b_eqlB false (decide_eq_false oM))) ?_; refine eN ?_
  refine qN ?_; refine c_skip ?_; refine rG ?_; refine mV ?_; refine lV (r_nilc rfl) ?_; refine lV (r_fa rfl fo75_1) ?_; refine lV (r_fa rfl fo47_7) ?_; refine lV (r_l1 (v := s.v) H (i := 0) rfl rfl ct33 ((wrkE_c1 _).comp (oprE_c7 _))) ?_; refine l_op (o_callR Tryz.func41 rfl rfl rfl (take1_ret _ r s (hs.up H hap) hsl) ?_); rintro _ w ⟨rfl, Hc⟩
  replace H : Hp _ w _ ([_, _, _, _]) := H.call Hc
  clear Hc
  refine mV ?_; refine lV (r_ext rfl rfl) ?_; refine lV (r_ext rfl rfl) ?_; refine l_op (o_alloc H zc40 (fun b2 w H hb2 => ?_)); replace H : Hp _ w _ ([_, _, _, _, .blk b2 ([V64 (0 : UInt64), .string ⟨(([] : List UInt8)).toArray⟩, V8 (0 : UInt8), VI 0, VI 0, .slice none 0 0] ++ (List.replicate 32 (0 : UInt8)).map V8) 40]) := H
  refine l_op (o_stW (C' := [V64 (0 : UInt64), .string ⟨(([] : List UInt8)).toArray⟩, V8 (15 : UInt8), VI 0, VI 9223372036854775807, .slice none 0 0] ++ (tagR r).map V8) H (i := 4) rfl rfl rfl cs40 (by simp [Value.oneCell']) (by rw [List.length_append, List.length_map, (show (List.replicate 32 (0 : UInt8)).length = 32 from (List.length_replicate ..))]; rfl) (by rw [List.length_append, List.length_map, (show (tagR r).length = 32 from tagR_len _)]; rfl) (fun w H => ?_)); replace H : Hp _ w _ ([_, _, _, _, .blk b2 ([V64 (0 : UInt64), .string ⟨(([] : List UInt8)).toArray⟩, V8 (15 : UInt8), VI 0, VI 9223372036854775807, .slice none 0 0] ++ (tagR r).map V8) 40]) := H
  refine aZ ?_; refine eN ?_
  repeat refine c_seq ?_
  refine heldH H mixed fun H => ?_
  have HS := H
  refine tK 0 rfl (fun w HS => r_mv) HS ?_; refine tK 1 rfl (fun w HS => r_bin (a := 0) (b := 0) rfl rfl (fun _ => b_neqB false (decide_eq_false (by decide)))) HS ?_; refine tK 2 rfl (fun w HS => r_mv) HS ?_; refine tG 3 rfl (yK rfl rfl rfl) (fun w HS => r_mv) HS ?_; refine tG 4 rfl (yK rfl rfl rfl) (fun w HS => r_nilc rfl) HS ?_; refine tG 5 rfl (yK rfl rfl rfl) (fun w HS => r_fa rfl fo75_0) HS ?_; refine tG 6 rfl (yK rfl rfl rfl) (fun w HS => r_l1 (v := .pointer (some ⟨nb, 0, none⟩)) HS (i := 0) rfl rfl ct72 (wrkE_c0 _)) HS ?_; refine tG 7 rfl (yK rfl rfl rfl) (fun w HS => r_nilc rfl) HS ?_; refine tG 8 rfl (yK rfl rfl rfl) (fun w HS => r_fa rfl fo30_0) HS ?_; refine tG 9 rfl (yK rfl rfl rfl) (fun w HS => r_lk HS (i := 1) rfl rfl rt24 (staE_c0 _)) HS ?_; refine tG 10 rfl (yK rfl rfl rfl) (fun w HS => r_ldA (C := [V64 (0 : UInt64), .string ⟨(([] : List UInt8)).toArray⟩, V8 (15 : UInt8), VI 0, VI 9223372036854775807, .slice none 0 0] ++ (tagR r).map V8) HS (i := 4) rfl rfl rt40 (by rw [List.length_append, List.length_map, (show (tagR r).length = 32 from tagR_len _)]; rfl)) HS ?_; refine tG 11 rfl (yK rfl rfl rfl) (fun w HS => r_mv) HS ?_; refine tG 12 rfl (yK rfl rfl rfl) (fun w HS => r_nilc rfl) HS ?_; refine tG 13 rfl (yK rfl rfl rfl) (fun w HS => r_fa rfl fo75_1) HS ?_; refine tG 14 rfl (yK rfl rfl rfl) (fun w HS => r_fa rfl fo47_8) HS ?_; refine tG 15 rfl (yK rfl rfl rfl) (fun w HS => r_l1 (v := VI now) HS (i := 0) rfl rfl ct2 ((wrkE_c1 _).comp (oprE_c8 _))) HS ?_; refine t_stepg 16 rfl (by kernel_rfl) (yK rfl rfl rfl) (o_callR Tryz.func42 rfl rfl rfl (check0_ret _ r (now) hnow) ?_); rintro _ w ⟨rfl, Hc⟩
  replace H : Hp _ w _ ([_, _, _, _, _]) := H.call Hc
  clear Hc
  replace HS := H
  refine ⟨HS, ?_⟩
  refine tG 17 rfl (yK rfl rfl rfl) (fun w HS => r_bin (a := 0) (b := 0) rfl rfl (fun _ => b_neqB false (decide_eq_false (by decide)))) HS ?_; refine tK 18 rfl (fun w HS => r_pick rfl) HS ?_; refine t_done (by kernel_rfl) ?_
  clear HS
  refine qN ?_; refine c_skip ?_; repeat refine c_seq ?_
  refine heldH H mixed fun H => ?_
  have HS := H
  refine tK 0 rfl (fun w HS => r_mv) HS ?_; refine tK 1 rfl (fun w HS => r_nilc rfl) HS ?_; refine tK 2 rfl (fun w HS => r_fa rfl fo75_0) HS ?_; refine tK 3 rfl (fun w HS => r_l1 (v := .pointer (some ⟨nb, 0, none⟩)) HS (i := 0) rfl rfl ct72 (wrkE_c0 _)) HS ?_; refine tK 4 rfl (fun w HS => r_nilc rfl) HS ?_; refine tK 5 rfl (fun w HS => r_fa rfl fo30_4) HS ?_; refine tK 6 rfl (fun w HS => r_l1 (v := .slice none 0 0) HS (i := 1) rfl rfl ct27 (staE_c4 _)) HS ?_; refine tK 7 rfl (fun w HS => r_fa rfl fo40_0) HS ?_; refine tK 8 rfl (fun w HS => r_ld (v := V64 (0 : UInt64)) HS (i := 4) rfl rfl ct25 rfl) HS ?_; refine tU 9 rfl (o_callR Tryz.func43 rfl rfl rfl (bsu_ret _ ((0 : UInt64))) ?_); rintro _ w ⟨rfl, Hc⟩
  replace H : Hp _ w _ ([_, _, _, _, _]) := H.call Hc
  clear Hc
  replace HS := H
  refine ⟨HS, ?_⟩
  refine tK 10 rfl (fun w HS => r_mv) HS ?_; refine tK 11 rfl (fun w HS => r_ext rfl rfl) HS ?_; refine tK 12 rfl (fun w HS => r_ext rfl rfl) HS ?_; refine tK 13 rfl (fun w HS => r_as) HS ?_; refine tK 14 rfl (fun w HS => r_as) HS ?_; refine t_done (by kernel_rfl) ?_
  clear HS
  refine rG ?_; refine mV ?_; refine eN ?_
  refine qN ?_; refine c_skip ?_; refine rG ?_; refine mV ?_; refine lV (r_fa rfl fo40_0) ?_; refine lV (r_ld (v := V64 (0 : UInt64)) H (i := 4) rfl rfl ct25 rfl) ?_; refine lV (r_nilc rfl) ?_; refine lV (r_fa rfl fo75_3) ?_; refine l_op (o_s1P (C' := wrkE (⟨(some nb), (⟨d, ([97] : List UInt8), of, n, 0, (0 : UInt8), b, s, now, zId⟩ : Opr), none, (0 : UInt64)⟩ : Wrk)) (u := V64 (0 : UInt64)) H (i := 0) rfl rfl rfl cs25 rfl (wrkE_p3 _ (0 : UInt64)) (fun w H => ?_)); replace H : Hp _ w _ [_, _, _, _, _] := H
  refine eN ?_
  refine rG ?_; refine mV ?_; refine lV (r_nilc rfl) ?_; refine lV (r_fa rfl fo75_1) ?_; refine lV (r_fa rfl fo47_0) ?_; refine lV (r_l1 (v := VI d) H (i := 0) rfl rfl ct3 ((wrkE_c1 _).comp (oprE_c0 _))) ?_; refine l_op (o_callR Tryz.func44 rfl rfl rfl (needsA_ret _ (d) hdo) ?_); rintro _ w ⟨u3, rfl, hu4, Hc⟩
  replace H : Hp _ w _ ([_, _, _, _, _]) := H.call Hc
  clear Hc
  refine mV ?_; refine lV (r_ext rfl rfl) ?_; refine lV (r_ext rfl rfl) ?_; refine aZ ?_; refine aZ ?_; refine eN ?_
  refine rG ?_; refine lV (r_ldA (C := [V64 (0 : UInt64), .string ⟨(([] : List UInt8)).toArray⟩, V8 (15 : UInt8), VI 0, VI 9223372036854775807, .slice none 0 0] ++ (tagR r).map V8) H (i := 4) rfl rfl rt40 (by rw [List.length_append, List.length_map, (show (tagR r).length = 32 from tagR_len _)]; rfl)) ?_; refine l_op (o_callR Tryz.func45 rfl rfl rfl (eff0_ret _ (tagR r) (show (tagR r).length = 32 from tagR_len _)) ?_); rintro _ w ⟨rfl, Hc⟩
  replace H : Hp _ w _ ([_, _, _, _, _]) := H.call Hc
  clear Hc
  refine mV ?_; refine lV (r_ext rfl rfl) ?_; refine lV (r_ext rfl rfl) ?_; refine aZ ?_; refine aZ ?_; refine eN ?_
  repeat refine c_seq ?_
  refine heldH H mixed fun H => ?_
  have HS := H
  refine tK 0 rfl (fun w HS => r_mv) HS ?_; refine tK 1 rfl (fun w HS => r_mv) HS ?_; refine tU 2 rfl (o_callR Tryz.func46 rfl rfl rfl (rcov_ret _ ((15 : UInt8)) (u3)) ?_); rintro _ w' ⟨rfl, hw5⟩
  rw [hw5]; clear hw5 w'
  have hk6 : (rCov ((15 : UInt8)) (u3)) = true := hu4
  replace HS := H
  refine ⟨HS, ?_⟩
  refine tK 3 rfl (fun w HS => r_not rfl) HS ?_; refine tK 4 rfl (fun w HS => r_mv) HS ?_; refine tG 5 rfl (yK rfl rfl (by exact congrArg Value.bool (congrArg not hk6))) (fun w HS => r_fa rfl fo40_1) HS ?_; refine tG 6 rfl (yK rfl rfl (by exact congrArg Value.bool (congrArg not hk6))) (fun w HS => r_ld (v := .string ⟨(([] : List UInt8)).toArray⟩) HS (i := 4) rfl rfl ct9 rfl) HS ?_; refine tG 7 rfl (yK rfl rfl (by exact congrArg Value.bool (congrArg not hk6))) (fun w HS => r_strne (a := ([] : List UInt8)) (b := ([] : List UInt8)) rfl rfl) HS ?_; refine tG 8 rfl (yK rfl rfl (by exact congrArg Value.bool (congrArg not hk6))) (fun w HS => r_mv) HS ?_; refine tN 9 rfl (yK rfl rfl (by exact congrArg Value.bool (congrArg not (decide_eq_true (rfl : ([] : List UInt8) = ([] : List UInt8)))))) rfl HS ?_; refine tN 10 rfl (yK rfl rfl (by exact congrArg Value.bool (congrArg not (decide_eq_true (rfl : ([] : List UInt8) = ([] : List UInt8)))))) rfl HS ?_; refine tN 11 rfl (yK rfl rfl (by exact congrArg Value.bool (congrArg not (decide_eq_true (rfl : ([] : List UInt8) = ([] : List UInt8)))))) rfl HS ?_; refine tN 12 rfl (yK rfl rfl (by exact congrArg Value.bool (congrArg not (decide_eq_true (rfl : ([] : List UInt8) = ([] : List UInt8)))))) rfl HS ?_; refine tN 13 rfl (yK rfl rfl (by exact congrArg Value.bool (congrArg not (decide_eq_true (rfl : ([] : List UInt8) = ([] : List UInt8)))))) rfl HS ?_; refine tN 14 rfl (yK rfl rfl (by exact congrArg Value.bool (congrArg not (decide_eq_true (rfl : ([] : List UInt8) = ([] : List UInt8)))))) rfl HS ?_; refine tN 15 rfl (yK rfl rfl (by exact congrArg Value.bool (congrArg not (decide_eq_true (rfl : ([] : List UInt8) = ([] : List UInt8)))))) rfl HS ?_; refine t_non 16 rfl (by kernel_rfl) (by kernel_rfl) (by kernel_rfl) (fun _ _ _ h => h) rfl rfl rfl HS ?_; refine t_non 17 rfl (by kernel_rfl) (by kernel_rfl) (by kernel_rfl) (fun _ _ _ h => h) rfl rfl rfl HS ?_; refine t_non 18 rfl (by kernel_rfl) (by kernel_rfl) (by kernel_rfl) (fun _ _ _ h => h) rfl rfl rfl HS ?_; refine t_non 19 rfl (by kernel_rfl) (by kernel_rfl) (by kernel_rfl) (fun _ _ _ h => h) rfl rfl rfl HS ?_; refine t_non 20 rfl (by kernel_rfl) (by kernel_rfl) (by kernel_rfl) (fun _ _ _ h => h) rfl rfl rfl HS ?_; refine t_non 21 rfl (by kernel_rfl) (by kernel_rfl) (by kernel_rfl) (fun _ _ _ h => h) rfl rfl rfl HS ?_; refine t_non 22 rfl (by kernel_rfl) (by kernel_rfl) (by kernel_rfl) (fun _ _ _ h => h) rfl rfl rfl HS ?_; refine t_non 23 rfl (by kernel_rfl) (by kernel_rfl) (by kernel_rfl) (fun _ _ _ h => h) rfl rfl rfl HS ?_; refine tN 24 rfl (yK rfl rfl (by exact congrArg Value.bool (congrArg not (decide_eq_true (rfl : ([] : List UInt8) = ([] : List UInt8)))))) rfl HS ?_; refine tG 25 rfl (yK rfl rfl (by exact congrArg Value.bool (congrArg not hk6))) (fun w HS => r_pick (b := false) (congrArg Value.bool (congrArg not (decide_eq_true (rfl : ([] : List UInt8) = ([] : List UInt8)))))) HS ?_; refine tK 26 rfl (fun w HS => r_pick (b := false) (congrArg Value.bool (congrArg not hk6))) HS ?_; refine t_done (by kernel_rfl) ?_
  clear HS
  refine qN ?_; refine c_skip ?_; repeat refine c_seq ?_
  refine heldH H mixed fun H => ?_
  have HS := H
  refine tK 0 rfl (fun w HS => r_mv) HS ?_; refine tK 1 rfl (fun w HS => r_nilc rfl) HS ?_; refine tK 2 rfl (fun w HS => r_fa rfl fo75_0) HS ?_; refine tK 3 rfl (fun w HS => r_l1 (v := .pointer (some ⟨nb, 0, none⟩)) HS (i := 0) rfl rfl ct72 (wrkE_c0 _)) HS ?_; refine tK 4 rfl (fun w HS => r_nilc rfl) HS ?_; refine tK 5 rfl (fun w HS => r_fa rfl fo30_3) HS ?_; refine tK 6 rfl (fun w HS => r_l1 (v := .slice (hd (some tb)) 1 tc) HS (i := 1) rfl rfl ct26 (staE_c3 _)) HS ?_; refine tK 7 rfl (fun w HS => r_mv) HS ?_; refine tK 8 rfl (fun w HS => r_nilc rfl) HS ?_; refine tK 9 rfl (fun w HS => r_fa rfl fo75_1) HS ?_; refine tK 10 rfl (fun w HS => r_fa rfl fo47_1) HS ?_; refine tK 11 rfl (fun w HS => r_l1 (v := .string ⟨(([97] : List UInt8)).toArray⟩) HS (i := 0) rfl rfl ct9 ((wrkE_c1 _).comp (oprE_c1 _))) HS ?_; refine tU 12 rfl (o_callR Tryz.func48 rfl rfl rfl (bstA_ret _ (⟨hd (some tb), 1, tc, [T]⟩) (H.glOwn (i := 2) rfl (by decide) (fun c _ => tnE_len c)) T rfl hT) ?_); rintro _ w ⟨rfl, Hc⟩
  replace H : Hp _ w _ ([_, _, _, _, _]) := H.call Hc
  clear Hc
  replace HS := H
  refine ⟨HS, ?_⟩
  refine tK 13 rfl (fun w HS => r_mv) HS ?_; refine tK 14 rfl (fun w HS => r_ext rfl rfl) HS ?_; refine tK 15 rfl (fun w HS => r_ext rfl rfl) HS ?_; refine tK 16 rfl (fun w HS => r_as) HS ?_; refine tK 17 rfl (fun w HS => r_as) HS ?_; refine t_done (by kernel_rfl) ?_
  clear HS
  refine rG ?_; refine mV ?_; refine eN ?_
  refine qY ?_; refine rG ?_; refine mV ?_; refine mV ?_; refine lV (r_nilc rfl) ?_; refine lV (r_fa rfl fo75_0) ?_; refine lV (r_l1 (v := .pointer (some ⟨nb, 0, none⟩)) H (i := 0) rfl rfl ct72 (wrkE_c0 _)) ?_; refine lV (r_nilc rfl) ?_; refine lV (r_fa rfl fo30_3) ?_; refine lV (r_l1 (v := .slice (hd (some tb)) 1 tc) H (i := 1) rfl rfl ct26 (staE_c3 _)) ?_; refine mV ?_; refine lV (r_isN 0 rfl rfl el26 rfl oM (by (try simp only [Sl.cut]); omega)) ?_; refine lV (r_nilc rfl) ?_; refine lV (r_fa rfl fo75_2) ?_; refine l_op (o_s1P (C' := wrkE (⟨(some nb), (⟨d, ([97] : List UInt8), of, n, 0, (0 : UInt8), b, s, now, zId⟩ : Opr), (some tb), (0 : UInt64)⟩ : Wrk)) (u := .pointer (some ⟨tb, 0, none⟩)) H (i := 0) rfl rfl rfl cs73 rfl (wrkE_p2 _ (some tb)) (fun w H => ?_)); replace H : Hp _ w _ ([.blk wb (wrkE (⟨(some nb), (⟨d, ([97] : List UInt8), of, n, 0, (0 : UInt8), b, s, now, zId⟩ : Opr), (some tb), (0 : UInt64)⟩ : Wrk)) 75, _, _, _, _]) := H
  refine eN ?_
  refine rG ?_; refine l_op (o_callR Tryz.func18 rfl rfl rfl (only_ret _ (0)) ?_); rintro _ w ⟨rfl, Hc⟩
  replace H : Hp _ w _ ([_, _, _, _, _]) := H.call Hc
  clear Hc
  refine l_op (o_stW (C' := ansE (⟨0, ⟨none, 0, 0, []⟩⟩ : Ans)) H (i := 3) rfl rfl rfl cs43 (ansE_all _) (ansE_len _) (ansE_len _) (fun w H => ?_)); replace H : Hp _ w _ [_, _, _, _, _] := H
  refine eN ?_
  refine cR ?_
  refine e_retc Tryz.results20 H (i := 3) rfl rfl rt43 (ansE_len _).symm ?_
  refine ⟨_, rfl, ?_⟩
  exact ⟨rfl, H.sub (.cons_cons _ (.cons_cons _ (.cons_cons _ (List.nil_sublist _))))⟩
end Go.Proofs.YtmiabahejnjhiaaGreatDoor
namespace Go.Proofs.YtmiabahejnjhiaaGreatDoor
open Go
set_option maxRecDepth 100000
theorem insT_ret (w0 : World) (x : Gl Tn) (hx : x.ok tnE 38 w0) (hx1 : x.len = 1) :
    Ret Tryz.prog 99 [.slice none 0 0, VI 0, x.v] w0 fun v w' => ∃ a c, v = .slice (hd a) 1 c ∧ Hp w0 w' [] [.own a 1 c (x.l.flatMap tnE) 53 38] := by
  refine ret_mk Tryz.func99 rfl Tryz.ntmps99 (by simp) ?_
  have H := Hp.refl w0 []
  refine rG ?_; refine aZ ?_; refine eN ?_
  refine rG ?_; refine mV ?_; refine mV ?_; refine lV (r_slG (s := (⟨none, 0, 0, []⟩ : Gl Tn)) 0 0 0 (lv := some (VI 0)) (hv := none) (mv := none) rfl el26 rfl rfl rfl (fun w => by exact sbl 0 oM (by (try simp only []); omega) w)) ?_; refine eN ?_
  refine rG ?_; refine mV ?_; refine lV (r_lens el26 rfl) ?_; refine aZ ?_; refine eN ?_
  refine rG ?_; refine mV ?_; refine lV (r_bin (a := (x.len : Int)) (b := 0) rfl rfl (fun _ => b_eqlB false (decide_eq_false oM))) ?_; refine eN ?_
  refine qN ?_; refine c_skip ?_; refine rG ?_; refine mV ?_; refine lV (r_lens el26 rfl) ?_; refine aZ ?_; refine eN ?_
  refine rG ?_; refine mV ?_; refine mV ?_; refine lV (r_bin (a := 0) (b := 0) rfl rfl (fun _ => b_eqlB true (decide_eq_true oM))) ?_; refine eN ?_
  refine qY ?_; refine rG ?_; refine mV ?_; refine mV ?_; replace H : Hp _ _ _ ([.own none 0 0 ((([] : List Tn)).flatMap tnE) 53 38]) := H.nilEnd 53 38
  refine l_op (o_appG (enc := tnE) (s := x) (l' := x.l) (len' := x.len) rfl (Nat.zero_add _) H (i := 0) rfl sl26 Tryz.underlying26 rfl rfl (hx.up H) (by decide) (fun c _ => tnE_all c) oM (by decide) (fun a1 c2 w H => ?_)); replace H : Hp _ w _ ([.own a1 x.len c2 ((x.l).flatMap tnE) 53 38]) := H
  refine aZ ?_; refine eN ?_
  refine cR ?_
  refine e_ret1 (v := .slice (hd a1) x.len c2) Tryz.results99 rfl ?_
  refine ⟨_, rfl, ?_⟩
  rw [hx1] at H ⊢
  exact ⟨_, _, rfl, H.sub (.cons_cons _ (List.nil_sublist _))⟩
theorem insB_ret (w0 : World) (x : Gl Bl) (hx : x.ok blE 33 w0) (hx1 : x.len = 1) :
    Ret Tryz.prog 87 [.slice none 0 0, VI 0, x.v] w0 fun v w' => ∃ a c, v = .slice (hd a) 1 c ∧ Hp w0 w' [] [.own a 1 c (x.l.flatMap blE) 92 33] := by
  refine ret_mk Tryz.func87 rfl Tryz.ntmps87 (by simp) ?_
  have H := Hp.refl w0 []
  refine rG ?_; refine aZ ?_; refine eN ?_
  refine rG ?_; refine mV ?_; refine mV ?_; refine lV (r_slG (s := (⟨none, 0, 0, []⟩ : Gl Bl)) 0 0 0 (lv := some (VI 0)) (hv := none) (mv := none) rfl el49 rfl rfl rfl (fun w => by exact sbl 0 oM (by (try simp only []); omega) w)) ?_; refine eN ?_
  refine rG ?_; refine mV ?_; refine lV (r_lens el49 rfl) ?_; refine aZ ?_; refine eN ?_
  refine rG ?_; refine mV ?_; refine lV (r_bin (a := (x.len : Int)) (b := 0) rfl rfl (fun _ => b_eqlB false (decide_eq_false oM))) ?_; refine eN ?_
  refine qN ?_; refine c_skip ?_; refine rG ?_; refine mV ?_; refine lV (r_lens el49 rfl) ?_; refine aZ ?_; refine eN ?_
  refine rG ?_; refine mV ?_; refine mV ?_; refine lV (r_bin (a := 0) (b := 0) rfl rfl (fun _ => b_eqlB true (decide_eq_true oM))) ?_; refine eN ?_
  refine qY ?_; refine rG ?_; refine mV ?_; refine mV ?_; replace H : Hp _ _ _ ([.own none 0 0 ((([] : List Bl)).flatMap blE) 92 33]) := H.nilEnd 92 33
  refine l_op (o_appG (enc := blE) (s := x) (l' := x.l) (len' := x.len) rfl (Nat.zero_add _) H (i := 0) rfl sl49 Tryz.underlying49 rfl rfl (hx.up H) (by decide) (fun c _ => blE_all c) oM (by decide) (fun a1 c2 w H => ?_)); replace H : Hp _ w _ ([.own a1 x.len c2 ((x.l).flatMap blE) 92 33]) := H
  refine aZ ?_; refine eN ?_
  refine cR ?_
  refine e_ret1 (v := .slice (hd a1) x.len c2) Tryz.results87 rfl ?_
  refine ⟨_, rfl, ?_⟩
  rw [hx1] at H ⊢
  exact ⟨_, _, rfl, H.sub (.cons_cons _ (List.nil_sublist _))⟩
/-- the key of the tenant a, with nothing drawn. -/
def kT (r : Id32) : Id32 := ⟨hmac r.1 (framed [([116, 101, 110, 97, 110, 116] : List UInt8), ([97] : List UInt8), zId.1]), hmac_len _ _⟩
theorem frT_len : (framed [([116, 101, 110, 97, 110, 116] : List UInt8), ([97] : List UInt8), zId.1]).length ≤ 1048576 := by
  have hz := zId.2
  simp only [framed, List.flatMap_cons, List.flatMap_nil, List.length_append, be_len, List.length_cons, List.length_nil, hz]
  omega
set_option maxHeartbeats 400000 in
theorem tenant_ret (w0 : World) (wb nb : Nat) (r : Id32) (dl : Int) (h : Id32) (lg : Gl Ent) (of : Id32) (n : Int) (b s : Sl) (now : Int) (hO : Own w0 [.blk wb (wrkE (⟨some nb, (⟨10, [97], of, n, 0, 0, b, s, now, zId⟩ : Opr), none, 0⟩ : Wrk)) 75, .blk nb (staE (⟨r, dl, 0, ⟨none, 0, 0, []⟩, ⟨none, 0, 0, []⟩, lg, h⟩ : Sta)) 30]) :
    Ret Tryz.prog 58 [.pointer (some ⟨wb, 0, none⟩)] w0 fun v w' => ∃ a k, v = .agg (ansE (⟨201, ⟨none, 0, 0, []⟩⟩ : Ans)).toArray ∧ Hp w0 w' (keys [.blk wb (wrkE (⟨some nb, (⟨10, [97], of, n, 0, 0, b, s, now, zId⟩ : Opr), none, 0⟩ : Wrk)) 75, .blk nb (staE (⟨r, dl, 0, ⟨none, 0, 0, []⟩, ⟨none, 0, 0, []⟩, lg, h⟩ : Sta)) 30]) [.blk wb (wrkE (⟨some nb, (⟨10, [97], of, n, 0, 0, b, s, now, zId⟩ : Opr), none, 0⟩ : Wrk)) 75, .blk nb (staE (⟨r, dl, 0, ⟨hd a, 1, k, [(⟨[97], kT r, n, 1, ⟨none, 0, 0, []⟩, ⟨none, 0, 0, []⟩, ⟨none, 0, 0, []⟩⟩ : Tn)]⟩, ⟨none, 0, 0, []⟩, lg, h⟩ : Sta)) 30, .own a 1 k (([(⟨[97], kT r, n, 1, ⟨none, 0, 0, []⟩, ⟨none, 0, 0, []⟩, ⟨none, 0, 0, []⟩⟩ : Tn)] : List Tn).flatMap tnE) 53 38] := by
  refine ret_mk Tryz.func58 rfl Tryz.ntmps58 (by simp) ?_
  have H := hO.start
  have hrl := r.2
  have hz1 : ([97] : List UInt8).length = 1 := rfl
  refine rG ?_; refine l_op (o_alloc H zc43 (fun b1 w H hb1 => ?_)); replace H : Hp _ w _ ([.blk wb (wrkE (⟨(some nb), (⟨10, ([97] : List UInt8), of, n, 0, (0 : UInt8), b, s, now, zId⟩ : Opr), none, (0 : UInt64)⟩ : Wrk)) 75, .blk nb (staE (⟨r, dl, (0 : UInt64), ⟨none, 0, 0, []⟩, ⟨none, 0, 0, []⟩, lg, h⟩ : Sta)) 30, .blk b1 (ansE (⟨0, ⟨none, 0, 0, []⟩⟩ : Ans)) 43]) := H
  refine eN ?_
  refine qB ?_; refine rG ?_; refine mV ?_; refine lV (r_nilc rfl) ?_; refine lV (r_fa rfl fo75_2) ?_; refine lV (r_l1 (v := .pointer none) H (i := 0) rfl rfl ct73 (wrkE_c2 _)) ?_; refine lV (r_nepp Tryz.underlying73 (by kernel_rfl) rfl rfl) ?_; refine aZ ?_; refine eN ?_
  refine qN ?_; refine rG ?_; refine mV ?_; refine lV (r_nilc rfl) ?_; refine lV (r_fa rfl fo75_0) ?_; refine lV (r_l1 (v := .pointer (some ⟨nb, 0, none⟩)) H (i := 0) rfl rfl ct72 (wrkE_c0 _)) ?_; refine lV (r_nilc rfl) ?_; refine lV (r_fa rfl fo30_3) ?_; refine lV (r_l1 (v := .slice none 0 0) H (i := 1) rfl rfl ct26 (staE_c3 _)) ?_; refine lV (r_lens el26 rfl) ?_; refine lV (r_bin (a := 0) (b := 32) rfl rfl (fun _ => b_geqB false (decide_eq_false oM))) ?_; refine aZ ?_; refine eN ?_
  refine qN ?_; refine c_skip ?_; repeat refine c_seq ?_
  refine heldH H mixed fun H => ?_
  have HS := H
  refine tK 0 rfl (fun w HS => r_mv) HS ?_; refine tK 1 rfl (fun w HS => r_nilc rfl) HS ?_; refine tK 2 rfl (fun w HS => r_fa rfl fo75_1) HS ?_; refine tK 3 rfl (fun w HS => r_fa rfl fo47_1) HS ?_; refine tK 4 rfl (fun w HS => r_l1 (v := .string ⟨(([97] : List UInt8)).toArray⟩) HS (i := 0) rfl rfl ct9 ((wrkE_c1 _).comp (oprE_c1 _))) HS ?_; refine tK 5 rfl (fun w HS => r_mv) HS ?_; refine tK 6 rfl (fun w HS => r_nilc rfl) HS ?_; refine tK 7 rfl (fun w HS => r_fa rfl fo75_1) HS ?_; refine tK 8 rfl (fun w HS => r_fa rfl fo47_3) HS ?_; refine tK 9 rfl (fun w HS => r_l1 (v := VI n) HS (i := 0) rfl rfl ct2 ((wrkE_c1 _).comp (oprE_c3 _))) HS ?_; refine tK 10 rfl (fun w HS => r_bldG (Z := tnE (⟨([] : List UInt8), zId, 0, 0, ⟨none, 0, 0, []⟩, ⟨none, 0, 0, []⟩, ⟨none, 0, 0, []⟩⟩ : Tn)) (E := tnE (⟨([97] : List UInt8), zId, n, 1, ⟨none, 0, 0, []⟩, ⟨none, 0, 0, []⟩, ⟨none, 0, 0, []⟩⟩ : Tn)) (pv := [(0, .string ⟨(([97] : List UInt8)).toArray⟩), (2, VI n), (3, VI 1)]) bd53 rfl rfl (.consP rfl (tnE_p0 _ ([97] : List UInt8)) rfl (.consP rfl (tnE_p2 _ n) rfl (.consP rfl (tnE_p3 _ 1) rfl (.nil _))))) HS ?_; refine tU 11 rfl (o_alloc H zc53 (fun b2 w H hb2 => ?_)); replace H : Hp _ w _ ([_, _, _, .blk b2 (tnE (⟨([] : List UInt8), zId, 0, 0, ⟨none, 0, 0, []⟩, ⟨none, 0, 0, []⟩, ⟨none, 0, 0, []⟩⟩ : Tn)) 53]) := H
  replace HS := H.sub (.cons_cons _ (.cons_cons _ (.cons_cons _ (List.nil_sublist _))))
  refine ⟨HS, ?_⟩
  refine tU 12 rfl (o_stW (C' := tnE (⟨([97] : List UInt8), zId, n, 1, ⟨none, 0, 0, []⟩, ⟨none, 0, 0, []⟩, ⟨none, 0, 0, []⟩⟩ : Tn)) H (i := 3) rfl rfl rfl cs53 (tnE_all _) (tnE_len _) (tnE_len _) (fun w H => ?_)); replace H : Hp _ w _ ([_, _, _, .blk b2 (tnE (⟨([97] : List UInt8), zId, n, 1, ⟨none, 0, 0, []⟩, ⟨none, 0, 0, []⟩, ⟨none, 0, 0, []⟩⟩ : Tn)) 53]) := H
  replace HS := H.sub (.cons_cons _ (.cons_cons _ (.cons_cons _ (List.nil_sublist _))))
  refine ⟨HS, ?_⟩
  refine t_done (by kernel_rfl) ?_
  clear HS
  repeat refine c_seq ?_
  refine c_join (fun τ w => ∃ b3 b4 ob6 b8 c5, ∃ σ, τ = ups σ [(0, .pointer (some ⟨wb, 0, none⟩)), (2, .pointer (some ⟨b1, 0, none⟩)), (3, .pointer (some ⟨b2, 0, none⟩))] ∧ Hp w0 w (keys [.blk wb (wrkE (⟨some nb, (⟨10, [97], of, n, 0, 0, b, s, now, zId⟩ : Opr), none, 0⟩ : Wrk)) 75, .blk nb (staE (⟨r, dl, 0, ⟨none, 0, 0, []⟩, ⟨none, 0, 0, []⟩, lg, h⟩ : Sta)) 30]) ([.blk wb (wrkE (⟨(some nb), (⟨10, ([97] : List UInt8), of, n, 0, (0 : UInt8), b, s, now, zId⟩ : Opr), none, (0 : UInt64)⟩ : Wrk)) 75, .blk nb (staE (⟨r, dl, (0 : UInt64), ⟨none, 0, 0, []⟩, ⟨none, 0, 0, []⟩, lg, h⟩ : Sta)) 30, .blk b1 (ansE (⟨0, ⟨none, 0, 0, []⟩⟩ : Ans)) 43, .blk b2 (tnE (⟨([97] : List UInt8), kT r, n, 1, ⟨none, 0, 0, []⟩, ⟨none, 0, 0, []⟩, ⟨none, 0, 0, []⟩⟩ : Tn)) 53, .obj b3 (litO (([(116 : UInt8), (101 : UInt8), (110 : UInt8), (97 : UInt8), (110 : UInt8), (116 : UInt8)]).map V8) 5), .obj b4 ob6, .own (some b8) 3 3 ([(⟨some ⟨b3, 0, none⟩, 6, 6, [(116 : UInt8), (101 : UInt8), (110 : UInt8), (97 : UInt8), (110 : UInt8), (116 : UInt8)]⟩ : Sl).v, (⟨some ⟨b4, 0, none⟩, (([97] : List UInt8)).length, c5, ([97] : List UInt8)⟩ : Sl).v, (⟨some ⟨wb, 41, none⟩, 32, 32, zId.1⟩ : Sl).v]) 33 1])) ?_ ?_; refine heldZ H (fun j => Nat.ble 19 j) mixed fun H => ?_
  have HS := H
  refine zA 0 rfl (fun w => r_mv) ?_; refine zA 1 rfl (fun w => r_nilc rfl) ?_; refine zA 2 rfl (fun w => r_fa rfl fo75_0) ?_; refine zT 3 rfl (fun w HS => r_l1 (v := .pointer (some ⟨nb, 0, none⟩)) HS (i := 0) rfl rfl ct72 (wrkE_c0 _)) HS ?_; refine zA 4 rfl (fun w => r_nilc rfl) ?_; refine zA 5 rfl (fun w => r_fa rfl fo30_0) ?_; refine zA 6 rfl (fun w => r_slAo (o := 0) (h := 32) (m := 32) (lv := none) (hv := none) (mv := none) rfl ar24 rfl rfl rfl (fun w => sbn w)) ?_; refine zA 9 rfl (fun w => r_fa rfl fo53_0) ?_; refine zT 10 rfl (fun w HS => r_l1 (v := .string ⟨(([97] : List UInt8)).toArray⟩) HS (i := 3) rfl rfl ct9 (tnE_c0 _)) HS ?_; refine zA 12 rfl (fun w => r_mv) ?_; refine zA 13 rfl (fun w => r_nilc rfl) ?_; refine zA 14 rfl (fun w => r_fa rfl fo75_1) ?_; refine zA 15 rfl (fun w => r_fa rfl fo47_9) ?_; refine zA 16 rfl (fun w => r_slAo (o := 41) (h := 32) (m := 32) (lv := none) (hv := none) (mv := none) rfl ar24 rfl rfl rfl (fun w => sbn w)) ?_; refine z_all [7, 11] (by kernel_rfl) (by simp) (all_cons (w_op 7 rfl ?_) (all_cons (w_op 11 rfl ?_) (all_nil)))
  ·
   refine (o_bslB ([(116 : UInt8), (101 : UInt8), (110 : UInt8), (97 : UInt8), (110 : UInt8), (116 : UInt8)]) H sl33 zc5 rfl rfl (by decide) (fun b3 w H hb3 => ?_))
   replace H : Hp _ w _ ([_, _, _, _, .own (some b3) 6 6 (([(116 : UInt8), (101 : UInt8), (110 : UInt8), (97 : UInt8), (110 : UInt8), (116 : UInt8)]).map V8) 5 1]) := H
   replace HS := H.sub (.cons_cons _ (.cons_cons _ (.cons_cons _ (.cons_cons _ (List.nil_sublist _)))))
   refine ⟨fun _ _ => HS, ?_⟩
   refine z_all [8, 11] (by kernel_rfl) (by simp) (all_cons (w_op 8 rfl ?_) (all_cons (w_op 11 rfl ?_) (all_nil)))
   ·
    replace H := H.toBlkB (i := 4) rfl
    refine (o_lit H (i := 4) rfl Tryz.underlying33 Tryz.underlying5 rfl (fun w H => ?_))
    replace H : Hp _ w _ ([_, _, _, _, .obj b3 (litO (([(116 : UInt8), (101 : UInt8), (110 : UInt8), (97 : UInt8), (110 : UInt8), (116 : UInt8)]).map V8) 5)]) := H
    replace HS := H.sub (.cons_cons _ (.cons_cons _ (.cons_cons _ (.cons_cons _ (List.nil_sublist _)))))
    refine ⟨fun _ _ => HS, ?_⟩
    refine zU 11 rfl (o_s2B (l := ([97] : List UInt8)) H Tryz.underlying9 Tryz.underlying33 Tryz.underlying5 rfl oM (fun b4 c5 ob6 w H hb4 hr7 => ?_)); replace H : Hp _ w _ ([_, _, _, _, _, .obj b4 ob6]) := H
    replace HS := H.sub (.cons_cons _ (.cons_cons _ (.cons_cons _ (.cons_cons _ (List.nil_sublist _)))))
    refine ⟨fun _ _ => HS, ?_⟩
    refine zU 17 rfl (o_bslV ([(⟨some ⟨b3, 0, none⟩, 6, 6, [(116 : UInt8), (101 : UInt8), (110 : UInt8), (97 : UInt8), (110 : UInt8), (116 : UInt8)]⟩ : Sl).v, (⟨some ⟨b4, 0, none⟩, (([97] : List UInt8)).length, c5, ([97] : List UInt8)⟩ : Sl).v, (⟨some ⟨wb, 41, none⟩, 32, 32, zId.1⟩ : Sl).v]) H sl80 zc33 rfl (by simp [Value.oneCell', Sl.v]) rfl (by decide) (fun b8 w H hb8 => ?_)); replace H : Hp _ w _ ([_, _, _, _, _, _, .own (some b8) 3 3 ([(⟨some ⟨b3, 0, none⟩, 6, 6, [(116 : UInt8), (101 : UInt8), (110 : UInt8), (97 : UInt8), (110 : UInt8), (116 : UInt8)]⟩ : Sl).v, (⟨some ⟨b4, 0, none⟩, (([97] : List UInt8)).length, c5, ([97] : List UInt8)⟩ : Sl).v, (⟨some ⟨wb, 41, none⟩, 32, 32, zId.1⟩ : Sl).v]) 33 1]) := H
    replace HS := H.sub (.cons_cons _ (.cons_cons _ (.cons_cons _ (.cons_cons _ (List.nil_sublist _)))))
    refine ⟨fun _ _ => HS, ?_⟩
    refine zU 18 rfl (o_callR Tryz.func30 rfl rfl rfl (macOf_ret _ (⟨some ⟨nb, 0, none⟩, 32, 32, r.1⟩ : Sl) (H.slMid (i := 1) rfl (staE_c0 _) (by decide)) (hd (some b8)) 3 3 [(⟨some ⟨b3, 0, none⟩, 6, 6, [(116 : UInt8), (101 : UInt8), (110 : UInt8), (97 : UInt8), (110 : UInt8), (116 : UInt8)]⟩ : Sl), (⟨some ⟨b4, 0, none⟩, (([97] : List UInt8)).length, c5, ([97] : List UInt8)⟩ : Sl), (⟨some ⟨wb, 41, none⟩, 32, 32, zId.1⟩ : Sl)] (H.own (i := 6) rfl) rfl (all3 (ok_lit H (i := 4) rfl rfl rfl (by decide) (by decide)) (hr7 _ (H.has (.obj b4 ob6) (by simp))) (H.slMid (i := 0) rfl ((wrkE_c1 _).comp (oprE_c9 _)) (by decide))) oM frT_len) ?_); rintro _ w ⟨rfl, Hc⟩
    replace H : Hp _ w _ ([_, _, _, _, _, _, _]) := H.call Hc
    clear Hc
    replace HS := H.sub (.cons_cons _ (.cons_cons _ (.cons_cons _ (.cons_cons _ (List.nil_sublist _)))))
    refine ⟨fun _ _ => HS, ?_⟩
    refine zA 19 rfl (fun w => r_fa rfl fo53_1) ?_; refine zU 20 rfl (o_skP (C' := tnE (⟨([97] : List UInt8), kT r, n, 1, ⟨none, 0, 0, []⟩, ⟨none, 0, 0, []⟩, ⟨none, 0, 0, []⟩⟩ : Tn)) (V := ((kT r).1).map V8) H (i := 3) rfl rfl rfl cs24 (by first | (simp [Value.oneCell', List.all_map]; done) | (simp only [List.all_map]; simp [Value.oneCell', Function.comp_def])) (tnE_p1 _ (kT r)) (fun w H => ?_)); replace H : Hp _ w _ ([_, _, _, .blk b2 (tnE (⟨([97] : List UInt8), kT r, n, 1, ⟨none, 0, 0, []⟩, ⟨none, 0, 0, []⟩, ⟨none, 0, 0, []⟩⟩ : Tn)) 53, _, _, _]) := H
    refine ⟨fun h => Bool.noConfusion (h : true = false), ?_⟩
    clear HS
    refine z_done (by kernel_rfl) ?_; exact nrm_mk ⟨b3, b4, ob6, b8, c5, _, join_fit ⟨rfl, rfl, rfl, trivial⟩, H⟩
   ·
    refine (o_s2B (l := ([97] : List UInt8)) H Tryz.underlying9 Tryz.underlying33 Tryz.underlying5 rfl oM (fun b9 c10 ob11 w H hb9 hr12 => ?_))
    replace H : Hp _ w _ ([_, _, _, _, _, .obj b9 ob11]) := H
    replace HS := H.sub (.cons_cons _ (.cons_cons _ (.cons_cons _ (.cons_cons _ (List.nil_sublist _)))))
    refine ⟨fun _ _ => HS, ?_⟩
    replace H := H.toBlkB (i := 4) rfl
    refine zU 8 rfl (o_lit H (i := 4) rfl Tryz.underlying33 Tryz.underlying5 rfl (fun w H => ?_)); replace H : Hp _ w _ ([_, _, _, _, .obj b3 (litO (([(116 : UInt8), (101 : UInt8), (110 : UInt8), (97 : UInt8), (110 : UInt8), (116 : UInt8)]).map V8) 5), _]) := H
    replace HS := H.sub (.cons_cons _ (.cons_cons _ (.cons_cons _ (.cons_cons _ (List.nil_sublist _)))))
    refine ⟨fun _ _ => HS, ?_⟩
    refine zU 17 rfl (o_bslV ([(⟨some ⟨b3, 0, none⟩, 6, 6, [(116 : UInt8), (101 : UInt8), (110 : UInt8), (97 : UInt8), (110 : UInt8), (116 : UInt8)]⟩ : Sl).v, (⟨some ⟨b9, 0, none⟩, (([97] : List UInt8)).length, c10, ([97] : List UInt8)⟩ : Sl).v, (⟨some ⟨wb, 41, none⟩, 32, 32, zId.1⟩ : Sl).v]) H sl80 zc33 rfl (by simp [Value.oneCell', Sl.v]) rfl (by decide) (fun b13 w H hb13 => ?_)); replace H : Hp _ w _ ([_, _, _, _, _, _, .own (some b13) 3 3 ([(⟨some ⟨b3, 0, none⟩, 6, 6, [(116 : UInt8), (101 : UInt8), (110 : UInt8), (97 : UInt8), (110 : UInt8), (116 : UInt8)]⟩ : Sl).v, (⟨some ⟨b9, 0, none⟩, (([97] : List UInt8)).length, c10, ([97] : List UInt8)⟩ : Sl).v, (⟨some ⟨wb, 41, none⟩, 32, 32, zId.1⟩ : Sl).v]) 33 1]) := H
    replace HS := H.sub (.cons_cons _ (.cons_cons _ (.cons_cons _ (.cons_cons _ (List.nil_sublist _)))))
    refine ⟨fun _ _ => HS, ?_⟩
    refine zU 18 rfl (o_callR Tryz.func30 rfl rfl rfl (macOf_ret _ (⟨some ⟨nb, 0, none⟩, 32, 32, r.1⟩ : Sl) (H.slMid (i := 1) rfl (staE_c0 _) (by decide)) (hd (some b13)) 3 3 [(⟨some ⟨b3, 0, none⟩, 6, 6, [(116 : UInt8), (101 : UInt8), (110 : UInt8), (97 : UInt8), (110 : UInt8), (116 : UInt8)]⟩ : Sl), (⟨some ⟨b9, 0, none⟩, (([97] : List UInt8)).length, c10, ([97] : List UInt8)⟩ : Sl), (⟨some ⟨wb, 41, none⟩, 32, 32, zId.1⟩ : Sl)] (H.own (i := 6) rfl) rfl (all3 (ok_lit H (i := 4) rfl rfl rfl (by decide) (by decide)) (hr12 _ (H.has (.obj b9 ob11) (by simp))) (H.slMid (i := 0) rfl ((wrkE_c1 _).comp (oprE_c9 _)) (by decide))) oM frT_len) ?_); rintro _ w ⟨rfl, Hc⟩
    replace H : Hp _ w _ ([_, _, _, _, _, _, _]) := H.call Hc
    clear Hc
    replace HS := H.sub (.cons_cons _ (.cons_cons _ (.cons_cons _ (.cons_cons _ (List.nil_sublist _)))))
    refine ⟨fun _ _ => HS, ?_⟩
    refine zA 19 rfl (fun w => r_fa rfl fo53_1) ?_; refine zU 20 rfl (o_skP (C' := tnE (⟨([97] : List UInt8), kT r, n, 1, ⟨none, 0, 0, []⟩, ⟨none, 0, 0, []⟩, ⟨none, 0, 0, []⟩⟩ : Tn)) (V := ((kT r).1).map V8) H (i := 3) rfl rfl rfl cs24 (by first | (simp [Value.oneCell', List.all_map]; done) | (simp only [List.all_map]; simp [Value.oneCell', Function.comp_def])) (tnE_p1 _ (kT r)) (fun w H => ?_)); replace H : Hp _ w _ ([_, _, _, .blk b2 (tnE (⟨([97] : List UInt8), kT r, n, 1, ⟨none, 0, 0, []⟩, ⟨none, 0, 0, []⟩, ⟨none, 0, 0, []⟩⟩ : Tn)) 53, _, _, _]) := H
    refine ⟨fun h => Bool.noConfusion (h : true = false), ?_⟩
    clear HS
    refine z_done (by kernel_rfl) ?_; exact nrm_mk ⟨b3, b9, ob11, b13, c10, _, join_fit ⟨rfl, rfl, rfl, trivial⟩, H⟩
  ·
   refine (o_s2B (l := ([97] : List UInt8)) H Tryz.underlying9 Tryz.underlying33 Tryz.underlying5 rfl oM (fun b14 c15 ob16 w H hb14 hr17 => ?_))
   replace H : Hp _ w _ ([_, _, _, _, .obj b14 ob16]) := H
   replace HS := H.sub (.cons_cons _ (.cons_cons _ (.cons_cons _ (.cons_cons _ (List.nil_sublist _)))))
   refine ⟨fun _ _ => HS, ?_⟩
   refine zU 7 rfl (o_bslB ([(116 : UInt8), (101 : UInt8), (110 : UInt8), (97 : UInt8), (110 : UInt8), (116 : UInt8)]) H sl33 zc5 rfl rfl (by decide) (fun b18 w H hb18 => ?_)); replace H : Hp _ w _ ([_, _, _, _, _, .own (some b18) 6 6 (([(116 : UInt8), (101 : UInt8), (110 : UInt8), (97 : UInt8), (110 : UInt8), (116 : UInt8)]).map V8) 5 1]) := H
   replace HS := H.sub (.cons_cons _ (.cons_cons _ (.cons_cons _ (.cons_cons _ (List.nil_sublist _)))))
   refine ⟨fun _ _ => HS, ?_⟩
   replace H := H.toBlkB (i := 5) rfl
   refine zU 8 rfl (o_lit H (i := 5) rfl Tryz.underlying33 Tryz.underlying5 rfl (fun w H => ?_)); replace H : Hp _ w _ ([_, _, _, _, _, .obj b18 (litO (([(116 : UInt8), (101 : UInt8), (110 : UInt8), (97 : UInt8), (110 : UInt8), (116 : UInt8)]).map V8) 5)]) := H
   replace HS := H.sub (.cons_cons _ (.cons_cons _ (.cons_cons _ (.cons_cons _ (List.nil_sublist _)))))
   refine ⟨fun _ _ => HS, ?_⟩
   refine zU 17 rfl (o_bslV ([(⟨some ⟨b18, 0, none⟩, 6, 6, [(116 : UInt8), (101 : UInt8), (110 : UInt8), (97 : UInt8), (110 : UInt8), (116 : UInt8)]⟩ : Sl).v, (⟨some ⟨b14, 0, none⟩, (([97] : List UInt8)).length, c15, ([97] : List UInt8)⟩ : Sl).v, (⟨some ⟨wb, 41, none⟩, 32, 32, zId.1⟩ : Sl).v]) H sl80 zc33 rfl (by simp [Value.oneCell', Sl.v]) rfl (by decide) (fun b19 w H hb19 => ?_)); replace H : Hp _ w _ ([_, _, _, _, _, _, .own (some b19) 3 3 ([(⟨some ⟨b18, 0, none⟩, 6, 6, [(116 : UInt8), (101 : UInt8), (110 : UInt8), (97 : UInt8), (110 : UInt8), (116 : UInt8)]⟩ : Sl).v, (⟨some ⟨b14, 0, none⟩, (([97] : List UInt8)).length, c15, ([97] : List UInt8)⟩ : Sl).v, (⟨some ⟨wb, 41, none⟩, 32, 32, zId.1⟩ : Sl).v]) 33 1]) := H
   replace HS := H.sub (.cons_cons _ (.cons_cons _ (.cons_cons _ (.cons_cons _ (List.nil_sublist _)))))
   refine ⟨fun _ _ => HS, ?_⟩
   refine zU 18 rfl (o_callR Tryz.func30 rfl rfl rfl (macOf_ret _ (⟨some ⟨nb, 0, none⟩, 32, 32, r.1⟩ : Sl) (H.slMid (i := 1) rfl (staE_c0 _) (by decide)) (hd (some b19)) 3 3 [(⟨some ⟨b18, 0, none⟩, 6, 6, [(116 : UInt8), (101 : UInt8), (110 : UInt8), (97 : UInt8), (110 : UInt8), (116 : UInt8)]⟩ : Sl), (⟨some ⟨b14, 0, none⟩, (([97] : List UInt8)).length, c15, ([97] : List UInt8)⟩ : Sl), (⟨some ⟨wb, 41, none⟩, 32, 32, zId.1⟩ : Sl)] (H.own (i := 6) rfl) rfl (all3 (ok_lit H (i := 5) rfl rfl rfl (by decide) (by decide)) (hr17 _ (H.has (.obj b14 ob16) (by simp))) (H.slMid (i := 0) rfl ((wrkE_c1 _).comp (oprE_c9 _)) (by decide))) oM frT_len) ?_); rintro _ w ⟨rfl, Hc⟩
   replace H : Hp _ w _ ([_, _, _, _, _, _, _]) := H.call Hc
   clear Hc
   replace HS := H.sub (.cons_cons _ (.cons_cons _ (.cons_cons _ (.cons_cons _ (List.nil_sublist _)))))
   refine ⟨fun _ _ => HS, ?_⟩
   refine zA 19 rfl (fun w => r_fa rfl fo53_1) ?_; refine zU 20 rfl (o_skP (C' := tnE (⟨([97] : List UInt8), kT r, n, 1, ⟨none, 0, 0, []⟩, ⟨none, 0, 0, []⟩, ⟨none, 0, 0, []⟩⟩ : Tn)) (V := ((kT r).1).map V8) H (i := 3) rfl rfl rfl cs24 (by first | (simp [Value.oneCell', List.all_map]; done) | (simp only [List.all_map]; simp [Value.oneCell', Function.comp_def])) (tnE_p1 _ (kT r)) (fun w H => ?_)); replace H : Hp _ w _ ([_, _, _, .blk b2 (tnE (⟨([97] : List UInt8), kT r, n, 1, ⟨none, 0, 0, []⟩, ⟨none, 0, 0, []⟩, ⟨none, 0, 0, []⟩⟩ : Tn)) 53, _, _, _]) := H
   refine ⟨fun h => Bool.noConfusion (h : true = false), ?_⟩
   clear HS
   refine z_done (by kernel_rfl) ?_; exact nrm_mk ⟨b18, b14, ob16, b19, c15, _, join_fit ⟨rfl, rfl, rfl, trivial⟩, H.perm ((perm_fr (j := 0) rfl).trans (.cons _ ((perm_fr (j := 0) rfl).trans (.cons _ ((perm_fr (j := 0) rfl).trans (.cons _ ((perm_fr (j := 0) rfl).trans (.cons _ ((perm_fr (j := 1) rfl).trans (.cons _ (.refl _)))))))))))⟩
  clear H
  rintro _ w ⟨b3, b4, ob6, b8, c5, τ, rfl, H⟩
  refine rG ?_; refine aZ ?_; refine eN ?_
  refine qB ?_; repeat refine c_seq ?_
  refine c_loop (fun (i20 : Nat) => [(0, .pointer (some ⟨wb, 0, none⟩)), (2, .pointer (some ⟨b1, 0, none⟩)), (3, .pointer (some ⟨b2, 0, none⟩)), (4, VI (i20 : Int))])
    (fun (i20 : Nat) w => (i20 = 0) ∧ Hp w0 w (keys [.blk wb (wrkE (⟨some nb, (⟨10, [97], of, n, 0, 0, b, s, now, zId⟩ : Opr), none, 0⟩ : Wrk)) 75, .blk nb (staE (⟨r, dl, 0, ⟨none, 0, 0, []⟩, ⟨none, 0, 0, []⟩, lg, h⟩ : Sta)) 30]) ([.blk wb (wrkE (⟨(some nb), (⟨10, ([97] : List UInt8), of, n, 0, (0 : UInt8), b, s, now, zId⟩ : Opr), none, (0 : UInt64)⟩ : Wrk)) 75, .blk nb (staE (⟨r, dl, (0 : UInt64), ⟨none, 0, 0, []⟩, ⟨none, 0, 0, []⟩, lg, h⟩ : Sta)) 30, .blk b1 (ansE (⟨0, ⟨none, 0, 0, []⟩⟩ : Ans)) 43, .blk b2 (tnE (⟨([97] : List UInt8), kT r, n, 1, ⟨none, 0, 0, []⟩, ⟨none, 0, 0, []⟩, ⟨none, 0, 0, []⟩⟩ : Tn)) 53, .obj b3 (litO (([(116 : UInt8), (101 : UInt8), (110 : UInt8), (97 : UInt8), (110 : UInt8), (116 : UInt8)]).map V8) 5), .obj b4 ob6, .own (some b8) 3 3 ([(⟨some ⟨b3, 0, none⟩, 6, 6, [(116 : UInt8), (101 : UInt8), (110 : UInt8), (97 : UInt8), (110 : UInt8), (116 : UInt8)]⟩ : Sl).v, (⟨some ⟨b4, 0, none⟩, (([97] : List UInt8)).length, c5, ([97] : List UInt8)⟩ : Sl).v, (⟨some ⟨wb, 41, none⟩, 32, 32, zId.1⟩ : Sl).v]) 33 1]))
    (fun (i20 : Nat) => 0) 0 ⟨rfl, rfl, rfl, rfl, trivial⟩ ⟨rfl, H⟩ ?_
  clear H
  rintro i20 τ w ⟨hi20, H⟩
  repeat refine c_seq ?_
  refine c_still mixed (by kernel_rfl) ?_; replace H := H.drew
  refine s_op (r_mv) ?_; refine s_op (r_mv) ?_; refine s_op (r_nilc rfl) ?_; refine s_op (r_fa rfl fo75_0) ?_; refine s_op (r_l1 (v := .pointer (some ⟨nb, 0, none⟩)) H (i := 0) rfl rfl ct72 (wrkE_c0 _)) ?_; refine s_op (r_nilc rfl) ?_; refine s_op (r_fa rfl fo30_3) ?_; refine s_op (r_l1 (v := .slice none 0 0) H (i := 1) rfl rfl ct26 (staE_c3 _)) ?_; refine s_op (r_lens el26 rfl) ?_; refine s_op (r_bin (a := (i20 : Int)) (b := 0) rfl rfl (fun _ => b_lssB false (decide_eq_false oM))) ?_; refine s_op (r_mv) ?_; refine s_no rfl rfl rfl rfl ?_; refine s_no rfl rfl rfl rfl ?_; refine s_no rfl rfl rfl rfl ?_; refine s_no rfl rfl rfl rfl ?_; refine s_no rfl rfl rfl rfl ?_; refine s_no rfl rfl rfl rfl ?_; refine s_no rfl rfl rfl rfl ?_; refine s_no rfl rfl rfl rfl ?_; refine s_no rfl rfl rfl rfl ?_; refine s_no rfl rfl rfl rfl ?_; refine s_no rfl rfl rfl rfl ?_; refine s_no rfl rfl rfl rfl ?_; refine s_no rfl rfl rfl rfl ?_; refine s_no rfl rfl rfl rfl ?_; refine s_op (r_pick rfl) ?_; refine s_nil ?_; refine qN ?_; refine c_exit ?_
  subst hi20
  repeat refine c_seq ?_
  refine heldZ H (fun j => Nat.ble 15 j) mixed fun H => ?_
  have HS := H
  refine zA 0 rfl (fun w => r_mv) ?_; refine zA 1 rfl (fun w => r_nilc rfl) ?_; refine zA 2 rfl (fun w => r_fa rfl fo75_0) ?_; refine zT 3 rfl (fun w HS => r_l1 (v := .pointer (some ⟨nb, 0, none⟩)) HS (i := 0) rfl rfl ct72 (wrkE_c0 _)) HS ?_; refine zA 4 rfl (fun w => r_mv) ?_; refine zA 5 rfl (fun w => r_nilc rfl) ?_; refine zA 6 rfl (fun w => r_fa rfl fo75_0) ?_; refine zT 7 rfl (fun w HS => r_l1 (v := .pointer (some ⟨nb, 0, none⟩)) HS (i := 0) rfl rfl ct72 (wrkE_c0 _)) HS ?_; refine zA 8 rfl (fun w => r_nilc rfl) ?_; refine zA 9 rfl (fun w => r_fa rfl fo30_3) ?_; refine zT 10 rfl (fun w HS => r_l1 (v := .slice none 0 0) HS (i := 1) rfl rfl ct26 (staE_c3 _)) HS ?_; refine zA 11 rfl (fun w => r_mv) ?_; refine zT 12 rfl (fun w HS => r_ldA (C := tnE (⟨([97] : List UInt8), kT r, n, 1, ⟨none, 0, 0, []⟩, ⟨none, 0, 0, []⟩, ⟨none, 0, 0, []⟩⟩ : Tn)) HS (i := 3) rfl rfl rt53 (tnE_len _)) HS ?_; refine zU 13 rfl (o_bslG1 (enc := tnE) ((⟨([97] : List UInt8), kT r, n, 1, ⟨none, 0, 0, []⟩, ⟨none, 0, 0, []⟩, ⟨none, 0, 0, []⟩⟩ : Tn)) H sl26 zc53 (by rfl) (by decide) (by decide) rfl (tnE_len _) (fun b21 w H hb21 => ?_)); replace H : Hp _ w _ ([_, _, _, _, _, _, _, .own (some b21) 1 1 (([(⟨([97] : List UInt8), kT r, n, 1, ⟨none, 0, 0, []⟩, ⟨none, 0, 0, []⟩, ⟨none, 0, 0, []⟩⟩ : Tn)]).flatMap tnE) 53 38]) := H
  replace HS := H.sub (.cons_cons _ (.cons_cons _ (.cons_cons _ (.cons_cons _ (.cons_cons _ (.cons_cons _ (.cons_cons _ (List.nil_sublist _))))))))
  refine ⟨fun _ _ => HS, ?_⟩
  refine zU 14 rfl (o_callR Tryz.func99 rfl rfl rfl (insT_ret _ (⟨hd (some b21), 1, 1, [(⟨([97] : List UInt8), kT r, n, 1, ⟨none, 0, 0, []⟩, ⟨none, 0, 0, []⟩, ⟨none, 0, 0, []⟩⟩ : Tn)]⟩) (H.glOwn (i := 7) rfl (by decide) (fun c _ => tnE_len c)) rfl) ?_); rintro _ w ⟨a22, c23, rfl, Hc⟩
  replace H : Hp _ w _ ([_, _, _, _, _, _, _, _, .own a22 1 c23 (([(⟨([97] : List UInt8), kT r, n, 1, ⟨none, 0, 0, []⟩, ⟨none, 0, 0, []⟩, ⟨none, 0, 0, []⟩⟩ : Tn)]).flatMap tnE) 53 38]) := H.call Hc
  clear Hc
  replace HS := H.sub (.cons_cons _ (.cons_cons _ (.cons_cons _ (.cons_cons _ (.cons_cons _ (.cons_cons _ (.cons_cons _ (List.nil_sublist _))))))))
  refine ⟨fun _ _ => HS, ?_⟩
  refine zA 15 rfl (fun w => r_nilc rfl) ?_; refine zA 16 rfl (fun w => r_fa rfl fo30_3) ?_; refine zU 17 rfl (o_s1P (C' := staE (⟨r, dl, (0 : UInt64), ⟨hd a22, 1, c23, [(⟨([97] : List UInt8), kT r, n, 1, ⟨none, 0, 0, []⟩, ⟨none, 0, 0, []⟩, ⟨none, 0, 0, []⟩⟩ : Tn)]⟩, ⟨none, 0, 0, []⟩, lg, h⟩ : Sta)) (u := .slice (hd a22) 1 c23) H (i := 1) rfl rfl rfl cs26 rfl (staE_p3 _ (⟨hd a22, 1, c23, [(⟨([97] : List UInt8), kT r, n, 1, ⟨none, 0, 0, []⟩, ⟨none, 0, 0, []⟩, ⟨none, 0, 0, []⟩⟩ : Tn)]⟩)) (fun w H => ?_)); replace H : Hp _ w _ ([_, .blk nb (staE (⟨r, dl, (0 : UInt64), ⟨hd a22, 1, c23, [(⟨([97] : List UInt8), kT r, n, 1, ⟨none, 0, 0, []⟩, ⟨none, 0, 0, []⟩, ⟨none, 0, 0, []⟩⟩ : Tn)]⟩, ⟨none, 0, 0, []⟩, lg, h⟩ : Sta)) 30, _, _, _, _, _, _, _]) := H
  refine ⟨fun h => Bool.noConfusion (h : true = false), ?_⟩
  clear HS
  refine z_done (by kernel_rfl) ?_; refine rG ?_; refine l_op (o_callR Tryz.func18 rfl rfl rfl (only_ret _ (201)) ?_); rintro _ w ⟨rfl, Hc⟩
  replace H : Hp _ w _ ([_, _, _, _, _, _, _, _, _]) := H.call Hc
  clear Hc
  refine l_op (o_stW (C' := ansE (⟨201, ⟨none, 0, 0, []⟩⟩ : Ans)) H (i := 2) rfl rfl rfl cs43 (ansE_all _) (ansE_len _) (ansE_len _) (fun w H => ?_)); replace H : Hp _ w _ ([_, _, .blk b1 (ansE (⟨201, ⟨none, 0, 0, []⟩⟩ : Ans)) 43, _, _, _, _, _, _]) := H
  refine eN ?_
  refine cR ?_
  refine e_retc Tryz.results58 H (i := 2) rfl rfl rt43 (ansE_len _).symm ?_
  refine ⟨_, rfl, ?_⟩
  exact ⟨_, _, rfl, H.sub (.cons_cons _ (.cons_cons _ (.cons _ (.cons _ (.cons _ (.cons _ (.cons _ (.cons _ (.cons_cons _ (List.nil_sublist _))))))))))⟩
end Go.Proofs.YtmiabahejnjhiaaGreatDoor
namespace Go.Proofs.YtmiabahejnjhiaaGreatDoor
open Go
set_option maxRecDepth 100000
theorem pass3_ret (w0 : World) (wb nb : Nat) (r : Id32) (dl : Int) (h : Id32) (lg : Gl Ent) (of : Id32) (n : Int) (b s : Sl) (now : Int) (hnow : 0 ≤ now ∧ now < 9223372036854775807) (hs : s.ok w0) (hap : s.l ≠ [] → Apart s.a (keys [.blk wb (wrkE (⟨some nb, (⟨10, [97], of, n, 0, 0, b, s, now, zId⟩ : Opr), none, 0⟩ : Wrk)) 75, .blk nb (staE (⟨r, dl, 0, ⟨none, 0, 0, []⟩, ⟨none, 0, 0, []⟩, lg, h⟩ : Sta)) 30])) (hsl : s.l = tokB (tagR r) ∧ s.len ≤ 4096) (hO : Own w0 [.blk wb (wrkE (⟨some nb, (⟨10, [97], of, n, 0, 0, b, s, now, zId⟩ : Opr), none, 0⟩ : Wrk)) 75, .blk nb (staE (⟨r, dl, 0, ⟨none, 0, 0, []⟩, ⟨none, 0, 0, []⟩, lg, h⟩ : Sta)) 30]) :
    Ret Tryz.prog 20 [.pointer (some ⟨wb, 0, none⟩)] w0 fun v w' => v = .agg (ansE (⟨0, ⟨none, 0, 0, []⟩⟩ : Ans)).toArray ∧ Hp w0 w' (keys [.blk wb (wrkE (⟨some nb, (⟨10, [97], of, n, 0, 0, b, s, now, zId⟩ : Opr), none, 0⟩ : Wrk)) 75, .blk nb (staE (⟨r, dl, 0, ⟨none, 0, 0, []⟩, ⟨none, 0, 0, []⟩, lg, h⟩ : Sta)) 30]) [.blk wb (wrkE (⟨some nb, (⟨10, [97], of, n, 0, 0, b, s, now, zId⟩ : Opr), none, 0⟩ : Wrk)) 75, .blk nb (staE (⟨r, dl, 0, ⟨none, 0, 0, []⟩, ⟨none, 0, 0, []⟩, lg, h⟩ : Sta)) 30] := by
  refine ret_mk Tryz.func20 rfl Tryz.ntmps20 (by simp) ?_
  have H := hO.start
  have hsn := hs.ln
  have hs0 : s.len ≠ 0 := by
    intro h0
    rw [h0, hsl.1] at hsn
    simp [tokB] at hsn
  refine rG ?_; refine l_op (o_alloc H zc43 (fun b1 w H hb1 => ?_)); replace H : Hp _ w _ ([.blk wb (wrkE (⟨(some nb), (⟨10, ([97] : List UInt8), of, n, 0, (0 : UInt8), b, s, now, zId⟩ : Opr), none, (0 : UInt64)⟩ : Wrk)) 75, .blk nb (staE (⟨r, dl, (0 : UInt64), ⟨none, 0, 0, []⟩, ⟨none, 0, 0, []⟩, lg, h⟩ : Sta)) 30, .blk b1 (ansE (⟨0, ⟨none, 0, 0, []⟩⟩ : Ans)) 43]) := H
  refine eN ?_
  refine rG ?_; refine mV ?_; refine lV (r_nilc rfl) ?_; refine lV (r_fa rfl fo75_1) ?_; refine lV (r_fa rfl fo47_7) ?_; refine lV (r_l1 (v := s.v) H (i := 0) rfl rfl ct33 ((wrkE_c1 _).comp (oprE_c7 _))) ?_; refine lV (r_lens el33 rfl) ?_; refine lV (r_bin (a := (s.len : Int)) (b := 0) rfl rfl (fun _ => b_eqlB false (decide_eq_false oM))) ?_; refine eN ?_
  refine qN ?_; refine c_skip ?_; refine rG ?_; refine mV ?_; refine lV (r_nilc rfl) ?_; refine lV (r_fa rfl fo75_1) ?_; refine lV (r_fa rfl fo47_7) ?_; refine lV (r_l1 (v := s.v) H (i := 0) rfl rfl ct33 ((wrkE_c1 _).comp (oprE_c7 _))) ?_; refine l_op (o_callR Tryz.func41 rfl rfl rfl (take1_ret _ r s (hs.up H hap) hsl) ?_); rintro _ w ⟨rfl, Hc⟩
  replace H : Hp _ w _ ([_, _, _]) := H.call Hc
  clear Hc
  refine mV ?_; refine lV (r_ext rfl rfl) ?_; refine lV (r_ext rfl rfl) ?_; refine l_op (o_alloc H zc40 (fun b2 w H hb2 => ?_)); replace H : Hp _ w _ ([_, _, _, .blk b2 ([V64 (0 : UInt64), .string ⟨(([] : List UInt8)).toArray⟩, V8 (0 : UInt8), VI 0, VI 0, .slice none 0 0] ++ (List.replicate 32 (0 : UInt8)).map V8) 40]) := H
  refine l_op (o_stW (C' := [V64 (0 : UInt64), .string ⟨(([] : List UInt8)).toArray⟩, V8 (15 : UInt8), VI 0, VI 9223372036854775807, .slice none 0 0] ++ (tagR r).map V8) H (i := 3) rfl rfl rfl cs40 (by simp [Value.oneCell']) (by rw [List.length_append, List.length_map, (show (List.replicate 32 (0 : UInt8)).length = 32 from (List.length_replicate ..))]; rfl) (by rw [List.length_append, List.length_map, (show (tagR r).length = 32 from tagR_len _)]; rfl) (fun w H => ?_)); replace H : Hp _ w _ ([_, _, _, .blk b2 ([V64 (0 : UInt64), .string ⟨(([] : List UInt8)).toArray⟩, V8 (15 : UInt8), VI 0, VI 9223372036854775807, .slice none 0 0] ++ (tagR r).map V8) 40]) := H
  refine aZ ?_; refine eN ?_
  repeat refine c_seq ?_
  refine heldH H mixed fun H => ?_
  have HS := H
  refine tK 0 rfl (fun w HS => r_mv) HS ?_; refine tK 1 rfl (fun w HS => r_bin (a := 0) (b := 0) rfl rfl (fun _ => b_neqB false (decide_eq_false (by decide)))) HS ?_; refine tK 2 rfl (fun w HS => r_mv) HS ?_; refine tG 3 rfl (yK rfl rfl rfl) (fun w HS => r_mv) HS ?_; refine tG 4 rfl (yK rfl rfl rfl) (fun w HS => r_nilc rfl) HS ?_; refine tG 5 rfl (yK rfl rfl rfl) (fun w HS => r_fa rfl fo75_0) HS ?_; refine tG 6 rfl (yK rfl rfl rfl) (fun w HS => r_l1 (v := .pointer (some ⟨nb, 0, none⟩)) HS (i := 0) rfl rfl ct72 (wrkE_c0 _)) HS ?_; refine tG 7 rfl (yK rfl rfl rfl) (fun w HS => r_nilc rfl) HS ?_; refine tG 8 rfl (yK rfl rfl rfl) (fun w HS => r_fa rfl fo30_0) HS ?_; refine tG 9 rfl (yK rfl rfl rfl) (fun w HS => r_lk HS (i := 1) rfl rfl rt24 (staE_c0 _)) HS ?_; refine tG 10 rfl (yK rfl rfl rfl) (fun w HS => r_ldA (C := [V64 (0 : UInt64), .string ⟨(([] : List UInt8)).toArray⟩, V8 (15 : UInt8), VI 0, VI 9223372036854775807, .slice none 0 0] ++ (tagR r).map V8) HS (i := 3) rfl rfl rt40 (by rw [List.length_append, List.length_map, (show (tagR r).length = 32 from tagR_len _)]; rfl)) HS ?_; refine tG 11 rfl (yK rfl rfl rfl) (fun w HS => r_mv) HS ?_; refine tG 12 rfl (yK rfl rfl rfl) (fun w HS => r_nilc rfl) HS ?_; refine tG 13 rfl (yK rfl rfl rfl) (fun w HS => r_fa rfl fo75_1) HS ?_; refine tG 14 rfl (yK rfl rfl rfl) (fun w HS => r_fa rfl fo47_8) HS ?_; refine tG 15 rfl (yK rfl rfl rfl) (fun w HS => r_l1 (v := VI now) HS (i := 0) rfl rfl ct2 ((wrkE_c1 _).comp (oprE_c8 _))) HS ?_; refine t_stepg 16 rfl (by kernel_rfl) (yK rfl rfl rfl) (o_callR Tryz.func42 rfl rfl rfl (check0_ret _ r (now) hnow) ?_); rintro _ w ⟨rfl, Hc⟩
  replace H : Hp _ w _ ([_, _, _, _]) := H.call Hc
  clear Hc
  replace HS := H
  refine ⟨HS, ?_⟩
  refine tG 17 rfl (yK rfl rfl rfl) (fun w HS => r_bin (a := 0) (b := 0) rfl rfl (fun _ => b_neqB false (decide_eq_false (by decide)))) HS ?_; refine tK 18 rfl (fun w HS => r_pick rfl) HS ?_; refine t_done (by kernel_rfl) ?_
  clear HS
  refine qN ?_; refine c_skip ?_; repeat refine c_seq ?_
  refine heldH H mixed fun H => ?_
  have HS := H
  refine tK 0 rfl (fun w HS => r_mv) HS ?_; refine tK 1 rfl (fun w HS => r_nilc rfl) HS ?_; refine tK 2 rfl (fun w HS => r_fa rfl fo75_0) HS ?_; refine tK 3 rfl (fun w HS => r_l1 (v := .pointer (some ⟨nb, 0, none⟩)) HS (i := 0) rfl rfl ct72 (wrkE_c0 _)) HS ?_; refine tK 4 rfl (fun w HS => r_nilc rfl) HS ?_; refine tK 5 rfl (fun w HS => r_fa rfl fo30_4) HS ?_; refine tK 6 rfl (fun w HS => r_l1 (v := .slice none 0 0) HS (i := 1) rfl rfl ct27 (staE_c4 _)) HS ?_; refine tK 7 rfl (fun w HS => r_fa rfl fo40_0) HS ?_; refine tK 8 rfl (fun w HS => r_ld (v := V64 (0 : UInt64)) HS (i := 3) rfl rfl ct25 rfl) HS ?_; refine tU 9 rfl (o_callR Tryz.func43 rfl rfl rfl (bsu_ret _ ((0 : UInt64))) ?_); rintro _ w ⟨rfl, Hc⟩
  replace H : Hp _ w _ ([_, _, _, _]) := H.call Hc
  clear Hc
  replace HS := H
  refine ⟨HS, ?_⟩
  refine tK 10 rfl (fun w HS => r_mv) HS ?_; refine tK 11 rfl (fun w HS => r_ext rfl rfl) HS ?_; refine tK 12 rfl (fun w HS => r_ext rfl rfl) HS ?_; refine tK 13 rfl (fun w HS => r_as) HS ?_; refine tK 14 rfl (fun w HS => r_as) HS ?_; refine t_done (by kernel_rfl) ?_
  clear HS
  refine rG ?_; refine mV ?_; refine eN ?_
  refine qN ?_; refine c_skip ?_; refine rG ?_; refine mV ?_; refine lV (r_fa rfl fo40_0) ?_; refine lV (r_ld (v := V64 (0 : UInt64)) H (i := 3) rfl rfl ct25 rfl) ?_; refine lV (r_nilc rfl) ?_; refine lV (r_fa rfl fo75_3) ?_; refine l_op (o_s1P (C' := wrkE (⟨(some nb), (⟨10, ([97] : List UInt8), of, n, 0, (0 : UInt8), b, s, now, zId⟩ : Opr), none, (0 : UInt64)⟩ : Wrk)) (u := V64 (0 : UInt64)) H (i := 0) rfl rfl rfl cs25 rfl (wrkE_p3 _ (0 : UInt64)) (fun w H => ?_)); replace H : Hp _ w _ [_, _, _, _] := H
  refine eN ?_
  refine rG ?_; refine mV ?_; refine lV (r_nilc rfl) ?_; refine lV (r_fa rfl fo75_1) ?_; refine lV (r_fa rfl fo47_0) ?_; refine lV (r_l1 (v := VI 10) H (i := 0) rfl rfl ct3 ((wrkE_c1 _).comp (oprE_c0 _))) ?_; refine l_op (o_callR Tryz.func44 rfl rfl rfl (needs10_ret _) ?_); rintro _ w ⟨rfl, Hc⟩
  replace H : Hp _ w _ ([_, _, _, _]) := H.call Hc
  clear Hc
  refine mV ?_; refine lV (r_ext rfl rfl) ?_; refine lV (r_ext rfl rfl) ?_; refine aZ ?_; refine aZ ?_; refine eN ?_
  refine rG ?_; refine lV (r_ldA (C := [V64 (0 : UInt64), .string ⟨(([] : List UInt8)).toArray⟩, V8 (15 : UInt8), VI 0, VI 9223372036854775807, .slice none 0 0] ++ (tagR r).map V8) H (i := 3) rfl rfl rt40 (by rw [List.length_append, List.length_map, (show (tagR r).length = 32 from tagR_len _)]; rfl)) ?_; refine l_op (o_callR Tryz.func45 rfl rfl rfl (eff0_ret _ (tagR r) (show (tagR r).length = 32 from tagR_len _)) ?_); rintro _ w ⟨rfl, Hc⟩
  replace H : Hp _ w _ ([_, _, _, _]) := H.call Hc
  clear Hc
  refine mV ?_; refine lV (r_ext rfl rfl) ?_; refine lV (r_ext rfl rfl) ?_; refine aZ ?_; refine aZ ?_; refine eN ?_
  repeat refine c_seq ?_
  refine heldH H mixed fun H => ?_
  have HS := H
  refine tK 0 rfl (fun w HS => r_mv) HS ?_; refine tK 1 rfl (fun w HS => r_mv) HS ?_; refine tU 2 rfl (o_callR Tryz.func46 rfl rfl rfl (rcov_ret _ ((15 : UInt8)) ((8 : UInt8))) ?_); rintro _ w' ⟨rfl, hw3⟩
  rw [hw3]; clear hw3 w'
  have hk4 : (rCov ((15 : UInt8)) ((8 : UInt8))) = true := (by rfl)
  replace HS := H
  refine ⟨HS, ?_⟩
  refine tK 3 rfl (fun w HS => r_not rfl) HS ?_; refine tK 4 rfl (fun w HS => r_mv) HS ?_; refine tG 5 rfl (yK rfl rfl (by exact congrArg Value.bool (congrArg not hk4))) (fun w HS => r_fa rfl fo40_1) HS ?_; refine tG 6 rfl (yK rfl rfl (by exact congrArg Value.bool (congrArg not hk4))) (fun w HS => r_ld (v := .string ⟨(([] : List UInt8)).toArray⟩) HS (i := 3) rfl rfl ct9 rfl) HS ?_; refine tG 7 rfl (yK rfl rfl (by exact congrArg Value.bool (congrArg not hk4))) (fun w HS => r_strne (a := ([] : List UInt8)) (b := ([] : List UInt8)) rfl rfl) HS ?_; refine tG 8 rfl (yK rfl rfl (by exact congrArg Value.bool (congrArg not hk4))) (fun w HS => r_mv) HS ?_; refine tN 9 rfl (yK rfl rfl (by exact congrArg Value.bool (congrArg not (decide_eq_true (rfl : ([] : List UInt8) = ([] : List UInt8)))))) rfl HS ?_; refine tN 10 rfl (yK rfl rfl (by exact congrArg Value.bool (congrArg not (decide_eq_true (rfl : ([] : List UInt8) = ([] : List UInt8)))))) rfl HS ?_; refine tN 11 rfl (yK rfl rfl (by exact congrArg Value.bool (congrArg not (decide_eq_true (rfl : ([] : List UInt8) = ([] : List UInt8)))))) rfl HS ?_; refine tN 12 rfl (yK rfl rfl (by exact congrArg Value.bool (congrArg not (decide_eq_true (rfl : ([] : List UInt8) = ([] : List UInt8)))))) rfl HS ?_; refine tN 13 rfl (yK rfl rfl (by exact congrArg Value.bool (congrArg not (decide_eq_true (rfl : ([] : List UInt8) = ([] : List UInt8)))))) rfl HS ?_; refine tN 14 rfl (yK rfl rfl (by exact congrArg Value.bool (congrArg not (decide_eq_true (rfl : ([] : List UInt8) = ([] : List UInt8)))))) rfl HS ?_; refine tN 15 rfl (yK rfl rfl (by exact congrArg Value.bool (congrArg not (decide_eq_true (rfl : ([] : List UInt8) = ([] : List UInt8)))))) rfl HS ?_; refine t_non 16 rfl (by kernel_rfl) (by kernel_rfl) (by kernel_rfl) (fun _ _ _ h => h) rfl rfl rfl HS ?_; refine t_non 17 rfl (by kernel_rfl) (by kernel_rfl) (by kernel_rfl) (fun _ _ _ h => h) rfl rfl rfl HS ?_; refine t_non 18 rfl (by kernel_rfl) (by kernel_rfl) (by kernel_rfl) (fun _ _ _ h => h) rfl rfl rfl HS ?_; refine t_non 19 rfl (by kernel_rfl) (by kernel_rfl) (by kernel_rfl) (fun _ _ _ h => h) rfl rfl rfl HS ?_; refine t_non 20 rfl (by kernel_rfl) (by kernel_rfl) (by kernel_rfl) (fun _ _ _ h => h) rfl rfl rfl HS ?_; refine t_non 21 rfl (by kernel_rfl) (by kernel_rfl) (by kernel_rfl) (fun _ _ _ h => h) rfl rfl rfl HS ?_; refine t_non 22 rfl (by kernel_rfl) (by kernel_rfl) (by kernel_rfl) (fun _ _ _ h => h) rfl rfl rfl HS ?_; refine t_non 23 rfl (by kernel_rfl) (by kernel_rfl) (by kernel_rfl) (fun _ _ _ h => h) rfl rfl rfl HS ?_; refine tN 24 rfl (yK rfl rfl (by exact congrArg Value.bool (congrArg not (decide_eq_true (rfl : ([] : List UInt8) = ([] : List UInt8)))))) rfl HS ?_; refine tG 25 rfl (yK rfl rfl (by exact congrArg Value.bool (congrArg not hk4))) (fun w HS => r_pick (b := false) (congrArg Value.bool (congrArg not (decide_eq_true (rfl : ([] : List UInt8) = ([] : List UInt8)))))) HS ?_; refine tK 26 rfl (fun w HS => r_pick (b := false) (congrArg Value.bool (congrArg not hk4))) HS ?_; refine t_done (by kernel_rfl) ?_
  clear HS
  refine qN ?_; refine c_skip ?_; repeat refine c_seq ?_
  refine heldH H mixed fun H => ?_
  have HS := H
  refine tK 0 rfl (fun w HS => r_mv) HS ?_; refine tK 1 rfl (fun w HS => r_nilc rfl) HS ?_; refine tK 2 rfl (fun w HS => r_fa rfl fo75_0) HS ?_; refine tK 3 rfl (fun w HS => r_l1 (v := .pointer (some ⟨nb, 0, none⟩)) HS (i := 0) rfl rfl ct72 (wrkE_c0 _)) HS ?_; refine tK 4 rfl (fun w HS => r_nilc rfl) HS ?_; refine tK 5 rfl (fun w HS => r_fa rfl fo30_3) HS ?_; refine tK 6 rfl (fun w HS => r_l1 (v := .slice none 0 0) HS (i := 1) rfl rfl ct26 (staE_c3 _)) HS ?_; refine tK 7 rfl (fun w HS => r_mv) HS ?_; refine tK 8 rfl (fun w HS => r_nilc rfl) HS ?_; refine tK 9 rfl (fun w HS => r_fa rfl fo75_1) HS ?_; refine tK 10 rfl (fun w HS => r_fa rfl fo47_1) HS ?_; refine tK 11 rfl (fun w HS => r_l1 (v := .string ⟨(([97] : List UInt8)).toArray⟩) HS (i := 0) rfl rfl ct9 ((wrkE_c1 _).comp (oprE_c1 _))) HS ?_; refine tU 12 rfl (o_callR Tryz.func48 rfl rfl rfl (bst_ret _ (([97] : List UInt8)) (.func (.func 49) #[] #[])) ?_); rintro _ w ⟨rfl, Hc⟩
  replace H : Hp _ w _ ([_, _, _, _]) := H.call Hc
  clear Hc
  replace HS := H
  refine ⟨HS, ?_⟩
  refine tK 13 rfl (fun w HS => r_mv) HS ?_; refine tK 14 rfl (fun w HS => r_ext rfl rfl) HS ?_; refine tK 15 rfl (fun w HS => r_ext rfl rfl) HS ?_; refine tK 16 rfl (fun w HS => r_as) HS ?_; refine tK 17 rfl (fun w HS => r_as) HS ?_; refine t_done (by kernel_rfl) ?_
  clear HS
  refine rG ?_; refine mV ?_; refine eN ?_
  refine qN ?_; refine c_skip ?_; refine rG ?_; refine mV ?_; refine lV (r_nilc rfl) ?_; refine lV (r_fa rfl fo75_1) ?_; refine lV (r_fa rfl fo47_0) ?_; refine lV (r_l1 (v := VI 10) H (i := 0) rfl rfl ct3 ((wrkE_c1 _).comp (oprE_c0 _))) ?_; refine aZ ?_; refine eN ?_
  refine qB ?_; refine rG ?_; refine mV ?_; refine lV (r_bin (a := 10) (b := 10) rfl rfl (fun _ => b_eqlB true (decide_eq_true (by decide)))) ?_; refine aZ ?_; refine eN ?_
  refine qY ?_; refine c_skip ?_; refine qY ?_; refine c_skip ?_; refine rG ?_; refine l_op (o_callR Tryz.func18 rfl rfl rfl (only_ret _ (0)) ?_); rintro _ w ⟨rfl, Hc⟩
  replace H : Hp _ w _ ([_, _, _, _]) := H.call Hc
  clear Hc
  refine l_op (o_stW (C' := ansE (⟨0, ⟨none, 0, 0, []⟩⟩ : Ans)) H (i := 2) rfl rfl rfl cs43 (ansE_all _) (ansE_len _) (ansE_len _) (fun w H => ?_)); replace H : Hp _ w _ [_, _, _, _] := H
  refine eN ?_
  refine cR ?_
  refine e_retc Tryz.results20 H (i := 2) rfl rfl rt43 (ansE_len _).symm ?_
  refine ⟨_, rfl, ?_⟩
  exact ⟨rfl, H.sub (.cons_cons _ (.cons_cons _ (List.nil_sublist _)))⟩
theorem doT_ret (w0 : World) (wb nb : Nat) (r : Id32) (dl : Int) (h : Id32) (lg : Gl Ent) (of : Id32) (n : Int) (b s : Sl) (now : Int) (hO : Own w0 [.blk wb (wrkE (⟨some nb, (⟨10, [97], of, n, 0, 0, b, s, now, zId⟩ : Opr), none, 0⟩ : Wrk)) 75, .blk nb (staE (⟨r, dl, 0, ⟨none, 0, 0, []⟩, ⟨none, 0, 0, []⟩, lg, h⟩ : Sta)) 30]) :
    Ret Tryz.prog 21 [.pointer (some ⟨wb, 0, none⟩)] w0 fun v w' => ∃ a k, v = .agg (ansE (⟨201, ⟨none, 0, 0, []⟩⟩ : Ans)).toArray ∧ Hp w0 w' (keys [.blk wb (wrkE (⟨some nb, (⟨10, [97], of, n, 0, 0, b, s, now, zId⟩ : Opr), none, 0⟩ : Wrk)) 75, .blk nb (staE (⟨r, dl, 0, ⟨none, 0, 0, []⟩, ⟨none, 0, 0, []⟩, lg, h⟩ : Sta)) 30]) [.blk wb (wrkE (⟨some nb, (⟨10, [97], of, n, 0, 0, b, s, now, zId⟩ : Opr), none, 0⟩ : Wrk)) 75, .blk nb (staE (⟨r, dl, 0, ⟨hd a, 1, k, [(⟨[97], kT r, n, 1, ⟨none, 0, 0, []⟩, ⟨none, 0, 0, []⟩, ⟨none, 0, 0, []⟩⟩ : Tn)]⟩, ⟨none, 0, 0, []⟩, lg, h⟩ : Sta)) 30, .own a 1 k (([(⟨[97], kT r, n, 1, ⟨none, 0, 0, []⟩, ⟨none, 0, 0, []⟩, ⟨none, 0, 0, []⟩⟩ : Tn)] : List Tn).flatMap tnE) 53 38] := by
  refine ret_mk Tryz.func21 rfl Tryz.ntmps21 (by simp) ?_
  have H := hO.start
  refine rG ?_; refine l_op (o_alloc H zc43 (fun b1 w H hb1 => ?_)); replace H : Hp _ w _ ([.blk wb (wrkE (⟨(some nb), (⟨10, ([97] : List UInt8), of, n, 0, (0 : UInt8), b, s, now, zId⟩ : Opr), none, (0 : UInt64)⟩ : Wrk)) 75, .blk nb (staE (⟨r, dl, (0 : UInt64), ⟨none, 0, 0, []⟩, ⟨none, 0, 0, []⟩, lg, h⟩ : Sta)) 30, .blk b1 (ansE (⟨0, ⟨none, 0, 0, []⟩⟩ : Ans)) 43]) := H
  refine eN ?_
  refine rG ?_; refine mV ?_; refine lV (r_nilc rfl) ?_; refine lV (r_fa rfl fo75_1) ?_; refine lV (r_fa rfl fo47_0) ?_; refine lV (r_l1 (v := VI 10) H (i := 0) rfl rfl ct3 ((wrkE_c1 _).comp (oprE_c0 _))) ?_; refine eN ?_
  refine qB ?_; refine rG ?_; refine lV (r_bin (a := 10) (b := 1) rfl rfl (fun _ => b_eqlB false (decide_eq_false (by decide)))) ?_; refine aZ ?_; refine eN ?_
  refine qN ?_; refine rG ?_; refine lV (r_bin (a := 10) (b := 2) rfl rfl (fun _ => b_eqlB false (decide_eq_false (by decide)))) ?_; refine aZ ?_; refine eN ?_
  refine qN ?_; refine rG ?_; refine lV (r_bin (a := 10) (b := 3) rfl rfl (fun _ => b_eqlB false (decide_eq_false (by decide)))) ?_; refine aZ ?_; refine eN ?_
  refine qN ?_; refine rG ?_; refine lV (r_bin (a := 10) (b := 4) rfl rfl (fun _ => b_eqlB false (decide_eq_false (by decide)))) ?_; refine aZ ?_; refine eN ?_
  refine qN ?_; refine rG ?_; refine lV (r_bin (a := 10) (b := 5) rfl rfl (fun _ => b_eqlB false (decide_eq_false (by decide)))) ?_; refine aZ ?_; refine eN ?_
  refine qN ?_; refine rG ?_; refine lV (r_bin (a := 10) (b := 6) rfl rfl (fun _ => b_eqlB false (decide_eq_false (by decide)))) ?_; refine aZ ?_; refine eN ?_
  refine qN ?_; refine rG ?_; refine lV (r_bin (a := 10) (b := 7) rfl rfl (fun _ => b_eqlB false (decide_eq_false (by decide)))) ?_; refine aZ ?_; refine eN ?_
  refine qN ?_; refine rG ?_; refine lV (r_bin (a := 10) (b := 8) rfl rfl (fun _ => b_eqlB false (decide_eq_false (by decide)))) ?_; refine aZ ?_; refine eN ?_
  refine qN ?_; refine rG ?_; refine lV (r_bin (a := 10) (b := 9) rfl rfl (fun _ => b_eqlB false (decide_eq_false (by decide)))) ?_; refine aZ ?_; refine eN ?_
  refine qN ?_; refine rG ?_; refine lV (r_bin (a := 10) (b := 10) rfl rfl (fun _ => b_eqlB true (decide_eq_true (by decide)))) ?_; refine aZ ?_; refine eN ?_
  refine qY ?_; refine rG ?_; refine mV ?_; refine l_op (o_callR Tryz.func58 rfl rfl rfl (tenant_ret _ wb nb r (dl) h lg of (n) b s (now) (H.ownP (.refl _) rfl)) ?_); rintro _ w ⟨a2, c3, rfl, Hc⟩
  replace H := H.callP (.refl _) rfl Hc ((perm_front (j := 1) rfl).trans (.cons _ ((perm_front (j := 1) rfl).trans (.cons _ (.refl _)))))
  clear Hc
  replace H : Hp _ w _ ([_, .blk nb (staE (⟨r, dl, (0 : UInt64), ⟨hd a2, 1, c3, [(⟨[97], kT r, n, 1, ⟨none, 0, 0, []⟩, ⟨none, 0, 0, []⟩, ⟨none, 0, 0, []⟩⟩ : Tn)]⟩, ⟨none, 0, 0, []⟩, lg, h⟩ : Sta)) 30, _, .own a2 1 c3 (([(⟨[97], kT r, n, 1, ⟨none, 0, 0, []⟩, ⟨none, 0, 0, []⟩, ⟨none, 0, 0, []⟩⟩ : Tn)]).flatMap tnE) 53 38]) := H
  refine l_op (o_stW (C' := ansE (⟨201, ⟨none, 0, 0, []⟩⟩ : Ans)) H (i := 2) rfl rfl rfl cs43 (ansE_all _) (ansE_len _) (ansE_len _) (fun w H => ?_)); replace H : Hp _ w _ ([_, _, .blk b1 (ansE (⟨201, ⟨none, 0, 0, []⟩⟩ : Ans)) 43, _]) := H
  refine eN ?_
  refine cR ?_
  refine e_retc Tryz.results21 H (i := 2) rfl rfl rt43 (ansE_len _).symm ?_
  refine ⟨_, rfl, ?_⟩
  exact ⟨_, _, rfl, H.sub (.cons_cons _ (.cons_cons _ (.cons _ (.cons_cons _ (List.nil_sublist _)))))⟩
end Go.Proofs.YtmiabahejnjhiaaGreatDoor
namespace Go.Proofs.YtmiabahejnjhiaaGreatDoor
open Go
set_option maxRecDepth 100000
theorem apart2 {s : Sl} {w0 : World} {a b T U : Nat} {C D : List Value} (hs : s.ok w0) (ha : w0.heap.size ≤ a) (hb : w0.heap.size ≤ b) : s.l ≠ [] → Apart s.a (keys [.blk a C T, .blk b D U]) := hs.apartK (by
  intro q hq
  have : q = a ∨ q = b := by simpa [keys, Ch.key] using hq
  omega)
theorem ownNone {w0 w : World} {S : List Nat} {L : List Ch} {i len cap T sz : Nat} {a : Option Nat} {vs : List Value} (H : Hp w0 w S L) (hi : L[i]? = some (.own a len cap vs T sz)) (hl : 0 < len) : (hd a).isNone = false := by
  have h := H.has _ (List.mem_of_getElem? hi)
  cases a with
  | none => obtain ⟨h1, _⟩ := h; omega
  | some b => rfl
theorem step1_ret (w0 : World) (r : Id32) (d : Int) (h : Id32) (s : Sl) (hs : s.ok w0) (hsl : s.l = tokB (tagR r) ∧ s.len ≤ 4096) :
    Ret Tryz.prog 9 [.agg (staE (⟨r, d, (0 : UInt64), ⟨none, 0, 0, []⟩, ⟨none, 0, 0, []⟩, ⟨none, 0, 0, []⟩, h⟩ : Sta)).toArray, .agg (oprE (⟨17, ([] : List UInt8), zId, 0, 0, (0 : UInt8), ⟨none, 0, 0, []⟩, s, 0, zId⟩ : Opr)).toArray] w0 fun v w' => ∃ a c b k, v = .tuple #[.agg (staE (⟨r, d, 0, ⟨none, 0, 0, []⟩, ⟨none, 0, 0, []⟩, ⟨hd b, 1, k, [(⟨0, 0, 0, [], 17, 200, zId.1⟩ : Ent)]⟩, (⟨linkF h.1 (⟨0, 0, 0, [], 17, 200, zId.1⟩ : Ent), linkF_len _ _⟩ : Id32)⟩ : Sta)).toArray, .agg (ansE (⟨200, ⟨hd a, 32, c, h.1⟩⟩ : Ans)).toArray] ∧ Hp w0 w' [] [.own a 32 c (h.1.map V8) 5 1, .own b 1 k (([(⟨0, 0, 0, [], 17, 200, zId.1⟩ : Ent)] : List Ent).flatMap entE) 60 38] := by
  refine ret_mk Tryz.func9 rfl Tryz.ntmps9 (by simp) ?_
  have H := Hp.refl w0 []
  refine rG ?_; refine l_op (o_box (v := .agg (staE (⟨r, d, (0 : UInt64), ⟨none, 0, 0, []⟩, ⟨none, 0, 0, []⟩, ⟨none, 0, 0, []⟩, h⟩ : Sta)).toArray) H rfl (fun b1 w H hb1 => ?_)); replace H : Hp _ w _ ([.blk b1 (staE (⟨r, d, (0 : UInt64), ⟨none, 0, 0, []⟩, ⟨none, 0, 0, []⟩, ⟨none, 0, 0, []⟩, h⟩ : Sta)) 30]) := H
  refine l_op (o_box (v := .agg (oprE (⟨17, ([] : List UInt8), zId, 0, 0, (0 : UInt8), ⟨none, 0, 0, []⟩, s, 0, zId⟩ : Opr)).toArray) H rfl (fun b2 w H hb2 => ?_)); replace H : Hp _ w _ ([_, .blk b2 (oprE (⟨17, ([] : List UInt8), zId, 0, 0, (0 : UInt8), ⟨none, 0, 0, []⟩, s, 0, zId⟩ : Opr)) 47]) := H
  refine l_op (o_alloc H zc30 (fun b3 w H hb3 => ?_)); replace H : Hp _ w _ ([_, _, .blk b3 (staE (⟨zId, 0, (0 : UInt64), ⟨none, 0, 0, []⟩, ⟨none, 0, 0, []⟩, ⟨none, 0, 0, []⟩, zId⟩ : Sta)) 30]) := H
  refine l_op (o_alloc H zc43 (fun b4 w H hb4 => ?_)); replace H : Hp _ w _ ([_, _, _, .blk b4 (ansE (⟨0, ⟨none, 0, 0, []⟩⟩ : Ans)) 43]) := H
  refine eN ?_
  refine rG ?_; refine lV (r_ldA (C := staE (⟨r, d, (0 : UInt64), ⟨none, 0, 0, []⟩, ⟨none, 0, 0, []⟩, ⟨none, 0, 0, []⟩, h⟩ : Sta)) H (i := 0) rfl rfl rt30 (staE_len _)) ?_; refine l_op (o_callR Tryz.func17 rfl rfl rfl (twin0_ret _ r (d) h) ?_); rintro _ w ⟨rfl, Hc⟩
  replace H : Hp _ w _ ([_, _, _, _]) := H.call Hc
  clear Hc
  refine l_op (o_alloc H zc30 (fun b5 w H hb5 => ?_)); replace H : Hp _ w _ ([_, _, _, _, .blk b5 (staE (⟨zId, 0, (0 : UInt64), ⟨none, 0, 0, []⟩, ⟨none, 0, 0, []⟩, ⟨none, 0, 0, []⟩, zId⟩ : Sta)) 30]) := H
  refine l_op (o_stW (C' := staE (⟨r, d, (0 : UInt64), ⟨none, 0, 0, []⟩, ⟨none, 0, 0, []⟩, ⟨none, 0, 0, []⟩, h⟩ : Sta)) H (i := 4) rfl rfl rfl cs30 (staE_all _) (staE_len _) (staE_len _) (fun w H => ?_)); replace H : Hp _ w _ ([_, _, _, _, .blk b5 (staE (⟨r, d, (0 : UInt64), ⟨none, 0, 0, []⟩, ⟨none, 0, 0, []⟩, ⟨none, 0, 0, []⟩, h⟩ : Sta)) 30]) := H
  refine eN ?_
  refine qB ?_; refine rG ?_; refine lV (r_fa rfl fo30_5) ?_; refine lV (r_l1 (v := .slice none 0 0) H (i := 0) rfl rfl ct28 (staE_c5 _)) ?_; refine lV (r_lens el28 rfl) ?_; refine lV (r_bin (a := 0) (b := 4096) rfl rfl (fun _ => b_geqB false (decide_eq_false (by decide)))) ?_; refine aZ ?_; refine eN ?_
  refine qN ?_; refine rG ?_; refine lV (r_ldA (C := oprE (⟨17, ([] : List UInt8), zId, 0, 0, (0 : UInt8), ⟨none, 0, 0, []⟩, s, 0, zId⟩ : Opr)) H (i := 1) rfl rfl rt47 (oprE_len _)) ?_; refine l_op (o_callR Tryz.func19 rfl rfl rfl (may28_ret _ s) ?_); rintro _ w ⟨rfl, Hc⟩
  replace H : Hp _ w _ ([_, _, _, _, _]) := H.call Hc
  clear Hc
  refine lV (r_not rfl) ?_; refine aZ ?_; refine eN ?_
  refine qN ?_; refine c_skip ?_; refine rG ?_; refine lV (r_ldA (C := oprE (⟨17, ([] : List UInt8), zId, 0, 0, (0 : UInt8), ⟨none, 0, 0, []⟩, s, 0, zId⟩ : Opr)) H (i := 1) rfl rfl rt47 (oprE_len _)) ?_; refine lV (r_bldG (Z := wrkE (⟨none, (⟨0, ([] : List UInt8), zId, 0, 0, (0 : UInt8), ⟨none, 0, 0, []⟩, ⟨none, 0, 0, []⟩, 0, zId⟩ : Opr), none, (0 : UInt64)⟩ : Wrk)) (E := wrkE (⟨(some b5), (⟨17, ([] : List UInt8), zId, 0, 0, (0 : UInt8), ⟨none, 0, 0, []⟩, s, 0, zId⟩ : Opr), none, (0 : UInt64)⟩ : Wrk)) (pv := [(0, .pointer (some ⟨b5, 0, none⟩)), (1, .agg (oprE (⟨17, ([] : List UInt8), zId, 0, 0, (0 : UInt8), ⟨none, 0, 0, []⟩, s, 0, zId⟩ : Opr)).toArray)]) bd75 rfl rfl (.consP rfl (wrkE_p0 _ (some b5)) rfl (.consP rfl (wrkE_p1 _ (⟨17, ([] : List UInt8), zId, 0, 0, (0 : UInt8), ⟨none, 0, 0, []⟩, s, 0, zId⟩ : Opr)) rfl (.nil _)))) ?_; refine l_op (o_box (v := .agg (wrkE (⟨(some b5), (⟨17, ([] : List UInt8), zId, 0, 0, (0 : UInt8), ⟨none, 0, 0, []⟩, s, 0, zId⟩ : Opr), none, (0 : UInt64)⟩ : Wrk)).toArray) H rfl (fun b6 w H hb6 => ?_)); replace H : Hp _ w _ ([_, _, _, _, _, .blk b6 (wrkE (⟨(some b5), (⟨17, ([] : List UInt8), zId, 0, 0, (0 : UInt8), ⟨none, 0, 0, []⟩, s, 0, zId⟩ : Opr), none, (0 : UInt64)⟩ : Wrk)) 75]) := H
  refine aZ ?_; refine eN ?_
  refine rG ?_; refine mV ?_; refine l_op (o_callR Tryz.func20 rfl rfl rfl (pass1_ret _ b6 b5 r (d) h s (hs.up H (fun _ => apart_nil _)) (apart2 hs hb6 hb5) hsl (H.ownP ((perm_front (j := 5) rfl).trans (.cons _ ((perm_front (j := 4) rfl).trans (.cons _ (.refl _))))) rfl)) ?_); rintro _ w ⟨rfl, Hc⟩
  replace H := H.callP ((perm_front (j := 5) rfl).trans (.cons _ ((perm_front (j := 4) rfl).trans (.cons _ (.refl _))))) rfl Hc ((perm_front (j := 0) rfl).trans (.cons _ ((perm_front (j := 0) rfl).trans (.cons _ ((perm_front (j := 0) rfl).trans (.cons _ ((perm_front (j := 0) rfl).trans (.cons _ ((perm_front (j := 1) rfl).trans (.cons _ (.refl _)))))))))))
  clear Hc
  replace H : Hp _ w _ [_, _, _, _, _, _] := H
  refine l_op (o_alloc H zc43 (fun b7 w H hb7 => ?_)); replace H : Hp _ w _ ([_, _, _, _, _, _, .blk b7 (ansE (⟨0, ⟨none, 0, 0, []⟩⟩ : Ans)) 43]) := H
  refine l_op (o_stW (C' := ansE (⟨0, ⟨none, 0, 0, []⟩⟩ : Ans)) H (i := 6) rfl rfl rfl cs43 (ansE_all _) (ansE_len _) (ansE_len _) (fun w H => ?_)); replace H : Hp _ w _ [_, _, _, _, _, _, _] := H
  refine eN ?_
  refine rG ?_; refine lV (r_fa rfl fo43_0) ?_; refine lV (r_l1 (v := VI 0) H (i := 6) rfl rfl ct3 (ansE_c0 _)) ?_; refine lV (r_bin (a := 0) (b := 0) rfl rfl (fun _ => b_eqlB true (decide_eq_true (by decide)))) ?_; refine eN ?_
  refine qY ?_; refine rG ?_; refine mV ?_; refine l_op (o_callR Tryz.func21 rfl rfl rfl (do1_ret _ b6 b5 (⟨r, d, (0 : UInt64), ⟨none, 0, 0, []⟩, ⟨none, 0, 0, []⟩, ⟨none, 0, 0, []⟩, h⟩ : Sta) s (H.ownP ((perm_front (j := 5) rfl).trans (.cons _ ((perm_front (j := 4) rfl).trans (.cons _ (.refl _))))) rfl)) ?_); rintro _ w ⟨a8, c9, rfl, Hc⟩
  replace H := H.callP ((perm_front (j := 5) rfl).trans (.cons _ ((perm_front (j := 4) rfl).trans (.cons _ (.refl _))))) rfl Hc ((perm_front (j := 0) rfl).trans (.cons _ ((perm_front (j := 0) rfl).trans (.cons _ ((perm_front (j := 0) rfl).trans (.cons _ ((perm_front (j := 0) rfl).trans (.cons _ ((perm_front (j := 2) rfl).trans (.cons _ ((perm_front (j := 1) rfl).trans (.cons _ (.refl _)))))))))))))
  clear Hc
  replace H : Hp _ w _ ([_, _, _, _, _, _, _, .own a8 32 c9 ((h.1).map V8) 5 1]) := H
  refine l_op (o_stW (C' := ansE (⟨200, ⟨hd a8, 32, c9, h.1⟩⟩ : Ans)) H (i := 6) rfl rfl rfl cs43 (ansE_all _) (ansE_len _) (ansE_len _) (fun w H => ?_)); replace H : Hp _ w _ ([_, _, _, _, _, _, .blk b7 (ansE (⟨200, ⟨hd a8, 32, c9, h.1⟩⟩ : Ans)) 43, _]) := H
  refine eN ?_
  repeat refine c_seq ?_
  refine heldH H mixed fun H => ?_
  have HS := H
  refine tK 0 rfl (fun w HS => r_fa rfl fo30_5) HS ?_; refine tK 1 rfl (fun w HS => r_l1 (v := .slice none 0 0) HS (i := 0) rfl rfl ct28 (staE_c5 _)) HS ?_; refine tK 2 rfl (fun w HS => r_lens el28 rfl) HS ?_; refine tK 3 rfl (fun w HS => r_fa rfl fo47_8) HS ?_; refine tK 4 rfl (fun w HS => r_l1 (v := VI 0) HS (i := 1) rfl rfl ct2 (oprE_c8 _)) HS ?_; refine tK 5 rfl (fun w HS => r_mv) HS ?_; refine tK 6 rfl (fun w HS => r_nilc rfl) HS ?_; refine tK 7 rfl (fun w HS => r_fa rfl fo75_3) HS ?_; refine tK 8 rfl (fun w HS => r_l1 (v := V64 (0 : UInt64)) HS (i := 5) rfl rfl ct25 (wrkE_c3 _)) HS ?_; refine tK 9 rfl (fun w HS => r_fa rfl fo47_1) HS ?_; refine tK 10 rfl (fun w HS => r_l1 (v := .string ⟨(([] : List UInt8)).toArray⟩) HS (i := 1) rfl rfl ct9 (oprE_c1 _)) HS ?_; refine tK 11 rfl (fun w HS => r_fa rfl fo47_0) HS ?_; refine tK 12 rfl (fun w HS => r_l1 (v := VI 17) HS (i := 1) rfl rfl ct3 (oprE_c0 _)) HS ?_; refine tK 13 rfl (fun w HS => r_fa rfl fo43_0) HS ?_; refine tK 14 rfl (fun w HS => r_l1 (v := VI 200) HS (i := 6) rfl rfl ct3 (ansE_c0 _)) HS ?_; refine tK 15 rfl (fun w HS => r_fa rfl fo47_2) HS ?_; refine tK 16 rfl (fun w HS => r_lk HS (i := 1) rfl rfl rt24 (oprE_c2 _)) HS ?_; refine tK 17 rfl (fun w HS => r_bldT (pv := [(0, VI 0), (1, VI 0), (2, V64 (0 : UInt64)), (3, .string ⟨(([] : List UInt8)).toArray⟩), (4, VI 17), (5, VI 200), (6, .agg ((zId.1).map V8).toArray)]) (pre := [VI 0, VI 0, V64 (0 : UInt64), .string ⟨(([] : List UInt8)).toArray⟩, VI 17, VI 200]) (l := zId.1) bd60 rfl rfl rfl rfl rfl rfl rfl (show (zId.1).length = 32 from zId.2)) HS ?_; refine tU 18 rfl (o_alloc H zc60 (fun b10 w H hb10 => ?_)); replace H : Hp _ w _ ([_, _, _, _, _, _, _, _, .blk b10 ([VI 0, VI 0, V64 (0 : UInt64), .string ⟨(([] : List UInt8)).toArray⟩, VI 0, VI 0] ++ (List.replicate 32 (0 : UInt8)).map V8) 60]) := H
  replace HS := H.sub (.cons_cons _ (.cons_cons _ (.cons_cons _ (.cons_cons _ (.cons_cons _ (.cons_cons _ (.cons_cons _ (.cons_cons _ (List.nil_sublist _)))))))))
  refine ⟨HS, ?_⟩
  refine tU 19 rfl (o_stW (C' := [VI 0, VI 0, V64 (0 : UInt64), .string ⟨(([] : List UInt8)).toArray⟩, VI 17, VI 200] ++ (zId.1).map V8) H (i := 8) rfl rfl rfl cs60 (by simp [Value.oneCell']) (by rw [List.length_append, List.length_map, (show (List.replicate 32 (0 : UInt8)).length = 32 from (List.length_replicate ..))]; rfl) (by rw [List.length_append, List.length_map, (show (zId.1).length = 32 from zId.2)]; rfl) (fun w H => ?_)); replace H : Hp _ w _ ([_, _, _, _, _, _, _, _, .blk b10 ([VI 0, VI 0, V64 (0 : UInt64), .string ⟨(([] : List UInt8)).toArray⟩, VI 17, VI 200] ++ (zId.1).map V8) 60]) := H
  replace HS := H.sub (.cons_cons _ (.cons_cons _ (.cons_cons _ (.cons_cons _ (.cons_cons _ (.cons_cons _ (.cons_cons _ (.cons_cons _ (List.nil_sublist _)))))))))
  refine ⟨HS, ?_⟩
  refine t_done (by kernel_rfl) ?_
  clear HS
  refine rG ?_; refine lV (r_fa rfl fo30_6) ?_; refine lV (r_lk H (i := 0) rfl rfl rt24 (staE_c6 _)) ?_; refine lV (r_ldA (C := [VI 0, VI 0, V64 (0 : UInt64), .string ⟨(([] : List UInt8)).toArray⟩, VI 17, VI 200] ++ (zId.1).map V8) H (i := 8) rfl rfl rt60 (by rw [List.length_append, List.length_map, (show (zId.1).length = 32 from zId.2)]; rfl)) ?_; have hk11 : (mayE (⟨0, 0, (0 : UInt64), ([] : List UInt8), 17, 200, zId.1⟩ : Ent)) = true := ((mayE_iff _).2 (by refine ⟨?_, ?_, ?_, ?_, ?_, ?_, ?_⟩ <;> first | (dsimp only; omega) | exact Nat.zero_le _))
  refine l_op (o_callR Tryz.func22 rfl rfl rfl (aLink_ok _ (h.1) (show (h.1).length = 32 from h.2) (⟨0, 0, (0 : UInt64), ([] : List UInt8), 17, 200, zId.1⟩ : Ent) (show (zId.1).length = 32 from zId.2) ⟨by dsimp only; omega, by dsimp only; omega⟩ hk11) ?_); rintro _ w ⟨rfl, Hc⟩
  replace H : Hp _ w _ ([_, _, _, _, _, _, _, _, _]) := H.call Hc
  clear Hc
  refine mV ?_; refine lV (r_ext rfl rfl) ?_; refine lV (r_ext rfl rfl) ?_; refine lV (r_fa rfl fo30_6) ?_; refine l_op (o_skP (C' := staE (⟨r, d, (0 : UInt64), ⟨none, 0, 0, []⟩, ⟨none, 0, 0, []⟩, ⟨none, 0, 0, []⟩, (⟨linkF (h.1) (⟨0, 0, (0 : UInt64), ([] : List UInt8), 17, 200, zId.1⟩ : Ent), (show (linkF (h.1) (⟨0, 0, (0 : UInt64), ([] : List UInt8), 17, 200, zId.1⟩ : Ent)).length = 32 from (linkF_len _ _))⟩ : Id32)⟩ : Sta)) (V := (linkF (h.1) (⟨0, 0, (0 : UInt64), ([] : List UInt8), 17, 200, zId.1⟩ : Ent)).map V8) H (i := 4) rfl rfl rfl cs24 (by first | (simp [Value.oneCell', List.all_map]; done) | (simp only [List.all_map]; simp [Value.oneCell', Function.comp_def])) (staE_p6 _ (⟨linkF (h.1) (⟨0, 0, (0 : UInt64), ([] : List UInt8), 17, 200, zId.1⟩ : Ent), (show (linkF (h.1) (⟨0, 0, (0 : UInt64), ([] : List UInt8), 17, 200, zId.1⟩ : Ent)).length = 32 from (linkF_len _ _))⟩ : Id32)) (fun w H => ?_)); replace H : Hp _ w _ ([_, _, _, _, .blk b5 (staE (⟨r, d, (0 : UInt64), ⟨none, 0, 0, []⟩, ⟨none, 0, 0, []⟩, ⟨none, 0, 0, []⟩, (⟨linkF (h.1) (⟨0, 0, (0 : UInt64), ([] : List UInt8), 17, 200, zId.1⟩ : Ent), (show (linkF (h.1) (⟨0, 0, (0 : UInt64), ([] : List UInt8), 17, 200, zId.1⟩ : Ent)).length = 32 from (linkF_len _ _))⟩ : Id32)⟩ : Sta)) 30, _, _, _, _]) := H
  refine eN ?_
  refine rG ?_; refine lV (r_fa rfl fo30_5) ?_; refine lV (r_l1 (v := .slice none 0 0) H (i := 4) rfl rfl ct28 (staE_c5 _)) ?_; refine lV (r_ldA (C := [VI 0, VI 0, V64 (0 : UInt64), .string ⟨(([] : List UInt8)).toArray⟩, VI 17, VI 200] ++ (zId.1).map V8) H (i := 8) rfl rfl rt60 (by rw [List.length_append, List.length_map, (show (zId.1).length = 32 from zId.2)]; rfl)) ?_; refine l_op (o_bslG1 (enc := entE) ((⟨0, 0, (0 : UInt64), ([] : List UInt8), 17, 200, zId.1⟩ : Ent)) H sl28 zc60 (by rfl) (by decide) (by decide) rfl (ent_len (show (zId.1).length = 32 from zId.2)) (fun b12 w H hb12 => ?_)); replace H : Hp _ w _ ([_, _, _, _, _, _, _, _, _, .own (some b12) 1 1 (([(⟨0, 0, (0 : UInt64), ([] : List UInt8), 17, 200, zId.1⟩ : Ent)]).flatMap entE) 60 38]) := H
  replace H : Hp _ _ _ ([_, _, _, _, _, _, _, _, _, _, .own none 0 0 ((([] : List Ent)).flatMap entE) 60 38]) := H.nilEnd 60 38
  refine l_op (o_appG (enc := entE) (s := ⟨hd (some b12), 1, 1, [(⟨0, 0, (0 : UInt64), ([] : List UInt8), 17, 200, zId.1⟩ : Ent)]⟩) (l' := [(⟨0, 0, (0 : UInt64), ([] : List UInt8), 17, 200, zId.1⟩ : Ent)]) (len' := 1) rfl (Nat.zero_add _) H (i := 10) rfl sl28 Tryz.underlying28 rfl rfl (H.glOwn (i := 9) rfl (by decide) (fun c hc => by rw [List.mem_singleton.1 hc]; exact (ent_len (show (zId.1).length = 32 from zId.2)))) (by decide) (fun c _ => ent_all c) oM (by decide) (fun a13 c14 w H => ?_)); replace H : Hp _ w _ ([_, _, _, _, _, _, _, _, _, _, .own a13 1 c14 (([(⟨0, 0, (0 : UInt64), ([] : List UInt8), 17, 200, zId.1⟩ : Ent)]).flatMap entE) 60 38]) := H
  refine lV (r_fa rfl fo30_5) ?_; refine l_op (o_s1P (C' := staE (⟨r, d, (0 : UInt64), ⟨none, 0, 0, []⟩, ⟨none, 0, 0, []⟩, ⟨hd a13, 1, c14, [(⟨0, 0, (0 : UInt64), ([] : List UInt8), 17, 200, zId.1⟩ : Ent)]⟩, (⟨linkF (h.1) (⟨0, 0, (0 : UInt64), ([] : List UInt8), 17, 200, zId.1⟩ : Ent), (show (linkF (h.1) (⟨0, 0, (0 : UInt64), ([] : List UInt8), 17, 200, zId.1⟩ : Ent)).length = 32 from (linkF_len _ _))⟩ : Id32)⟩ : Sta)) (u := .slice (hd a13) 1 c14) H (i := 4) rfl rfl rfl cs28 rfl (staE_p5 _ (⟨hd a13, 1, c14, [(⟨0, 0, (0 : UInt64), ([] : List UInt8), 17, 200, zId.1⟩ : Ent)]⟩)) (fun w H => ?_)); replace H : Hp _ w _ ([_, _, _, _, .blk b5 (staE (⟨r, d, (0 : UInt64), ⟨none, 0, 0, []⟩, ⟨none, 0, 0, []⟩, ⟨hd a13, 1, c14, [(⟨0, 0, (0 : UInt64), ([] : List UInt8), 17, 200, zId.1⟩ : Ent)]⟩, (⟨linkF (h.1) (⟨0, 0, (0 : UInt64), ([] : List UInt8), 17, 200, zId.1⟩ : Ent), (show (linkF (h.1) (⟨0, 0, (0 : UInt64), ([] : List UInt8), 17, 200, zId.1⟩ : Ent)).length = 32 from (linkF_len _ _))⟩ : Id32)⟩ : Sta)) 30, _, _, _, _, _, _]) := H
  refine eN ?_
  repeat refine c_seq ?_
  refine heldS H (H.sub (.cons_cons _ (.cons_cons _ (.cons _ (.cons _ (.cons_cons _ (.cons_cons _ (.cons_cons _ (.cons_cons _ (.cons_cons _ (.cons_cons _ (.cons_cons _ (List.nil_sublist _))))))))))))) mixed fun H HS => ?_
  refine tK 0 rfl (fun w HS => r_ldA (C := staE (⟨r, d, (0 : UInt64), ⟨none, 0, 0, []⟩, ⟨none, 0, 0, []⟩, ⟨hd a13, 1, c14, [(⟨0, 0, (0 : UInt64), ([] : List UInt8), 17, 200, zId.1⟩ : Ent)]⟩, (⟨linkF (h.1) (⟨0, 0, (0 : UInt64), ([] : List UInt8), 17, 200, zId.1⟩ : Ent), (show (linkF (h.1) (⟨0, 0, (0 : UInt64), ([] : List UInt8), 17, 200, zId.1⟩ : Ent)).length = 32 from (linkF_len _ _))⟩ : Id32)⟩ : Sta)) HS (i := 2) rfl rfl rt30 (staE_len _)) HS ?_; refine tK 1 rfl (fun w HS => r_ldA (C := ansE (⟨200, ⟨hd a8, 32, c9, h.1⟩⟩ : Ans)) HS (i := 4) rfl rfl rt43 (ansE_len _)) HS ?_; refine tU 2 rfl (o_stW (C' := staE (⟨r, d, (0 : UInt64), ⟨none, 0, 0, []⟩, ⟨none, 0, 0, []⟩, ⟨hd a13, 1, c14, [(⟨0, 0, (0 : UInt64), ([] : List UInt8), 17, 200, zId.1⟩ : Ent)]⟩, (⟨linkF (h.1) (⟨0, 0, (0 : UInt64), ([] : List UInt8), 17, 200, zId.1⟩ : Ent), (show (linkF (h.1) (⟨0, 0, (0 : UInt64), ([] : List UInt8), 17, 200, zId.1⟩ : Ent)).length = 32 from (linkF_len _ _))⟩ : Id32)⟩ : Sta)) H (i := 2) rfl rfl rfl cs30 (staE_all _) (staE_len _) (staE_len _) (fun w H => ?_)); replace H : Hp _ w _ ([_, _, .blk b3 (staE (⟨r, d, (0 : UInt64), ⟨none, 0, 0, []⟩, ⟨none, 0, 0, []⟩, ⟨hd a13, 1, c14, [(⟨0, 0, (0 : UInt64), ([] : List UInt8), 17, 200, zId.1⟩ : Ent)]⟩, (⟨linkF (h.1) (⟨0, 0, (0 : UInt64), ([] : List UInt8), 17, 200, zId.1⟩ : Ent), (show (linkF (h.1) (⟨0, 0, (0 : UInt64), ([] : List UInt8), 17, 200, zId.1⟩ : Ent)).length = 32 from (linkF_len _ _))⟩ : Id32)⟩ : Sta)) 30, _, _, _, _, _, _, _, _]) := H
  replace HS := H.sub (.cons_cons _ (.cons_cons _ (.cons _ (.cons _ (.cons_cons _ (.cons_cons _ (.cons_cons _ (.cons_cons _ (.cons_cons _ (.cons_cons _ (.cons_cons _ (List.nil_sublist _))))))))))))
  refine ⟨HS, ?_⟩
  refine tU 3 rfl (o_stW (C' := ansE (⟨200, ⟨hd a8, 32, c9, h.1⟩⟩ : Ans)) H (i := 3) rfl rfl rfl cs43 (ansE_all _) (ansE_len _) (ansE_len _) (fun w H => ?_)); replace H : Hp _ w _ ([_, _, _, .blk b4 (ansE (⟨200, ⟨hd a8, 32, c9, h.1⟩⟩ : Ans)) 43, _, _, _, _, _, _, _]) := H
  replace HS := H.sub (.cons_cons _ (.cons_cons _ (.cons _ (.cons _ (.cons_cons _ (.cons_cons _ (.cons_cons _ (.cons_cons _ (.cons_cons _ (.cons_cons _ (.cons_cons _ (List.nil_sublist _))))))))))))
  refine ⟨HS, ?_⟩
  refine t_done (by kernel_rfl) ?_
  clear HS
  refine cR ?_
  refine e_retN (vs := [.agg (staE (⟨r, d, (0 : UInt64), ⟨none, 0, 0, []⟩, ⟨none, 0, 0, []⟩, ⟨hd a13, 1, c14, [(⟨0, 0, (0 : UInt64), ([] : List UInt8), 17, 200, zId.1⟩ : Ent)]⟩, (⟨linkF (h.1) (⟨0, 0, (0 : UInt64), ([] : List UInt8), 17, 200, zId.1⟩ : Ent), (show (linkF (h.1) (⟨0, 0, (0 : UInt64), ([] : List UInt8), 17, 200, zId.1⟩ : Ent)).length = 32 from (linkF_len _ _))⟩ : Id32)⟩ : Sta)).toArray, .agg (ansE (⟨200, ⟨hd a8, 32, c9, h.1⟩⟩ : Ans)).toArray]) _ Tryz.results9 rfl (H.resR (C := staE (⟨r, d, (0 : UInt64), ⟨none, 0, 0, []⟩, ⟨none, 0, 0, []⟩, ⟨hd a13, 1, c14, [(⟨0, 0, (0 : UInt64), ([] : List UInt8), 17, 200, zId.1⟩ : Ent)]⟩, (⟨linkF (h.1) (⟨0, 0, (0 : UInt64), ([] : List UInt8), 17, 200, zId.1⟩ : Ent), (show (linkF (h.1) (⟨0, 0, (0 : UInt64), ([] : List UInt8), 17, 200, zId.1⟩ : Ent)).length = 32 from (linkF_len _ _))⟩ : Id32)⟩ : Sta)) (i := 2) rfl rfl rt30 (staE_len _) (H.resR (C := ansE (⟨200, ⟨hd a8, 32, c9, h.1⟩⟩ : Ans)) (i := 3) rfl rfl rt43 (ansE_len _) (resZ))) ?_
  refine ⟨_, rfl, ?_⟩
  exact ⟨_, _, _, _, rfl, H.sub (.cons _ (.cons _ (.cons _ (.cons _ (.cons _ (.cons _ (.cons _ (.cons_cons _ (.cons _ (.cons _ (.cons_cons _ (List.nil_sublist _))))))))))))⟩
theorem step2_ret (w0 : World) (r : Id32) (d : Int) (h : Id32) (lg : Gl Ent) (hlg : lg.ok entE 38 w0) (hln : lg.a.isNone = false) (hlm : lg.len ≤ 4000) :
    Ret Tryz.prog 9 [.agg (staE (⟨r, d, (0 : UInt64), ⟨none, 0, 0, []⟩, ⟨none, 0, 0, []⟩, lg, h⟩ : Sta)).toArray, .agg (oprE (⟨17, ([] : List UInt8), zId, 0, 0, (0 : UInt8), ⟨none, 0, 0, []⟩, ⟨none, 0, 0, []⟩, 0, zId⟩ : Opr)).toArray] w0 fun v w' => ∃ b k, v = .tuple #[.agg (staE (⟨r, d, 0, ⟨none, 0, 0, []⟩, ⟨none, 0, 0, []⟩, ⟨hd b, lg.len + 1, k, lg.l ++ [(⟨(lg.len : Int), 0, 0, [], 17, 401, zId.1⟩ : Ent)]⟩, (⟨linkF h.1 (⟨(lg.len : Int), 0, 0, [], 17, 401, zId.1⟩ : Ent), linkF_len _ _⟩ : Id32)⟩ : Sta)).toArray, .agg (ansE (⟨401, ⟨none, 0, 0, []⟩⟩ : Ans)).toArray] ∧ Hp w0 w' [] [.own b (lg.len + 1) k ((lg.l ++ [(⟨(lg.len : Int), 0, 0, [], 17, 401, zId.1⟩ : Ent)]).flatMap entE) 60 38] := by
  refine ret_mk Tryz.func9 rfl Tryz.ntmps9 (by simp) ?_
  have H := Hp.refl w0 []
  refine rG ?_; refine l_op (o_box (v := .agg (staE (⟨r, d, (0 : UInt64), ⟨none, 0, 0, []⟩, ⟨none, 0, 0, []⟩, lg, h⟩ : Sta)).toArray) H rfl (fun b1 w H hb1 => ?_)); replace H : Hp _ w _ ([.blk b1 (staE (⟨r, d, (0 : UInt64), ⟨none, 0, 0, []⟩, ⟨none, 0, 0, []⟩, lg, h⟩ : Sta)) 30]) := H
  refine l_op (o_box (v := .agg (oprE (⟨17, ([] : List UInt8), zId, 0, 0, (0 : UInt8), ⟨none, 0, 0, []⟩, ⟨none, 0, 0, []⟩, 0, zId⟩ : Opr)).toArray) H rfl (fun b2 w H hb2 => ?_)); replace H : Hp _ w _ ([_, .blk b2 (oprE (⟨17, ([] : List UInt8), zId, 0, 0, (0 : UInt8), ⟨none, 0, 0, []⟩, ⟨none, 0, 0, []⟩, 0, zId⟩ : Opr)) 47]) := H
  refine l_op (o_alloc H zc30 (fun b3 w H hb3 => ?_)); replace H : Hp _ w _ ([_, _, .blk b3 (staE (⟨zId, 0, (0 : UInt64), ⟨none, 0, 0, []⟩, ⟨none, 0, 0, []⟩, ⟨none, 0, 0, []⟩, zId⟩ : Sta)) 30]) := H
  refine l_op (o_alloc H zc43 (fun b4 w H hb4 => ?_)); replace H : Hp _ w _ ([_, _, _, .blk b4 (ansE (⟨0, ⟨none, 0, 0, []⟩⟩ : Ans)) 43]) := H
  refine eN ?_
  refine rG ?_; refine lV (r_ldA (C := staE (⟨r, d, (0 : UInt64), ⟨none, 0, 0, []⟩, ⟨none, 0, 0, []⟩, lg, h⟩ : Sta)) H (i := 0) rfl rfl rt30 (staE_len _)) ?_; refine l_op (o_callR Tryz.func17 rfl rfl rfl (twin1_ret _ r (d) h lg (hlg.up H) hln oM) ?_); rintro _ w ⟨a5, c6, rfl, Hc⟩
  replace H : Hp _ w _ ([_, _, _, _, .own a5 lg.len c6 ((lg.l).flatMap entE) 60 38]) := H.call Hc
  clear Hc
  refine l_op (o_alloc H zc30 (fun b7 w H hb7 => ?_)); replace H : Hp _ w _ ([_, _, _, _, _, .blk b7 (staE (⟨zId, 0, (0 : UInt64), ⟨none, 0, 0, []⟩, ⟨none, 0, 0, []⟩, ⟨none, 0, 0, []⟩, zId⟩ : Sta)) 30]) := H
  refine l_op (o_stW (C' := staE (⟨r, d, (0 : UInt64), ⟨none, 0, 0, []⟩, ⟨none, 0, 0, []⟩, ⟨hd a5, lg.len, c6, lg.l⟩, h⟩ : Sta)) H (i := 5) rfl rfl rfl cs30 (staE_all _) (staE_len _) (staE_len _) (fun w H => ?_)); replace H : Hp _ w _ ([_, _, _, _, _, .blk b7 (staE (⟨r, d, (0 : UInt64), ⟨none, 0, 0, []⟩, ⟨none, 0, 0, []⟩, ⟨hd a5, lg.len, c6, lg.l⟩, h⟩ : Sta)) 30]) := H
  refine eN ?_
  refine qB ?_; refine rG ?_; refine lV (r_fa rfl fo30_5) ?_; refine lV (r_l1 (v := lg.v) H (i := 0) rfl rfl ct28 (staE_c5 _)) ?_; refine lV (r_lens el28 rfl) ?_; refine lV (r_bin (a := (lg.len : Int)) (b := 4096) rfl rfl (fun _ => b_geqB false (decide_eq_false oM))) ?_; refine aZ ?_; refine eN ?_
  refine qN ?_; refine rG ?_; refine lV (r_ldA (C := oprE (⟨17, ([] : List UInt8), zId, 0, 0, (0 : UInt8), ⟨none, 0, 0, []⟩, ⟨none, 0, 0, []⟩, 0, zId⟩ : Opr)) H (i := 1) rfl rfl rt47 (oprE_len _)) ?_; refine l_op (o_callR Tryz.func19 rfl rfl rfl (may28_ret _ (⟨none, 0, 0, []⟩)) ?_); rintro _ w ⟨rfl, Hc⟩
  replace H : Hp _ w _ ([_, _, _, _, _, _]) := H.call Hc
  clear Hc
  refine lV (r_not rfl) ?_; refine aZ ?_; refine eN ?_
  refine qN ?_; refine c_skip ?_; refine rG ?_; refine lV (r_ldA (C := oprE (⟨17, ([] : List UInt8), zId, 0, 0, (0 : UInt8), ⟨none, 0, 0, []⟩, ⟨none, 0, 0, []⟩, 0, zId⟩ : Opr)) H (i := 1) rfl rfl rt47 (oprE_len _)) ?_; refine lV (r_bldG (Z := wrkE (⟨none, (⟨0, ([] : List UInt8), zId, 0, 0, (0 : UInt8), ⟨none, 0, 0, []⟩, ⟨none, 0, 0, []⟩, 0, zId⟩ : Opr), none, (0 : UInt64)⟩ : Wrk)) (E := wrkE (⟨(some b7), (⟨17, ([] : List UInt8), zId, 0, 0, (0 : UInt8), ⟨none, 0, 0, []⟩, ⟨none, 0, 0, []⟩, 0, zId⟩ : Opr), none, (0 : UInt64)⟩ : Wrk)) (pv := [(0, .pointer (some ⟨b7, 0, none⟩)), (1, .agg (oprE (⟨17, ([] : List UInt8), zId, 0, 0, (0 : UInt8), ⟨none, 0, 0, []⟩, ⟨none, 0, 0, []⟩, 0, zId⟩ : Opr)).toArray)]) bd75 rfl rfl (.consP rfl (wrkE_p0 _ (some b7)) rfl (.consP rfl (wrkE_p1 _ (⟨17, ([] : List UInt8), zId, 0, 0, (0 : UInt8), ⟨none, 0, 0, []⟩, ⟨none, 0, 0, []⟩, 0, zId⟩ : Opr)) rfl (.nil _)))) ?_; refine l_op (o_box (v := .agg (wrkE (⟨(some b7), (⟨17, ([] : List UInt8), zId, 0, 0, (0 : UInt8), ⟨none, 0, 0, []⟩, ⟨none, 0, 0, []⟩, 0, zId⟩ : Opr), none, (0 : UInt64)⟩ : Wrk)).toArray) H rfl (fun b8 w H hb8 => ?_)); replace H : Hp _ w _ ([_, _, _, _, _, _, .blk b8 (wrkE (⟨(some b7), (⟨17, ([] : List UInt8), zId, 0, 0, (0 : UInt8), ⟨none, 0, 0, []⟩, ⟨none, 0, 0, []⟩, 0, zId⟩ : Opr), none, (0 : UInt64)⟩ : Wrk)) 75]) := H
  refine aZ ?_; refine eN ?_
  refine rG ?_; refine mV ?_; refine l_op (o_callR Tryz.func20 rfl rfl rfl (pass0_ret _ b8 b7 (⟨r, d, (0 : UInt64), ⟨none, 0, 0, []⟩, ⟨none, 0, 0, []⟩, ⟨hd a5, lg.len, c6, lg.l⟩, h⟩ : Sta) (H.ownP ((perm_front (j := 6) rfl).trans (.cons _ ((perm_front (j := 5) rfl).trans (.cons _ (.refl _))))) rfl)) ?_); rintro _ w ⟨rfl, Hc⟩
  replace H := H.callP ((perm_front (j := 6) rfl).trans (.cons _ ((perm_front (j := 5) rfl).trans (.cons _ (.refl _))))) rfl Hc ((perm_front (j := 0) rfl).trans (.cons _ ((perm_front (j := 0) rfl).trans (.cons _ ((perm_front (j := 0) rfl).trans (.cons _ ((perm_front (j := 0) rfl).trans (.cons _ ((perm_front (j := 0) rfl).trans (.cons _ ((perm_front (j := 1) rfl).trans (.cons _ (.refl _)))))))))))))
  clear Hc
  replace H : Hp _ w _ [_, _, _, _, _, _, _] := H
  refine l_op (o_alloc H zc43 (fun b9 w H hb9 => ?_)); replace H : Hp _ w _ ([_, _, _, _, _, _, _, .blk b9 (ansE (⟨0, ⟨none, 0, 0, []⟩⟩ : Ans)) 43]) := H
  refine l_op (o_stW (C' := ansE (⟨401, ⟨none, 0, 0, []⟩⟩ : Ans)) H (i := 7) rfl rfl rfl cs43 (ansE_all _) (ansE_len _) (ansE_len _) (fun w H => ?_)); replace H : Hp _ w _ ([_, _, _, _, _, _, _, .blk b9 (ansE (⟨401, ⟨none, 0, 0, []⟩⟩ : Ans)) 43]) := H
  refine eN ?_
  refine rG ?_; refine lV (r_fa rfl fo43_0) ?_; refine lV (r_l1 (v := VI 401) H (i := 7) rfl rfl ct3 (ansE_c0 _)) ?_; refine lV (r_bin (a := 401) (b := 0) rfl rfl (fun _ => b_eqlB false (decide_eq_false (by decide)))) ?_; refine eN ?_
  refine qN ?_; refine c_skip ?_; repeat refine c_seq ?_
  refine heldH H mixed fun H => ?_
  have HS := H
  refine tK 0 rfl (fun w HS => r_fa rfl fo30_5) HS ?_; refine tK 1 rfl (fun w HS => r_l1 (v := lg.v) HS (i := 0) rfl rfl ct28 (staE_c5 _)) HS ?_; refine tK 2 rfl (fun w HS => r_lens el28 rfl) HS ?_; refine tK 3 rfl (fun w HS => r_fa rfl fo47_8) HS ?_; refine tK 4 rfl (fun w HS => r_l1 (v := VI 0) HS (i := 1) rfl rfl ct2 (oprE_c8 _)) HS ?_; refine tK 5 rfl (fun w HS => r_mv) HS ?_; refine tK 6 rfl (fun w HS => r_nilc rfl) HS ?_; refine tK 7 rfl (fun w HS => r_fa rfl fo75_3) HS ?_; refine tK 8 rfl (fun w HS => r_l1 (v := V64 (0 : UInt64)) HS (i := 6) rfl rfl ct25 (wrkE_c3 _)) HS ?_; refine tK 9 rfl (fun w HS => r_fa rfl fo47_1) HS ?_; refine tK 10 rfl (fun w HS => r_l1 (v := .string ⟨(([] : List UInt8)).toArray⟩) HS (i := 1) rfl rfl ct9 (oprE_c1 _)) HS ?_; refine tK 11 rfl (fun w HS => r_fa rfl fo47_0) HS ?_; refine tK 12 rfl (fun w HS => r_l1 (v := VI 17) HS (i := 1) rfl rfl ct3 (oprE_c0 _)) HS ?_; refine tK 13 rfl (fun w HS => r_fa rfl fo43_0) HS ?_; refine tK 14 rfl (fun w HS => r_l1 (v := VI 401) HS (i := 7) rfl rfl ct3 (ansE_c0 _)) HS ?_; refine tK 15 rfl (fun w HS => r_fa rfl fo47_2) HS ?_; refine tK 16 rfl (fun w HS => r_lk HS (i := 1) rfl rfl rt24 (oprE_c2 _)) HS ?_; refine tK 17 rfl (fun w HS => r_bldT (pv := [(0, VI (lg.len : Int)), (1, VI 0), (2, V64 (0 : UInt64)), (3, .string ⟨(([] : List UInt8)).toArray⟩), (4, VI 17), (5, VI 401), (6, .agg ((zId.1).map V8).toArray)]) (pre := [VI (lg.len : Int), VI 0, V64 (0 : UInt64), .string ⟨(([] : List UInt8)).toArray⟩, VI 17, VI 401]) (l := zId.1) bd60 rfl rfl rfl rfl rfl rfl rfl (show (zId.1).length = 32 from zId.2)) HS ?_; refine tU 18 rfl (o_alloc H zc60 (fun b10 w H hb10 => ?_)); replace H : Hp _ w _ ([_, _, _, _, _, _, _, _, .blk b10 ([VI 0, VI 0, V64 (0 : UInt64), .string ⟨(([] : List UInt8)).toArray⟩, VI 0, VI 0] ++ (List.replicate 32 (0 : UInt8)).map V8) 60]) := H
  replace HS := H.sub (.cons_cons _ (.cons_cons _ (.cons_cons _ (.cons_cons _ (.cons_cons _ (.cons_cons _ (.cons_cons _ (.cons_cons _ (List.nil_sublist _)))))))))
  refine ⟨HS, ?_⟩
  refine tU 19 rfl (o_stW (C' := [VI (lg.len : Int), VI 0, V64 (0 : UInt64), .string ⟨(([] : List UInt8)).toArray⟩, VI 17, VI 401] ++ (zId.1).map V8) H (i := 8) rfl rfl rfl cs60 (by simp [Value.oneCell']) (by rw [List.length_append, List.length_map, (show (List.replicate 32 (0 : UInt8)).length = 32 from (List.length_replicate ..))]; rfl) (by rw [List.length_append, List.length_map, (show (zId.1).length = 32 from zId.2)]; rfl) (fun w H => ?_)); replace H : Hp _ w _ ([_, _, _, _, _, _, _, _, .blk b10 ([VI (lg.len : Int), VI 0, V64 (0 : UInt64), .string ⟨(([] : List UInt8)).toArray⟩, VI 17, VI 401] ++ (zId.1).map V8) 60]) := H
  replace HS := H.sub (.cons_cons _ (.cons_cons _ (.cons_cons _ (.cons_cons _ (.cons_cons _ (.cons_cons _ (.cons_cons _ (.cons_cons _ (List.nil_sublist _)))))))))
  refine ⟨HS, ?_⟩
  refine t_done (by kernel_rfl) ?_
  clear HS
  refine rG ?_; refine lV (r_fa rfl fo30_6) ?_; refine lV (r_lk H (i := 0) rfl rfl rt24 (staE_c6 _)) ?_; refine lV (r_ldA (C := [VI (lg.len : Int), VI 0, V64 (0 : UInt64), .string ⟨(([] : List UInt8)).toArray⟩, VI 17, VI 401] ++ (zId.1).map V8) H (i := 8) rfl rfl rt60 (by rw [List.length_append, List.length_map, (show (zId.1).length = 32 from zId.2)]; rfl)) ?_; have hk11 : (mayE (⟨(lg.len : Int), 0, (0 : UInt64), ([] : List UInt8), 17, 401, zId.1⟩ : Ent)) = true := ((mayE_iff _).2 (by refine ⟨?_, ?_, ?_, ?_, ?_, ?_, ?_⟩ <;> first | (dsimp only; omega) | exact Nat.zero_le _))
  refine l_op (o_callR Tryz.func22 rfl rfl rfl (aLink_ok _ (h.1) (show (h.1).length = 32 from h.2) (⟨(lg.len : Int), 0, (0 : UInt64), ([] : List UInt8), 17, 401, zId.1⟩ : Ent) (show (zId.1).length = 32 from zId.2) ⟨by dsimp only; omega, by dsimp only; omega⟩ hk11) ?_); rintro _ w ⟨rfl, Hc⟩
  replace H : Hp _ w _ ([_, _, _, _, _, _, _, _, _]) := H.call Hc
  clear Hc
  refine mV ?_; refine lV (r_ext rfl rfl) ?_; refine lV (r_ext rfl rfl) ?_; refine lV (r_fa rfl fo30_6) ?_; refine l_op (o_skP (C' := staE (⟨r, d, (0 : UInt64), ⟨none, 0, 0, []⟩, ⟨none, 0, 0, []⟩, ⟨hd a5, lg.len, c6, lg.l⟩, (⟨linkF (h.1) (⟨(lg.len : Int), 0, (0 : UInt64), ([] : List UInt8), 17, 401, zId.1⟩ : Ent), (show (linkF (h.1) (⟨(lg.len : Int), 0, (0 : UInt64), ([] : List UInt8), 17, 401, zId.1⟩ : Ent)).length = 32 from (linkF_len _ _))⟩ : Id32)⟩ : Sta)) (V := (linkF (h.1) (⟨(lg.len : Int), 0, (0 : UInt64), ([] : List UInt8), 17, 401, zId.1⟩ : Ent)).map V8) H (i := 5) rfl rfl rfl cs24 (by first | (simp [Value.oneCell', List.all_map]; done) | (simp only [List.all_map]; simp [Value.oneCell', Function.comp_def])) (staE_p6 _ (⟨linkF (h.1) (⟨(lg.len : Int), 0, (0 : UInt64), ([] : List UInt8), 17, 401, zId.1⟩ : Ent), (show (linkF (h.1) (⟨(lg.len : Int), 0, (0 : UInt64), ([] : List UInt8), 17, 401, zId.1⟩ : Ent)).length = 32 from (linkF_len _ _))⟩ : Id32)) (fun w H => ?_)); replace H : Hp _ w _ ([_, _, _, _, _, .blk b7 (staE (⟨r, d, (0 : UInt64), ⟨none, 0, 0, []⟩, ⟨none, 0, 0, []⟩, ⟨hd a5, lg.len, c6, lg.l⟩, (⟨linkF (h.1) (⟨(lg.len : Int), 0, (0 : UInt64), ([] : List UInt8), 17, 401, zId.1⟩ : Ent), (show (linkF (h.1) (⟨(lg.len : Int), 0, (0 : UInt64), ([] : List UInt8), 17, 401, zId.1⟩ : Ent)).length = 32 from (linkF_len _ _))⟩ : Id32)⟩ : Sta)) 30, _, _, _]) := H
  refine eN ?_
  refine rG ?_; refine lV (r_fa rfl fo30_5) ?_; refine lV (r_l1 (v := .slice (hd a5) lg.len c6) H (i := 5) rfl rfl ct28 (staE_c5 _)) ?_; refine lV (r_ldA (C := [VI (lg.len : Int), VI 0, V64 (0 : UInt64), .string ⟨(([] : List UInt8)).toArray⟩, VI 17, VI 401] ++ (zId.1).map V8) H (i := 8) rfl rfl rt60 (by rw [List.length_append, List.length_map, (show (zId.1).length = 32 from zId.2)]; rfl)) ?_; refine l_op (o_bslG1 (enc := entE) ((⟨(lg.len : Int), 0, (0 : UInt64), ([] : List UInt8), 17, 401, zId.1⟩ : Ent)) H sl28 zc60 (by rfl) (by decide) (by decide) rfl (ent_len (show (zId.1).length = 32 from zId.2)) (fun b12 w H hb12 => ?_)); replace H : Hp _ w _ ([_, _, _, _, _, _, _, _, _, .own (some b12) 1 1 (([(⟨(lg.len : Int), 0, (0 : UInt64), ([] : List UInt8), 17, 401, zId.1⟩ : Ent)]).flatMap entE) 60 38]) := H
  refine l_op (o_appG (enc := entE) (s := ⟨hd (some b12), 1, 1, [(⟨(lg.len : Int), 0, (0 : UInt64), ([] : List UInt8), 17, 401, zId.1⟩ : Ent)]⟩) (l' := lg.l ++ ([(⟨(lg.len : Int), 0, (0 : UInt64), ([] : List UInt8), 17, 401, zId.1⟩ : Ent)])) (len' := lg.len + 1) rfl rfl H (i := 4) rfl sl28 Tryz.underlying28 rfl rfl (H.glOwn (i := 9) rfl (by decide) (fun c hc => by rw [List.mem_singleton.1 hc]; exact (ent_len (show (zId.1).length = 32 from zId.2)))) (by decide) (fun c _ => ent_all c) oM (by decide) (fun a13 c14 w H => ?_)); replace H : Hp _ w _ ([_, _, _, _, .own a13 (lg.len + 1) c14 ((lg.l ++ ([(⟨(lg.len : Int), 0, (0 : UInt64), ([] : List UInt8), 17, 401, zId.1⟩ : Ent)])).flatMap entE) 60 38, _, _, _, _, _]) := H
  refine lV (r_fa rfl fo30_5) ?_; refine l_op (o_s1P (C' := staE (⟨r, d, (0 : UInt64), ⟨none, 0, 0, []⟩, ⟨none, 0, 0, []⟩, ⟨hd a13, lg.len + 1, c14, lg.l ++ ([(⟨(lg.len : Int), 0, (0 : UInt64), ([] : List UInt8), 17, 401, zId.1⟩ : Ent)])⟩, (⟨linkF (h.1) (⟨(lg.len : Int), 0, (0 : UInt64), ([] : List UInt8), 17, 401, zId.1⟩ : Ent), (show (linkF (h.1) (⟨(lg.len : Int), 0, (0 : UInt64), ([] : List UInt8), 17, 401, zId.1⟩ : Ent)).length = 32 from (linkF_len _ _))⟩ : Id32)⟩ : Sta)) (u := .slice (hd a13) (lg.len + 1) c14) H (i := 5) rfl rfl rfl cs28 rfl (staE_p5 _ (⟨hd a13, lg.len + 1, c14, lg.l ++ ([(⟨(lg.len : Int), 0, (0 : UInt64), ([] : List UInt8), 17, 401, zId.1⟩ : Ent)])⟩)) (fun w H => ?_)); replace H : Hp _ w _ ([_, _, _, _, _, .blk b7 (staE (⟨r, d, (0 : UInt64), ⟨none, 0, 0, []⟩, ⟨none, 0, 0, []⟩, ⟨hd a13, lg.len + 1, c14, lg.l ++ ([(⟨(lg.len : Int), 0, (0 : UInt64), ([] : List UInt8), 17, 401, zId.1⟩ : Ent)])⟩, (⟨linkF (h.1) (⟨(lg.len : Int), 0, (0 : UInt64), ([] : List UInt8), 17, 401, zId.1⟩ : Ent), (show (linkF (h.1) (⟨(lg.len : Int), 0, (0 : UInt64), ([] : List UInt8), 17, 401, zId.1⟩ : Ent)).length = 32 from (linkF_len _ _))⟩ : Id32)⟩ : Sta)) 30, _, _, _, _]) := H
  refine eN ?_
  repeat refine c_seq ?_
  refine heldS H (H.sub (.cons_cons _ (.cons_cons _ (.cons _ (.cons _ (.cons_cons _ (.cons_cons _ (.cons_cons _ (.cons_cons _ (.cons_cons _ (.cons_cons _ (List.nil_sublist _)))))))))))) mixed fun H HS => ?_
  refine tK 0 rfl (fun w HS => r_ldA (C := staE (⟨r, d, (0 : UInt64), ⟨none, 0, 0, []⟩, ⟨none, 0, 0, []⟩, ⟨hd a13, lg.len + 1, c14, lg.l ++ ([(⟨(lg.len : Int), 0, (0 : UInt64), ([] : List UInt8), 17, 401, zId.1⟩ : Ent)])⟩, (⟨linkF (h.1) (⟨(lg.len : Int), 0, (0 : UInt64), ([] : List UInt8), 17, 401, zId.1⟩ : Ent), (show (linkF (h.1) (⟨(lg.len : Int), 0, (0 : UInt64), ([] : List UInt8), 17, 401, zId.1⟩ : Ent)).length = 32 from (linkF_len _ _))⟩ : Id32)⟩ : Sta)) HS (i := 3) rfl rfl rt30 (staE_len _)) HS ?_; refine tK 1 rfl (fun w HS => r_ldA (C := ansE (⟨401, ⟨none, 0, 0, []⟩⟩ : Ans)) HS (i := 5) rfl rfl rt43 (ansE_len _)) HS ?_; refine tU 2 rfl (o_stW (C' := staE (⟨r, d, (0 : UInt64), ⟨none, 0, 0, []⟩, ⟨none, 0, 0, []⟩, ⟨hd a13, lg.len + 1, c14, lg.l ++ ([(⟨(lg.len : Int), 0, (0 : UInt64), ([] : List UInt8), 17, 401, zId.1⟩ : Ent)])⟩, (⟨linkF (h.1) (⟨(lg.len : Int), 0, (0 : UInt64), ([] : List UInt8), 17, 401, zId.1⟩ : Ent), (show (linkF (h.1) (⟨(lg.len : Int), 0, (0 : UInt64), ([] : List UInt8), 17, 401, zId.1⟩ : Ent)).length = 32 from (linkF_len _ _))⟩ : Id32)⟩ : Sta)) H (i := 2) rfl rfl rfl cs30 (staE_all _) (staE_len _) (staE_len _) (fun w H => ?_)); replace H : Hp _ w _ ([_, _, .blk b3 (staE (⟨r, d, (0 : UInt64), ⟨none, 0, 0, []⟩, ⟨none, 0, 0, []⟩, ⟨hd a13, lg.len + 1, c14, lg.l ++ ([(⟨(lg.len : Int), 0, (0 : UInt64), ([] : List UInt8), 17, 401, zId.1⟩ : Ent)])⟩, (⟨linkF (h.1) (⟨(lg.len : Int), 0, (0 : UInt64), ([] : List UInt8), 17, 401, zId.1⟩ : Ent), (show (linkF (h.1) (⟨(lg.len : Int), 0, (0 : UInt64), ([] : List UInt8), 17, 401, zId.1⟩ : Ent)).length = 32 from (linkF_len _ _))⟩ : Id32)⟩ : Sta)) 30, _, _, _, _, _, _, _]) := H
  replace HS := H.sub (.cons_cons _ (.cons_cons _ (.cons _ (.cons _ (.cons_cons _ (.cons_cons _ (.cons_cons _ (.cons_cons _ (.cons_cons _ (.cons_cons _ (List.nil_sublist _)))))))))))
  refine ⟨HS, ?_⟩
  refine tU 3 rfl (o_stW (C' := ansE (⟨401, ⟨none, 0, 0, []⟩⟩ : Ans)) H (i := 3) rfl rfl rfl cs43 (ansE_all _) (ansE_len _) (ansE_len _) (fun w H => ?_)); replace H : Hp _ w _ ([_, _, _, .blk b4 (ansE (⟨401, ⟨none, 0, 0, []⟩⟩ : Ans)) 43, _, _, _, _, _, _]) := H
  replace HS := H.sub (.cons_cons _ (.cons_cons _ (.cons _ (.cons _ (.cons_cons _ (.cons_cons _ (.cons_cons _ (.cons_cons _ (.cons_cons _ (.cons_cons _ (List.nil_sublist _)))))))))))
  refine ⟨HS, ?_⟩
  refine t_done (by kernel_rfl) ?_
  clear HS
  refine cR ?_
  refine e_retN (vs := [.agg (staE (⟨r, d, (0 : UInt64), ⟨none, 0, 0, []⟩, ⟨none, 0, 0, []⟩, ⟨hd a13, lg.len + 1, c14, lg.l ++ ([(⟨(lg.len : Int), 0, (0 : UInt64), ([] : List UInt8), 17, 401, zId.1⟩ : Ent)])⟩, (⟨linkF (h.1) (⟨(lg.len : Int), 0, (0 : UInt64), ([] : List UInt8), 17, 401, zId.1⟩ : Ent), (show (linkF (h.1) (⟨(lg.len : Int), 0, (0 : UInt64), ([] : List UInt8), 17, 401, zId.1⟩ : Ent)).length = 32 from (linkF_len _ _))⟩ : Id32)⟩ : Sta)).toArray, .agg (ansE (⟨401, ⟨none, 0, 0, []⟩⟩ : Ans)).toArray]) _ Tryz.results9 rfl (H.resR (C := staE (⟨r, d, (0 : UInt64), ⟨none, 0, 0, []⟩, ⟨none, 0, 0, []⟩, ⟨hd a13, lg.len + 1, c14, lg.l ++ ([(⟨(lg.len : Int), 0, (0 : UInt64), ([] : List UInt8), 17, 401, zId.1⟩ : Ent)])⟩, (⟨linkF (h.1) (⟨(lg.len : Int), 0, (0 : UInt64), ([] : List UInt8), 17, 401, zId.1⟩ : Ent), (show (linkF (h.1) (⟨(lg.len : Int), 0, (0 : UInt64), ([] : List UInt8), 17, 401, zId.1⟩ : Ent)).length = 32 from (linkF_len _ _))⟩ : Id32)⟩ : Sta)) (i := 2) rfl rfl rt30 (staE_len _) (H.resR (C := ansE (⟨401, ⟨none, 0, 0, []⟩⟩ : Ans)) (i := 3) rfl rfl rt43 (ansE_len _) (resZ))) ?_
  refine ⟨_, rfl, ?_⟩
  exact ⟨_, _, rfl, H.sub (.cons _ (.cons _ (.cons _ (.cons _ (.cons_cons _ (List.nil_sublist _))))))⟩
theorem mnew28_ret (w0 : World) (r : Id32) (d : Int) (hd : 0 ≤ d) :
    Ret Tryz.prog 5 [.agg ((r.1).map V8).toArray, VI d] w0 fun v w' => v = .agg (staE (⟨r, d, 0, ⟨none, 0, 0, []⟩, ⟨none, 0, 0, []⟩, ⟨none, 0, 0, []⟩, zId⟩ : Sta)).toArray ∧ Hp w0 w' [] [] := by
  refine ret_mk Tryz.func5 rfl Tryz.ntmps5 (by simp) ?_
  have H := Hp.refl w0 []
  refine rG ?_; refine l_op (o_box (v := .agg ((r.1).map V8).toArray) H rfl (fun b1 w H hb1 => ?_)); replace H : Hp _ w _ ([.blk b1 ((r.1).map V8) 24]) := H
  refine l_op (o_alloc H zc30 (fun b2 w H hb2 => ?_)); replace H : Hp _ w _ ([_, .blk b2 (staE (⟨zId, 0, (0 : UInt64), ⟨none, 0, 0, []⟩, ⟨none, 0, 0, []⟩, ⟨none, 0, 0, []⟩, zId⟩ : Sta)) 30]) := H
  refine eN ?_
  refine rG ?_; refine lV (r_ldAA (l := r.1) H (i := 0) rfl rfl rt24 (show (r.1).length = 32 from r.2)) ?_; refine mV ?_; refine lV (r_mx (c := d) rfl rfl (if_neg oM)) ?_; refine lV (r_bldG (Z := staE (⟨zId, 0, (0 : UInt64), ⟨none, 0, 0, []⟩, ⟨none, 0, 0, []⟩, ⟨none, 0, 0, []⟩, zId⟩ : Sta)) (E := staE (⟨r, d, (0 : UInt64), ⟨none, 0, 0, []⟩, ⟨none, 0, 0, []⟩, ⟨none, 0, 0, []⟩, zId⟩ : Sta)) (pv := [(0, .agg ((r.1).map V8).toArray), (1, VI d)]) bd30 rfl rfl (.consP rfl (staE_p0 _ r) rfl (.consP rfl (staE_p1 _ d) rfl (.nil _)))) ?_; refine l_op (o_stW (C' := staE (⟨r, d, (0 : UInt64), ⟨none, 0, 0, []⟩, ⟨none, 0, 0, []⟩, ⟨none, 0, 0, []⟩, zId⟩ : Sta)) H (i := 1) rfl rfl rfl cs30 (staE_all _) (staE_len _) (staE_len _) (fun w H => ?_)); replace H : Hp _ w _ ([_, .blk b2 (staE (⟨r, d, (0 : UInt64), ⟨none, 0, 0, []⟩, ⟨none, 0, 0, []⟩, ⟨none, 0, 0, []⟩, zId⟩ : Sta)) 30]) := H
  refine eN ?_
  refine cR ?_
  refine e_retc Tryz.results5 H (i := 1) rfl rfl rt30 (staE_len _).symm ?_
  refine ⟨_, rfl, ?_⟩
  exact ⟨rfl, H.sub (List.nil_sublist _)⟩
theorem first28_ret (w0 : World) (r : Id32) :
    Ret Tryz.prog 8 [.agg ((r.1).map V8).toArray] w0 fun v w' => v = .agg ([V64 (0 : UInt64), .string ⟨(([] : List UInt8)).toArray⟩, V8 (15 : UInt8), VI 0, VI 9223372036854775807, .slice none 0 0] ++ (tagR r).map V8).toArray ∧ Hp w0 w' [] [] := by
  refine ret_mk Tryz.func8 rfl Tryz.ntmps8 (by simp) ?_
  have H := Hp.refl w0 []
  refine rG ?_; refine l_op (o_box (v := .agg ((r.1).map V8).toArray) H rfl (fun b1 w H hb1 => ?_)); replace H : Hp _ w _ ([.blk b1 ((r.1).map V8) 24]) := H
  refine l_op (o_alloc H zc40 (fun b2 w H hb2 => ?_)); replace H : Hp _ w _ ([_, .blk b2 ([V64 (0 : UInt64), .string ⟨(([] : List UInt8)).toArray⟩, V8 (0 : UInt8), VI 0, VI 0, .slice none 0 0] ++ (List.replicate 32 (0 : UInt8)).map V8) 40]) := H
  refine eN ?_
  refine rG ?_; refine lV (r_ldAA (l := r.1) H (i := 0) rfl rfl rt24 (show (r.1).length = 32 from r.2)) ?_; refine lV (r_bld' (cells := ([V64 (0 : UInt64), .string ⟨(([] : List UInt8)).toArray⟩, V8 (15 : UInt8), VI 0, VI 9223372036854775807, .slice none 0 0] ++ (List.replicate 32 (0 : UInt8)).map V8).toArray) (pv := [(2, V8 (15 : UInt8)), (4, VI 9223372036854775807)]) bd40 rfl rfl) ?_; refine l_op (o_callR Tryz.func16 rfl rfl rfl (issue0_ret _ r) ?_); rintro _ w ⟨rfl, Hc⟩
  replace H : Hp _ w _ ([_, _]) := H.call Hc
  clear Hc
  refine mV ?_; refine lV (r_ext rfl rfl) ?_; refine lV (r_ext rfl rfl) ?_; refine l_op (o_alloc H zc40 (fun b3 w H hb3 => ?_)); replace H : Hp _ w _ ([_, _, .blk b3 ([V64 (0 : UInt64), .string ⟨(([] : List UInt8)).toArray⟩, V8 (0 : UInt8), VI 0, VI 0, .slice none 0 0] ++ (List.replicate 32 (0 : UInt8)).map V8) 40]) := H
  refine l_op (o_stW (C' := [V64 (0 : UInt64), .string ⟨(([] : List UInt8)).toArray⟩, V8 (15 : UInt8), VI 0, VI 9223372036854775807, .slice none 0 0] ++ (tagR r).map V8) H (i := 2) rfl rfl rfl cs40 (by simp [Value.oneCell']) (by rw [List.length_append, List.length_map, (show (List.replicate 32 (0 : UInt8)).length = 32 from (List.length_replicate ..))]; rfl) (by rw [List.length_append, List.length_map, (show (tagR r).length = 32 from tagR_len _)]; rfl) (fun w H => ?_)); replace H : Hp _ w _ ([_, _, .blk b3 ([V64 (0 : UInt64), .string ⟨(([] : List UInt8)).toArray⟩, V8 (15 : UInt8), VI 0, VI 9223372036854775807, .slice none 0 0] ++ (tagR r).map V8) 40]) := H
  refine aZ ?_; refine eN ?_
  refine rG ?_; refine lV (r_ldA (C := [V64 (0 : UInt64), .string ⟨(([] : List UInt8)).toArray⟩, V8 (15 : UInt8), VI 0, VI 9223372036854775807, .slice none 0 0] ++ (tagR r).map V8) H (i := 2) rfl rfl rt40 (by rw [List.length_append, List.length_map, (show (tagR r).length = 32 from tagR_len _)]; rfl)) ?_; refine l_op (o_stW (C' := [V64 (0 : UInt64), .string ⟨(([] : List UInt8)).toArray⟩, V8 (15 : UInt8), VI 0, VI 9223372036854775807, .slice none 0 0] ++ (tagR r).map V8) H (i := 1) rfl rfl rfl cs40 (by simp [Value.oneCell']) (by rw [List.length_append, List.length_map, (show (List.replicate 32 (0 : UInt8)).length = 32 from (List.length_replicate ..))]; rfl) (by rw [List.length_append, List.length_map, (show (tagR r).length = 32 from tagR_len _)]; rfl) (fun w H => ?_)); replace H : Hp _ w _ ([_, .blk b2 ([V64 (0 : UInt64), .string ⟨(([] : List UInt8)).toArray⟩, V8 (15 : UInt8), VI 0, VI 9223372036854775807, .slice none 0 0] ++ (tagR r).map V8) 40, _]) := H
  refine eN ?_
  refine cR ?_
  refine e_retc Tryz.results8 H (i := 1) rfl rfl rt40 (by rw [List.length_append, List.length_map, (show (tagR r).length = 32 from tagR_len _)]; rfl) ?_
  refine ⟨_, rfl, ?_⟩
  exact ⟨rfl, H.sub (List.nil_sublist _)⟩
def root3 : Id32 := ⟨3 :: List.replicate 31 0, rfl⟩
theorem begun28_ret (w0 : World) :
    Ret Tryz.prog 4 [] w0 fun v w' => v = .bool true ∧ Hp w0 w' [] [] := by
  refine ret_mk Tryz.func4 rfl Tryz.ntmps4 (by simp) ?_
  have H := Hp.refl w0 []
  refine rG ?_; refine aZ ?_; refine eN ?_
  refine rG ?_; refine lV (r_bld' (cells := ((((3 : UInt8) :: List.replicate 31 (0 : UInt8))).map V8).toArray) (pv := [(0, V8 (3 : UInt8))]) bd24 rfl rfl) ?_; refine l_op (o_callR Tryz.func5 rfl rfl rfl (mnew28_ret _ root3 5 (by decide)) ?_); rintro _ w ⟨rfl, Hc⟩
  replace H : Hp _ w _ ([]) := H.call Hc
  clear Hc
  refine l_op (o_alloc H zc30 (fun b1 w H hb1 => ?_)); replace H : Hp _ w _ ([.blk b1 (staE (⟨zId, 0, (0 : UInt64), ⟨none, 0, 0, []⟩, ⟨none, 0, 0, []⟩, ⟨none, 0, 0, []⟩, zId⟩ : Sta)) 30]) := H
  refine l_op (o_stW (C' := staE (⟨root3, 5, (0 : UInt64), ⟨none, 0, 0, []⟩, ⟨none, 0, 0, []⟩, ⟨none, 0, 0, []⟩, zId⟩ : Sta)) H (i := 0) rfl rfl rfl cs30 (staE_all _) (staE_len _) (staE_len _) (fun w H => ?_)); replace H : Hp _ w _ ([.blk b1 (staE (⟨root3, 5, (0 : UInt64), ⟨none, 0, 0, []⟩, ⟨none, 0, 0, []⟩, ⟨none, 0, 0, []⟩, zId⟩ : Sta)) 30]) := H
  refine eN ?_
  refine rG ?_; refine lV (r_bld' (cells := ((((3 : UInt8) :: List.replicate 31 (0 : UInt8))).map V8).toArray) (pv := [(0, V8 (3 : UInt8))]) bd24 rfl rfl) ?_; refine l_op (o_callR Tryz.func8 rfl rfl rfl (first28_ret _ root3) ?_); rintro _ w ⟨rfl, Hc⟩
  replace H : Hp _ w _ ([_]) := H.call Hc
  clear Hc
  refine l_op (o_callR Tryz.func7 rfl rfl rfl (bytes140_ret _ root3) ?_); rintro _ w ⟨a2, c3, rfl, Hc⟩
  replace H : Hp _ w _ ([_, .own a2 60 c3 ((tokB (tagR root3)).map V8) 5 1]) := H.call Hc
  clear Hc
  refine mV ?_; refine lV (r_ext rfl rfl) ?_; refine lV (r_ext rfl rfl) ?_; refine aZ ?_; refine aZ ?_; refine eN ?_
  refine rG ?_; refine lV (r_ldA (C := staE (⟨root3, 5, (0 : UInt64), ⟨none, 0, 0, []⟩, ⟨none, 0, 0, []⟩, ⟨none, 0, 0, []⟩, zId⟩ : Sta)) H (i := 0) rfl rfl rt30 (staE_len _)) ?_; refine mV ?_; refine lV (r_bldG (Z := oprE (⟨0, ([] : List UInt8), zId, 0, 0, (0 : UInt8), ⟨none, 0, 0, []⟩, ⟨none, 0, 0, []⟩, 0, zId⟩ : Opr)) (E := oprE (⟨17, ([] : List UInt8), zId, 0, 0, (0 : UInt8), ⟨none, 0, 0, []⟩, ⟨hd a2, 60, c3, tokB (tagR root3)⟩, 0, zId⟩ : Opr)) (pv := [(0, VI 17), (7, .slice (hd a2) 60 c3)]) bd47 rfl rfl (.consP rfl (oprE_p0 _ 17) rfl (.consP rfl (oprE_p7 _ (⟨hd a2, 60, c3, tokB (tagR root3)⟩)) rfl (.nil _)))) ?_; refine l_op (o_callR Tryz.func9 rfl rfl rfl (step1_ret _ root3 (5) zId ⟨hd a2, 60, c3, tokB (tagR root3)⟩ (H.slOwn (i := 1) rfl) ⟨rfl, by show 60 ≤ 4096; decide⟩) ?_); rintro _ w ⟨a6, c7, a4, c5, rfl, Hc⟩
  replace H : Hp _ w _ ([_, _, .own a6 32 c7 ((zId.1).map V8) 5 1, .own a4 1 c5 (([(⟨0, 0, 0, [], 17, 200, zId.1⟩ : Ent)]).flatMap entE) 60 38]) := H.call Hc
  clear Hc
  refine mV ?_; refine lV (r_ext rfl rfl) ?_; refine lV (r_ext rfl rfl) ?_; refine l_op (o_alloc H zc30 (fun b8 w H hb8 => ?_)); replace H : Hp _ w _ ([_, _, _, _, .blk b8 (staE (⟨zId, 0, (0 : UInt64), ⟨none, 0, 0, []⟩, ⟨none, 0, 0, []⟩, ⟨none, 0, 0, []⟩, zId⟩ : Sta)) 30]) := H
  refine l_op (o_alloc H zc43 (fun b9 w H hb9 => ?_)); replace H : Hp _ w _ ([_, _, _, _, _, .blk b9 (ansE (⟨0, ⟨none, 0, 0, []⟩⟩ : Ans)) 43]) := H
  refine l_op (o_stW (C' := staE (⟨root3, 5, (0 : UInt64), ⟨none, 0, 0, []⟩, ⟨none, 0, 0, []⟩, ⟨hd a4, 1, c5, [(⟨0, 0, 0, [], 17, 200, zId.1⟩ : Ent)]⟩, (⟨linkF zId.1 (⟨0, 0, 0, [], 17, 200, zId.1⟩ : Ent), (show (linkF zId.1 (⟨0, 0, 0, [], 17, 200, zId.1⟩ : Ent)).length = 32 from (linkF_len _ _))⟩ : Id32)⟩ : Sta)) H (i := 4) rfl rfl rfl cs30 (staE_all _) (staE_len _) (staE_len _) (fun w H => ?_)); replace H : Hp _ w _ ([_, _, _, _, .blk b8 (staE (⟨root3, 5, (0 : UInt64), ⟨none, 0, 0, []⟩, ⟨none, 0, 0, []⟩, ⟨hd a4, 1, c5, [(⟨0, 0, 0, [], 17, 200, zId.1⟩ : Ent)]⟩, (⟨linkF zId.1 (⟨0, 0, 0, [], 17, 200, zId.1⟩ : Ent), (show (linkF zId.1 (⟨0, 0, 0, [], 17, 200, zId.1⟩ : Ent)).length = 32 from (linkF_len _ _))⟩ : Id32)⟩ : Sta)) 30, _]) := H
  refine l_op (o_stW (C' := ansE (⟨200, ⟨hd a6, 32, c7, zId.1⟩⟩ : Ans)) H (i := 5) rfl rfl rfl cs43 (ansE_all _) (ansE_len _) (ansE_len _) (fun w H => ?_)); replace H : Hp _ w _ ([_, _, _, _, _, .blk b9 (ansE (⟨200, ⟨hd a6, 32, c7, zId.1⟩⟩ : Ans)) 43]) := H
  refine eN ?_
  refine rG ?_; refine lV (r_ldA (C := staE (⟨root3, 5, (0 : UInt64), ⟨none, 0, 0, []⟩, ⟨none, 0, 0, []⟩, ⟨hd a4, 1, c5, [(⟨0, 0, 0, [], 17, 200, zId.1⟩ : Ent)]⟩, (⟨linkF zId.1 (⟨0, 0, 0, [], 17, 200, zId.1⟩ : Ent), (show (linkF zId.1 (⟨0, 0, 0, [], 17, 200, zId.1⟩ : Ent)).length = 32 from (linkF_len _ _))⟩ : Id32)⟩ : Sta)) H (i := 4) rfl rfl rt30 (staE_len _)) ?_; refine lV (r_bldG (Z := oprE (⟨0, ([] : List UInt8), zId, 0, 0, (0 : UInt8), ⟨none, 0, 0, []⟩, ⟨none, 0, 0, []⟩, 0, zId⟩ : Opr)) (E := oprE (⟨17, ([] : List UInt8), zId, 0, 0, (0 : UInt8), ⟨none, 0, 0, []⟩, ⟨none, 0, 0, []⟩, 0, zId⟩ : Opr)) (pv := [(0, VI 17)]) bd47 rfl rfl (.consP rfl (oprE_p0 _ 17) rfl (.nil _))) ?_; refine l_op (o_callR Tryz.func9 rfl rfl rfl (step2_ret _ root3 (5) (⟨linkF zId.1 (⟨0, 0, 0, [], 17, 200, zId.1⟩ : Ent), (show (linkF zId.1 (⟨0, 0, 0, [], 17, 200, zId.1⟩ : Ent)).length = 32 from (linkF_len _ _))⟩ : Id32) ⟨hd a4, 1, c5, [(⟨0, 0, 0, [], 17, 200, zId.1⟩ : Ent)]⟩ (H.glOwn (i := 3) rfl (by decide) (fun c h => by simp at h; first | (subst h; exact ent_len zId.2) | (rcases h with h | h <;> (subst h; exact ent_len zId.2)))) (ownNone H (i := 3) rfl (by decide)) (by (try dsimp only); omega)) ?_); rintro _ w ⟨a10, c11, rfl, Hc⟩
  replace H : Hp _ w _ ([_, _, _, _, _, _, .own a10 2 c11 (([(⟨0, 0, 0, [], 17, 200, zId.1⟩ : Ent)] ++ [(⟨1, 0, 0, [], 17, 401, zId.1⟩ : Ent)]).flatMap entE) 60 38]) := H.call Hc
  clear Hc
  refine mV ?_; refine lV (r_ext rfl rfl) ?_; refine lV (r_ext rfl rfl) ?_; refine l_op (o_alloc H zc30 (fun b12 w H hb12 => ?_)); replace H : Hp _ w _ ([_, _, _, _, _, _, _, .blk b12 (staE (⟨zId, 0, (0 : UInt64), ⟨none, 0, 0, []⟩, ⟨none, 0, 0, []⟩, ⟨none, 0, 0, []⟩, zId⟩ : Sta)) 30]) := H
  refine l_op (o_alloc H zc43 (fun b13 w H hb13 => ?_)); replace H : Hp _ w _ ([_, _, _, _, _, _, _, _, .blk b13 (ansE (⟨0, ⟨none, 0, 0, []⟩⟩ : Ans)) 43]) := H
  refine l_op (o_stW (C' := staE (⟨root3, 5, (0 : UInt64), ⟨none, 0, 0, []⟩, ⟨none, 0, 0, []⟩, ⟨hd a10, 2, c11, [(⟨0, 0, 0, [], 17, 200, zId.1⟩ : Ent)] ++ [(⟨1, 0, 0, [], 17, 401, zId.1⟩ : Ent)]⟩, (⟨linkF (⟨linkF zId.1 (⟨0, 0, 0, [], 17, 200, zId.1⟩ : Ent), (show (linkF zId.1 (⟨0, 0, 0, [], 17, 200, zId.1⟩ : Ent)).length = 32 from (linkF_len _ _))⟩ : Id32).1 (⟨1, 0, 0, [], 17, 401, zId.1⟩ : Ent), (show (linkF (⟨linkF zId.1 (⟨0, 0, 0, [], 17, 200, zId.1⟩ : Ent), (show (linkF zId.1 (⟨0, 0, 0, [], 17, 200, zId.1⟩ : Ent)).length = 32 from (linkF_len _ _))⟩ : Id32).1 (⟨1, 0, 0, [], 17, 401, zId.1⟩ : Ent)).length = 32 from (linkF_len _ _))⟩ : Id32)⟩ : Sta)) H (i := 7) rfl rfl rfl cs30 (staE_all _) (staE_len _) (staE_len _) (fun w H => ?_)); replace H : Hp _ w _ ([_, _, _, _, _, _, _, .blk b12 (staE (⟨root3, 5, (0 : UInt64), ⟨none, 0, 0, []⟩, ⟨none, 0, 0, []⟩, ⟨hd a10, 2, c11, [(⟨0, 0, 0, [], 17, 200, zId.1⟩ : Ent)] ++ [(⟨1, 0, 0, [], 17, 401, zId.1⟩ : Ent)]⟩, (⟨linkF (⟨linkF zId.1 (⟨0, 0, 0, [], 17, 200, zId.1⟩ : Ent), (show (linkF zId.1 (⟨0, 0, 0, [], 17, 200, zId.1⟩ : Ent)).length = 32 from (linkF_len _ _))⟩ : Id32).1 (⟨1, 0, 0, [], 17, 401, zId.1⟩ : Ent), (show (linkF (⟨linkF zId.1 (⟨0, 0, 0, [], 17, 200, zId.1⟩ : Ent), (show (linkF zId.1 (⟨0, 0, 0, [], 17, 200, zId.1⟩ : Ent)).length = 32 from (linkF_len _ _))⟩ : Id32).1 (⟨1, 0, 0, [], 17, 401, zId.1⟩ : Ent)).length = 32 from (linkF_len _ _))⟩ : Id32)⟩ : Sta)) 30, _]) := H
  refine l_op (o_stW (C' := ansE (⟨401, ⟨none, 0, 0, []⟩⟩ : Ans)) H (i := 8) rfl rfl rfl cs43 (ansE_all _) (ansE_len _) (ansE_len _) (fun w H => ?_)); replace H : Hp _ w _ ([_, _, _, _, _, _, _, _, .blk b13 (ansE (⟨401, ⟨none, 0, 0, []⟩⟩ : Ans)) 43]) := H
  refine eN ?_
  refine rG ?_; refine lV (r_fa rfl fo43_0) ?_; refine lV (r_l1 (v := VI 200) H (i := 5) rfl rfl ct3 (ansE_c0 _)) ?_; refine lV (r_bin (a := 200) (b := 200) rfl rfl (fun _ => b_eqlB true (decide_eq_true (by decide)))) ?_; refine mV ?_; refine l_yes rfl rfl rfl (o_val (r_fa rfl fo43_1) ?_); refine l_yes rfl rfl rfl (o_val (r_l1 (v := .slice (hd a6) 32 c7) H (i := 5) rfl rfl ct33 (ansE_c1 _)) ?_); refine l_yes rfl rfl rfl (o_val (r_lens el33 rfl) ?_); refine l_yes rfl rfl rfl (o_val (r_bin (a := 32) (b := 32) rfl rfl (fun _ => b_eqlB true (decide_eq_true (by decide)))) ?_); refine lV (r_pick rfl) ?_; refine mV ?_; refine l_yes rfl rfl rfl (o_val (r_fa rfl fo30_5) ?_); refine l_yes rfl rfl rfl (o_val (r_l1 (v := .slice (hd a4) 1 c5) H (i := 4) rfl rfl ct28 (staE_c5 _)) ?_); refine l_yes rfl rfl rfl (o_val (r_lens el28 rfl) ?_); refine l_yes rfl rfl rfl (o_val (r_bin (a := 1) (b := 1) rfl rfl (fun _ => b_eqlB true (decide_eq_true (by decide)))) ?_); refine lV (r_pick rfl) ?_; refine mV ?_; refine l_yes rfl rfl rfl (o_val (r_fa rfl fo43_0) ?_); refine l_yes rfl rfl rfl (o_val (r_l1 (v := VI 401) H (i := 8) rfl rfl ct3 (ansE_c0 _)) ?_); refine l_yes rfl rfl rfl (o_val (r_bin (a := 401) (b := 401) rfl rfl (fun _ => b_eqlB true (decide_eq_true (by decide)))) ?_); refine lV (r_pick rfl) ?_; refine mV ?_; refine l_yes rfl rfl rfl (o_val (r_fa rfl fo30_5) ?_); refine l_yes rfl rfl rfl (o_val (r_l1 (v := .slice (hd a10) 2 c11) H (i := 7) rfl rfl ct28 (staE_c5 _)) ?_); refine l_yes rfl rfl rfl (o_val (r_lens el28 rfl) ?_); refine l_yes rfl rfl rfl (o_val (r_bin (a := 2) (b := 2) rfl rfl (fun _ => b_eqlB true (decide_eq_true (by decide)))) ?_); refine lV (r_pick rfl) ?_; refine mV ?_; refine l_yes rfl rfl rfl (o_val (r_fa rfl fo30_5) ?_); refine l_yes rfl rfl rfl (o_val (r_l1 (v := .slice (hd a10) 2 c11) H (i := 7) rfl rfl ct28 (staE_c5 _)) ?_); have ah15 := H.ownAddr (i := 6) rfl oM
  obtain ⟨ab14, ah15⟩ := ah15
  refine l_yes rfl rfl rfl (o_val (r_isN 1 rfl rfl el28 ah15 oM (by (try simp only [Sl.cut]); omega)) ?_); refine l_yes rfl rfl rfl (o_val (r_fa rfl fo60_0) ?_); have he17 : ∃ c, ([(⟨0, 0, 0, [], 17, 200, zId.1⟩ : Ent)] ++ [(⟨1, 0, 0, [], 17, 401, zId.1⟩ : Ent)])[1]? = some c := ⟨_, List.getElem?_eq_getElem (by have := ((H.glOwn (i := 6) rfl (by decide) (fun c h => by simp at h; first | (subst h; exact ent_len zId.2) | (rcases h with h | h <;> (subst h; exact ent_len zId.2))))).ln; (try dsimp only at this ⊢); omega)⟩
  obtain ⟨e16, he17⟩ := he17
  have hez18 := ((H.glOwn (i := 6) rfl (by decide) (fun c h => by simp at h; first | (subst h; exact ent_len zId.2) | (rcases h with h | h <;> (subst h; exact ent_len zId.2))))).sz e16 (List.mem_of_getElem? he17)
  have hen_e16 : e16.seq = 1 := by
    have hx : some _ = some e16 := he17
    rw [← Option.some.inj hx]
  refine l_yes rfl rfl rfl (o_val (r_ldFld (v := VI e16.seq) (s := (⟨hd a10, 2, c11, [(⟨0, 0, 0, [], 17, 200, zId.1⟩ : Ent)] ++ [(⟨1, 0, 0, [], 17, 401, zId.1⟩ : Ent)]⟩ : Gl Ent)) (k := 1) (off := 0) (H.glOwn (i := 6) rfl (by decide) (fun c h => by simp at h; first | (subst h; exact ent_len zId.2) | (rcases h with h | h <;> (subst h; exact ent_len zId.2)))) ah15 rfl ct2 he17 (by decide) rfl) ?_); refine l_yes rfl rfl rfl (o_val (r_bin (a := e16.seq) (b := 1) rfl rfl (fun _ => b_eqlB true (decide_eq_true oM))) ?_); refine lV (r_pick rfl) ?_; refine aZ ?_; refine eN ?_
  refine cR ?_
  refine e_ret1 (v := .bool true) Tryz.results4 rfl ?_
  refine ⟨_, rfl, ?_⟩
  exact ⟨rfl, H.sub (List.nil_sublist _)⟩
theorem mname_ret (w0 : World) (t : Tn) (s : Sl) (hs : s.ok w0) (hm : s.len ≤ 8192) :
    Ret Tryz.prog 84 [.agg (tnE t).toArray, s.v] w0 fun v w' => v = .agg ((hmac t.key.1 (framed [s.l])).map V8).toArray ∧ Hp w0 w' [] [] := by
  refine ret_mk Tryz.func84 rfl Tryz.ntmps84 (by simp) ?_
  have H := Hp.refl w0 []
  have hsn := hs.ln
  refine rG ?_; refine l_op (o_box (v := .agg (tnE t).toArray) H rfl (fun b1 w H hb1 => ?_)); replace H : Hp _ w _ ([.blk b1 (tnE t) 53]) := H
  refine l_op (o_alloc H zc24 (fun b2 w H hb2 => ?_)); replace H : Hp _ w _ ([_, .blk b2 ((List.replicate 32 (0 : UInt8)).map V8) 24]) := H
  refine eN ?_
  refine rG ?_; refine lV (r_fa rfl fo53_1) ?_; refine lV (r_slAo (o := 1) (h := 32) (m := 32) (lv := none) (hv := none) (mv := none) rfl ar24 rfl rfl rfl (fun w => sbn w)) ?_; refine mV ?_; refine l_op (o_bslV ([s.v]) H sl80 zc33 rfl (by simp [Value.oneCell', Sl.v]) rfl (by decide) (fun b3 w H hb3 => ?_)); replace H : Hp _ w _ ([_, _, .own (some b3) 1 1 ([s.v]) 33 1]) := H
  refine l_op (o_callR Tryz.func30 rfl rfl rfl (macOf_ret _ (⟨some ⟨b1, 1, none⟩, 32, 32, t.key.1⟩ : Sl) (H.slMid (i := 0) rfl (tnE_c1 _) (by decide)) (hd (some b3)) 1 1 [s] (H.own (i := 2) rfl) rfl (all1 (hs.up H (fun _ => apart_nil _))) oM (by simp [framed, be_len]; omega)) ?_); rintro _ w ⟨rfl, Hc⟩
  replace H : Hp _ w _ ([_, _, _]) := H.call Hc
  clear Hc
  refine l_op (o_stA (l' := hmac (t.key.1) (framed [s.l])) H (i := 1) rfl rfl rfl cs24 (show (List.replicate 32 (0 : UInt8)).length = 32 from (List.length_replicate ..)) (show (hmac (t.key.1) (framed [s.l])).length = 32 from hmac_len _ _) (fun w H => ?_)); replace H : Hp _ w _ ([_, .blk b2 ((hmac (t.key.1) (framed [s.l])).map V8) 24, _]) := H
  refine eN ?_
  refine cR ?_
  refine e_retA (l := hmac (t.key.1) (framed [s.l])) Tryz.results84 H (i := 1) rfl rfl rt24 (show (hmac (t.key.1) (framed [s.l])).length = 32 from hmac_len _ _) ?_
  refine ⟨_, rfl, ?_⟩
  exact ⟨rfl, H.sub (List.nil_sublist _)⟩
theorem rname_ret (w0 : World) (t : Tn) (s : Sl) (hs : s.ok w0) (hm : s.len ≤ 8192) :
    Ret Tryz.prog 10 [.agg (tnE t).toArray, s.v] w0 fun v w' => v = .agg ((hmac t.key.1 (framed [s.l])).map V8).toArray ∧ Hp w0 w' [] [] := by
  refine ret_mk Tryz.func10 rfl Tryz.ntmps10 (by simp) ?_
  have H := Hp.refl w0 []
  have hsn := hs.ln
  refine rG ?_; refine l_op (o_box (v := .agg (tnE t).toArray) H rfl (fun b1 w H hb1 => ?_)); replace H : Hp _ w _ ([.blk b1 (tnE t) 53]) := H
  refine l_op (o_alloc H zc24 (fun b2 w H hb2 => ?_)); replace H : Hp _ w _ ([_, .blk b2 ((List.replicate 32 (0 : UInt8)).map V8) 24]) := H
  refine eN ?_
  refine rG ?_; refine lV (r_fa rfl fo53_1) ?_; refine lV (r_slAo (o := 1) (h := 32) (m := 32) (lv := none) (hv := none) (mv := none) rfl ar24 rfl rfl rfl (fun w => sbn w)) ?_; refine mV ?_; refine l_op (o_bslV ([s.v]) H sl80 zc33 rfl (by simp [Value.oneCell', Sl.v]) rfl (by decide) (fun b3 w H hb3 => ?_)); replace H : Hp _ w _ ([_, _, .own (some b3) 1 1 ([s.v]) 33 1]) := H
  refine l_op (o_callR Tryz.func23 rfl rfl rfl (of3_ret _ (⟨some ⟨b1, 1, none⟩, 32, 32, t.key.1⟩ : Sl) (H.slMid (i := 0) rfl (tnE_c1 _) (by decide)) (hd (some b3)) 1 1 [s] (H.own (i := 2) rfl) rfl (all1 (hs.up H (fun _ => apart_nil _))) (by (try dsimp only); omega) oM (by simp [framed, be_len]; omega)) ?_); rintro _ w ⟨rfl, Hc⟩
  replace H : Hp _ w _ ([_, _, _]) := H.call Hc
  clear Hc
  refine l_op (o_stA (l' := hmac (t.key.1) (framed [s.l])) H (i := 1) rfl rfl rfl cs24 (show (List.replicate 32 (0 : UInt8)).length = 32 from (List.length_replicate ..)) (show (hmac (t.key.1) (framed [s.l])).length = 32 from hmac_len _ _) (fun w H => ?_)); replace H : Hp _ w _ ([_, .blk b2 ((hmac (t.key.1) (framed [s.l])).map V8) 24, _]) := H
  refine eN ?_
  refine cR ?_
  refine e_retA (l := hmac (t.key.1) (framed [s.l])) Tryz.results10 H (i := 1) rfl rfl rt24 (show (hmac (t.key.1) (framed [s.l])).length = 32 from hmac_len _ _) ?_
  refine ⟨_, rfl, ?_⟩
  exact ⟨rfl, H.sub (List.nil_sublist _)⟩
end Go.Proofs.YtmiabahejnjhiaaGreatDoor
