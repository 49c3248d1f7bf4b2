/- Lemmas for the statement ModelDooms, part 6: rules of operations, walks through functions, plain laws. -/
import Derived.Test.YtmiabahejnjhiaaGreatDoorModelDoomsG5
import Derived.DeepKeys3
import Derived.OrdersIn
import Derived.RangeFuncCalls
import Derived.RangeFuncIn
import Derived.RangeFuncLeaves
import Derived.RangeFuncRecord
import Derived.RangeFuncSeq
import Derived.TacticsIn
namespace Go.Proofs.YtmiabahejnjhiaaGreatDoor
open Go
set_option maxRecDepth 100000
theorem stepT_ret (w0 : World) (r : Id32) (dl : Int) (h : Id32) (of : Id32) (n : Int) (b s : Sl) (now : Int) (hmay : 0 ≤ n ∧ b.len ≤ 4096 ∧ 0 ≤ now) (hnow : 0 ≤ now ∧ now < 9223372036854775807) (hs : s.ok w0) (hsl : s.l = tokB (tagR r) ∧ s.len ≤ 4096) :
    Ret Tryz.prog 9 [.agg (staE (⟨r, dl, (0 : UInt64), ⟨none, 0, 0, []⟩, ⟨none, 0, 0, []⟩, ⟨none, 0, 0, []⟩, h⟩ : Sta)).toArray, .agg (oprE (⟨10, ([97] : List UInt8), of, n, 0, (0 : UInt8), b, s, now, zId⟩ : Opr)).toArray] w0 fun v w' => ∃ a k b1 c, v = .tuple #[.agg (staE (⟨r, dl, 0, ⟨hd a, 1, k, [(⟨[97], kT r, n, 1, ⟨none, 0, 0, []⟩, ⟨none, 0, 0, []⟩, ⟨none, 0, 0, []⟩⟩ : Tn)]⟩, ⟨none, 0, 0, []⟩, ⟨hd b1, 1, c, [(⟨0, now, 0, [97], 10, 201, of.1⟩ : Ent)]⟩, (⟨linkF h.1 (⟨0, now, 0, [97], 10, 201, of.1⟩ : Ent), linkF_len _ _⟩ : Id32)⟩ : Sta)).toArray, .agg (ansE (⟨201, ⟨none, 0, 0, []⟩⟩ : Ans)).toArray] ∧ Hp w0 w' [] [.own a 1 k (([(⟨[97], kT r, n, 1, ⟨none, 0, 0, []⟩, ⟨none, 0, 0, []⟩, ⟨none, 0, 0, []⟩⟩ : Tn)] : List Tn).flatMap tnE) 53 38, .own b1 1 c (([(⟨0, now, 0, [97], 10, 201, of.1⟩ : Ent)] : List Ent).flatMap entE) 60 38] := by
  refine ret_mk Tryz.func9 rfl Tryz.ntmps9 (by simp) ?_
  have H := Hp.refl w0 []
  refine rG ?_; refine l_op (o_box (v := .agg (staE (⟨r, dl, (0 : UInt64), ⟨none, 0, 0, []⟩, ⟨none, 0, 0, []⟩, ⟨none, 0, 0, []⟩, h⟩ : Sta)).toArray) H rfl (fun b1 w H hb1 => ?_)); replace H : Hp _ w _ ([.blk b1 (staE (⟨r, dl, (0 : UInt64), ⟨none, 0, 0, []⟩, ⟨none, 0, 0, []⟩, ⟨none, 0, 0, []⟩, h⟩ : Sta)) 30]) := H
  refine l_op (o_box (v := .agg (oprE (⟨10, ([97] : List UInt8), of, n, 0, (0 : UInt8), b, s, now, zId⟩ : Opr)).toArray) H rfl (fun b2 w H hb2 => ?_)); replace H : Hp _ w _ ([_, .blk b2 (oprE (⟨10, ([97] : List UInt8), of, n, 0, (0 : UInt8), b, s, now, zId⟩ : Opr)) 47]) := H
  refine l_op (o_alloc H zc30 (fun b3 w H hb3 => ?_)); replace H : Hp _ w _ ([_, _, .blk b3 (staE (⟨zId, 0, (0 : UInt64), ⟨none, 0, 0, []⟩, ⟨none, 0, 0, []⟩, ⟨none, 0, 0, []⟩, zId⟩ : Sta)) 30]) := H
  refine l_op (o_alloc H zc43 (fun b4 w H hb4 => ?_)); replace H : Hp _ w _ ([_, _, _, .blk b4 (ansE (⟨0, ⟨none, 0, 0, []⟩⟩ : Ans)) 43]) := H
  refine eN ?_
  refine rG ?_; refine lV (r_ldA (C := staE (⟨r, dl, (0 : UInt64), ⟨none, 0, 0, []⟩, ⟨none, 0, 0, []⟩, ⟨none, 0, 0, []⟩, h⟩ : Sta)) H (i := 0) rfl rfl rt30 (staE_len _)) ?_; refine l_op (o_callR Tryz.func17 rfl rfl rfl (twin0_ret _ r (dl) h) ?_); rintro _ w ⟨rfl, Hc⟩
  replace H : Hp _ w _ ([_, _, _, _]) := H.call Hc
  clear Hc
  refine l_op (o_alloc H zc30 (fun b5 w H hb5 => ?_)); replace H : Hp _ w _ ([_, _, _, _, .blk b5 (staE (⟨zId, 0, (0 : UInt64), ⟨none, 0, 0, []⟩, ⟨none, 0, 0, []⟩, ⟨none, 0, 0, []⟩, zId⟩ : Sta)) 30]) := H
  refine l_op (o_stW (C' := staE (⟨r, dl, (0 : UInt64), ⟨none, 0, 0, []⟩, ⟨none, 0, 0, []⟩, ⟨none, 0, 0, []⟩, h⟩ : Sta)) H (i := 4) rfl rfl rfl cs30 (staE_all _) (staE_len _) (staE_len _) (fun w H => ?_)); replace H : Hp _ w _ ([_, _, _, _, .blk b5 (staE (⟨r, dl, (0 : UInt64), ⟨none, 0, 0, []⟩, ⟨none, 0, 0, []⟩, ⟨none, 0, 0, []⟩, h⟩ : Sta)) 30]) := H
  refine eN ?_
  refine qB ?_; refine rG ?_; refine lV (r_fa rfl fo30_5) ?_; refine lV (r_l1 (v := .slice none 0 0) H (i := 0) rfl rfl ct28 (staE_c5 _)) ?_; refine lV (r_lens el28 rfl) ?_; refine lV (r_bin (a := 0) (b := 4096) rfl rfl (fun _ => b_geqB false (decide_eq_false (by decide)))) ?_; refine aZ ?_; refine eN ?_
  refine qN ?_; refine rG ?_; refine lV (r_ldA (C := oprE (⟨10, ([97] : List UInt8), of, n, 0, (0 : UInt8), b, s, now, zId⟩ : Opr)) H (i := 1) rfl rfl rt47 (oprE_len _)) ?_; refine l_op (o_callR Tryz.func19 rfl rfl rfl (mayA_ret _ (10) (.inr (.inr (.inr (.inr (.inl rfl))))) of (n) b s (now) hmay) ?_); rintro _ w ⟨rfl, Hc⟩
  replace H : Hp _ w _ ([_, _, _, _, _]) := H.call Hc
  clear Hc
  refine lV (r_not rfl) ?_; refine aZ ?_; refine eN ?_
  refine qN ?_; refine c_skip ?_; refine rG ?_; refine lV (r_ldA (C := oprE (⟨10, ([97] : List UInt8), of, n, 0, (0 : UInt8), b, s, now, zId⟩ : Opr)) H (i := 1) rfl rfl rt47 (oprE_len _)) ?_; refine lV (r_bldG (Z := wrkE (⟨none, (⟨0, ([] : List UInt8), zId, 0, 0, (0 : UInt8), ⟨none, 0, 0, []⟩, ⟨none, 0, 0, []⟩, 0, zId⟩ : Opr), none, (0 : UInt64)⟩ : Wrk)) (E := wrkE (⟨(some b5), (⟨10, ([97] : List UInt8), of, n, 0, (0 : UInt8), b, s, now, zId⟩ : Opr), none, (0 : UInt64)⟩ : Wrk)) (pv := [(0, .pointer (some ⟨b5, 0, none⟩)), (1, .agg (oprE (⟨10, ([97] : List UInt8), of, n, 0, (0 : UInt8), b, s, now, zId⟩ : Opr)).toArray)]) bd75 rfl rfl (.consP rfl (wrkE_p0 _ (some b5)) rfl (.consP rfl (wrkE_p1 _ (⟨10, ([97] : List UInt8), of, n, 0, (0 : UInt8), b, s, now, zId⟩ : Opr)) rfl (.nil _)))) ?_; refine l_op (o_box (v := .agg (wrkE (⟨(some b5), (⟨10, ([97] : List UInt8), of, n, 0, (0 : UInt8), b, s, now, zId⟩ : Opr), none, (0 : UInt64)⟩ : Wrk)).toArray) H rfl (fun b6 w H hb6 => ?_)); replace H : Hp _ w _ ([_, _, _, _, _, .blk b6 (wrkE (⟨(some b5), (⟨10, ([97] : List UInt8), of, n, 0, (0 : UInt8), b, s, now, zId⟩ : Opr), none, (0 : UInt64)⟩ : Wrk)) 75]) := H
  refine aZ ?_; refine eN ?_
  refine rG ?_; refine mV ?_; refine l_op (o_callR Tryz.func20 rfl rfl rfl (pass3_ret _ b6 b5 r (dl) h (⟨none, 0, 0, []⟩) of (n) b s (now) hnow (hs.up H (fun _ => apart_nil _)) (apart2 hs hb6 hb5) hsl (H.ownP ((perm_front (j := 5) rfl).trans (.cons _ ((perm_front (j := 4) rfl).trans (.cons _ (.refl _))))) rfl)) ?_); rintro _ w ⟨rfl, Hc⟩
  replace H := H.callP ((perm_front (j := 5) rfl).trans (.cons _ ((perm_front (j := 4) rfl).trans (.cons _ (.refl _))))) rfl Hc ((perm_front (j := 0) rfl).trans (.cons _ ((perm_front (j := 0) rfl).trans (.cons _ ((perm_front (j := 0) rfl).trans (.cons _ ((perm_front (j := 0) rfl).trans (.cons _ ((perm_front (j := 1) rfl).trans (.cons _ (.refl _)))))))))))
  clear Hc
  replace H : Hp _ w _ [_, _, _, _, _, _] := H
  refine l_op (o_alloc H zc43 (fun b7 w H hb7 => ?_)); replace H : Hp _ w _ ([_, _, _, _, _, _, .blk b7 (ansE (⟨0, ⟨none, 0, 0, []⟩⟩ : Ans)) 43]) := H
  refine l_op (o_stW (C' := ansE (⟨0, ⟨none, 0, 0, []⟩⟩ : Ans)) H (i := 6) rfl rfl rfl cs43 (ansE_all _) (ansE_len _) (ansE_len _) (fun w H => ?_)); replace H : Hp _ w _ [_, _, _, _, _, _, _] := H
  refine eN ?_
  refine rG ?_; refine lV (r_fa rfl fo43_0) ?_; refine lV (r_l1 (v := VI 0) H (i := 6) rfl rfl ct3 (ansE_c0 _)) ?_; refine lV (r_bin (a := 0) (b := 0) rfl rfl (fun _ => b_eqlB true (decide_eq_true (by decide)))) ?_; refine eN ?_
  refine qY ?_; refine rG ?_; refine mV ?_; refine l_op (o_callR Tryz.func21 rfl rfl rfl (doT_ret _ b6 b5 r (dl) h (⟨none, 0, 0, []⟩) of (n) b s (now) (H.ownP ((perm_front (j := 5) rfl).trans (.cons _ ((perm_front (j := 4) rfl).trans (.cons _ (.refl _))))) rfl)) ?_); rintro _ w ⟨a8, c9, rfl, Hc⟩
  replace H := H.callP ((perm_front (j := 5) rfl).trans (.cons _ ((perm_front (j := 4) rfl).trans (.cons _ (.refl _))))) rfl Hc ((perm_front (j := 0) rfl).trans (.cons _ ((perm_front (j := 0) rfl).trans (.cons _ ((perm_front (j := 0) rfl).trans (.cons _ ((perm_front (j := 0) rfl).trans (.cons _ ((perm_front (j := 2) rfl).trans (.cons _ ((perm_front (j := 1) rfl).trans (.cons _ (.refl _)))))))))))))
  clear Hc
  replace H : Hp _ w _ ([_, _, _, _, .blk b5 (staE (⟨r, dl, (0 : UInt64), ⟨hd a8, 1, c9, [(⟨[97], kT r, n, 1, ⟨none, 0, 0, []⟩, ⟨none, 0, 0, []⟩, ⟨none, 0, 0, []⟩⟩ : Tn)]⟩, ⟨none, 0, 0, []⟩, ⟨none, 0, 0, []⟩, h⟩ : Sta)) 30, _, _, .own a8 1 c9 (([(⟨[97], kT r, n, 1, ⟨none, 0, 0, []⟩, ⟨none, 0, 0, []⟩, ⟨none, 0, 0, []⟩⟩ : Tn)]).flatMap tnE) 53 38]) := H
  refine l_op (o_stW (C' := ansE (⟨201, ⟨none, 0, 0, []⟩⟩ : Ans)) H (i := 6) rfl rfl rfl cs43 (ansE_all _) (ansE_len _) (ansE_len _) (fun w H => ?_)); replace H : Hp _ w _ ([_, _, _, _, _, _, .blk b7 (ansE (⟨201, ⟨none, 0, 0, []⟩⟩ : Ans)) 43, _]) := H
  refine eN ?_
  repeat refine c_seq ?_
  refine heldH H mixed fun H => ?_
  have HS := H
  refine tK 0 rfl (fun w HS => r_fa rfl fo30_5) HS ?_; refine tK 1 rfl (fun w HS => r_l1 (v := .slice none 0 0) HS (i := 0) rfl rfl ct28 (staE_c5 _)) HS ?_; refine tK 2 rfl (fun w HS => r_lens el28 rfl) HS ?_; refine tK 3 rfl (fun w HS => r_fa rfl fo47_8) HS ?_; refine tK 4 rfl (fun w HS => r_l1 (v := VI now) HS (i := 1) rfl rfl ct2 (oprE_c8 _)) HS ?_; refine tK 5 rfl (fun w HS => r_mv) HS ?_; refine tK 6 rfl (fun w HS => r_nilc rfl) HS ?_; refine tK 7 rfl (fun w HS => r_fa rfl fo75_3) HS ?_; refine tK 8 rfl (fun w HS => r_l1 (v := V64 (0 : UInt64)) HS (i := 5) rfl rfl ct25 (wrkE_c3 _)) HS ?_; refine tK 9 rfl (fun w HS => r_fa rfl fo47_1) HS ?_; refine tK 10 rfl (fun w HS => r_l1 (v := .string ⟨(([97] : List UInt8)).toArray⟩) HS (i := 1) rfl rfl ct9 (oprE_c1 _)) HS ?_; refine tK 11 rfl (fun w HS => r_fa rfl fo47_0) HS ?_; refine tK 12 rfl (fun w HS => r_l1 (v := VI 10) HS (i := 1) rfl rfl ct3 (oprE_c0 _)) HS ?_; refine tK 13 rfl (fun w HS => r_fa rfl fo43_0) HS ?_; refine tK 14 rfl (fun w HS => r_l1 (v := VI 201) HS (i := 6) rfl rfl ct3 (ansE_c0 _)) HS ?_; refine tK 15 rfl (fun w HS => r_fa rfl fo47_2) HS ?_; refine tK 16 rfl (fun w HS => r_lk HS (i := 1) rfl rfl rt24 (oprE_c2 _)) HS ?_; refine tK 17 rfl (fun w HS => r_bldT (pv := [(0, VI 0), (1, VI now), (2, V64 (0 : UInt64)), (3, .string ⟨(([97] : List UInt8)).toArray⟩), (4, VI 10), (5, VI 201), (6, .agg ((of.1).map V8).toArray)]) (pre := [VI 0, VI now, V64 (0 : UInt64), .string ⟨(([97] : List UInt8)).toArray⟩, VI 10, VI 201]) (l := of.1) bd60 rfl rfl rfl rfl rfl rfl rfl (show (of.1).length = 32 from of.2)) HS ?_; refine tU 18 rfl (o_alloc H zc60 (fun b10 w H hb10 => ?_)); replace H : Hp _ w _ ([_, _, _, _, _, _, _, _, .blk b10 ([VI 0, VI 0, V64 (0 : UInt64), .string ⟨(([] : List UInt8)).toArray⟩, VI 0, VI 0] ++ (List.replicate 32 (0 : UInt8)).map V8) 60]) := H
  replace HS := H.sub (.cons_cons _ (.cons_cons _ (.cons_cons _ (.cons_cons _ (.cons_cons _ (.cons_cons _ (.cons_cons _ (.cons_cons _ (List.nil_sublist _)))))))))
  refine ⟨HS, ?_⟩
  refine tU 19 rfl (o_stW (C' := [VI 0, VI now, V64 (0 : UInt64), .string ⟨(([97] : List UInt8)).toArray⟩, VI 10, VI 201] ++ (of.1).map V8) H (i := 8) rfl rfl rfl cs60 (by simp [Value.oneCell']) (by rw [List.length_append, List.length_map, (show (List.replicate 32 (0 : UInt8)).length = 32 from (List.length_replicate ..))]; rfl) (by rw [List.length_append, List.length_map, (show (of.1).length = 32 from of.2)]; rfl) (fun w H => ?_)); replace H : Hp _ w _ ([_, _, _, _, _, _, _, _, .blk b10 ([VI 0, VI now, V64 (0 : UInt64), .string ⟨(([97] : List UInt8)).toArray⟩, VI 10, VI 201] ++ (of.1).map V8) 60]) := H
  replace HS := H.sub (.cons_cons _ (.cons_cons _ (.cons_cons _ (.cons_cons _ (.cons_cons _ (.cons_cons _ (.cons_cons _ (.cons_cons _ (List.nil_sublist _)))))))))
  refine ⟨HS, ?_⟩
  refine t_done (by kernel_rfl) ?_
  clear HS
  refine rG ?_; refine lV (r_fa rfl fo30_6) ?_; refine lV (r_lk H (i := 0) rfl rfl rt24 (staE_c6 _)) ?_; refine lV (r_ldA (C := [VI 0, VI now, V64 (0 : UInt64), .string ⟨(([97] : List UInt8)).toArray⟩, VI 10, VI 201] ++ (of.1).map V8) H (i := 8) rfl rfl rt60 (by rw [List.length_append, List.length_map, (show (of.1).length = 32 from of.2)]; rfl)) ?_; have hk11 : (mayE (⟨0, now, (0 : UInt64), ([97] : List UInt8), 10, 201, of.1⟩ : Ent)) = true := ((mayE_iff _).2 (by refine ⟨?_, ?_, ?_, ?_, ?_, ?_, ?_⟩ <;> first | (dsimp only; omega) | exact Nat.zero_le _ | (show (1 : Nat) ≤ 16; omega)))
  refine l_op (o_callR Tryz.func22 rfl rfl rfl (aLink_ok _ (h.1) (show (h.1).length = 32 from h.2) (⟨0, now, (0 : UInt64), ([97] : List UInt8), 10, 201, of.1⟩ : Ent) (show (of.1).length = 32 from of.2) ⟨by dsimp only; omega, by dsimp only; omega⟩ hk11) ?_); rintro _ w ⟨rfl, Hc⟩
  replace H : Hp _ w _ ([_, _, _, _, _, _, _, _, _]) := H.call Hc
  clear Hc
  refine mV ?_; refine lV (r_ext rfl rfl) ?_; refine lV (r_ext rfl rfl) ?_; refine lV (r_fa rfl fo30_6) ?_; refine l_op (o_skP (C' := staE (⟨r, dl, (0 : UInt64), ⟨hd a8, 1, c9, [(⟨[97], kT r, n, 1, ⟨none, 0, 0, []⟩, ⟨none, 0, 0, []⟩, ⟨none, 0, 0, []⟩⟩ : Tn)]⟩, ⟨none, 0, 0, []⟩, ⟨none, 0, 0, []⟩, (⟨linkF (h.1) (⟨0, now, (0 : UInt64), ([97] : List UInt8), 10, 201, of.1⟩ : Ent), (show (linkF (h.1) (⟨0, now, (0 : UInt64), ([97] : List UInt8), 10, 201, of.1⟩ : Ent)).length = 32 from (linkF_len _ _))⟩ : Id32)⟩ : Sta)) (V := (linkF (h.1) (⟨0, now, (0 : UInt64), ([97] : List UInt8), 10, 201, of.1⟩ : Ent)).map V8) H (i := 4) rfl rfl rfl cs24 (by first | (simp [Value.oneCell', List.all_map]; done) | (simp only [List.all_map]; simp [Value.oneCell', Function.comp_def])) (staE_p6 _ (⟨linkF (h.1) (⟨0, now, (0 : UInt64), ([97] : List UInt8), 10, 201, of.1⟩ : Ent), (show (linkF (h.1) (⟨0, now, (0 : UInt64), ([97] : List UInt8), 10, 201, of.1⟩ : Ent)).length = 32 from (linkF_len _ _))⟩ : Id32)) (fun w H => ?_)); replace H : Hp _ w _ ([_, _, _, _, .blk b5 (staE (⟨r, dl, (0 : UInt64), ⟨hd a8, 1, c9, [(⟨[97], kT r, n, 1, ⟨none, 0, 0, []⟩, ⟨none, 0, 0, []⟩, ⟨none, 0, 0, []⟩⟩ : Tn)]⟩, ⟨none, 0, 0, []⟩, ⟨none, 0, 0, []⟩, (⟨linkF (h.1) (⟨0, now, (0 : UInt64), ([97] : List UInt8), 10, 201, of.1⟩ : Ent), (show (linkF (h.1) (⟨0, now, (0 : UInt64), ([97] : List UInt8), 10, 201, of.1⟩ : Ent)).length = 32 from (linkF_len _ _))⟩ : Id32)⟩ : Sta)) 30, _, _, _, _]) := H
  refine eN ?_
  refine rG ?_; refine lV (r_fa rfl fo30_5) ?_; refine lV (r_l1 (v := .slice none 0 0) H (i := 4) rfl rfl ct28 (staE_c5 _)) ?_; refine lV (r_ldA (C := [VI 0, VI now, V64 (0 : UInt64), .string ⟨(([97] : List UInt8)).toArray⟩, VI 10, VI 201] ++ (of.1).map V8) H (i := 8) rfl rfl rt60 (by rw [List.length_append, List.length_map, (show (of.1).length = 32 from of.2)]; rfl)) ?_; refine l_op (o_bslG1 (enc := entE) ((⟨0, now, (0 : UInt64), ([97] : List UInt8), 10, 201, of.1⟩ : Ent)) H sl28 zc60 (by rfl) (by decide) (by decide) rfl (ent_len (show (of.1).length = 32 from of.2)) (fun b12 w H hb12 => ?_)); replace H : Hp _ w _ ([_, _, _, _, _, _, _, _, _, .own (some b12) 1 1 (([(⟨0, now, (0 : UInt64), ([97] : List UInt8), 10, 201, of.1⟩ : Ent)]).flatMap entE) 60 38]) := H
  replace H : Hp _ _ _ ([_, _, _, _, _, _, _, _, _, _, .own none 0 0 ((([] : List Ent)).flatMap entE) 60 38]) := H.nilEnd 60 38
  refine l_op (o_appG (enc := entE) (s := ⟨hd (some b12), 1, 1, [(⟨0, now, (0 : UInt64), ([97] : List UInt8), 10, 201, of.1⟩ : Ent)]⟩) (l' := [(⟨0, now, (0 : UInt64), ([97] : List UInt8), 10, 201, of.1⟩ : Ent)]) (len' := 1) rfl (Nat.zero_add _) H (i := 10) rfl sl28 Tryz.underlying28 rfl rfl (H.glOwn (i := 9) rfl (by decide) (fun c hc => by rw [List.mem_singleton.1 hc]; exact (ent_len (show (of.1).length = 32 from of.2)))) (by decide) (fun c _ => ent_all c) oM (by decide) (fun a13 c14 w H => ?_)); replace H : Hp _ w _ ([_, _, _, _, _, _, _, _, _, _, .own a13 1 c14 (([(⟨0, now, (0 : UInt64), ([97] : List UInt8), 10, 201, of.1⟩ : Ent)]).flatMap entE) 60 38]) := H
  refine lV (r_fa rfl fo30_5) ?_; refine l_op (o_s1P (C' := staE (⟨r, dl, (0 : UInt64), ⟨hd a8, 1, c9, [(⟨[97], kT r, n, 1, ⟨none, 0, 0, []⟩, ⟨none, 0, 0, []⟩, ⟨none, 0, 0, []⟩⟩ : Tn)]⟩, ⟨none, 0, 0, []⟩, ⟨hd a13, 1, c14, [(⟨0, now, (0 : UInt64), ([97] : List UInt8), 10, 201, of.1⟩ : Ent)]⟩, (⟨linkF (h.1) (⟨0, now, (0 : UInt64), ([97] : List UInt8), 10, 201, of.1⟩ : Ent), (show (linkF (h.1) (⟨0, now, (0 : UInt64), ([97] : List UInt8), 10, 201, of.1⟩ : Ent)).length = 32 from (linkF_len _ _))⟩ : Id32)⟩ : Sta)) (u := .slice (hd a13) 1 c14) H (i := 4) rfl rfl rfl cs28 rfl (staE_p5 _ (⟨hd a13, 1, c14, [(⟨0, now, (0 : UInt64), ([97] : List UInt8), 10, 201, of.1⟩ : Ent)]⟩)) (fun w H => ?_)); replace H : Hp _ w _ ([_, _, _, _, .blk b5 (staE (⟨r, dl, (0 : UInt64), ⟨hd a8, 1, c9, [(⟨[97], kT r, n, 1, ⟨none, 0, 0, []⟩, ⟨none, 0, 0, []⟩, ⟨none, 0, 0, []⟩⟩ : Tn)]⟩, ⟨none, 0, 0, []⟩, ⟨hd a13, 1, c14, [(⟨0, now, (0 : UInt64), ([97] : List UInt8), 10, 201, of.1⟩ : Ent)]⟩, (⟨linkF (h.1) (⟨0, now, (0 : UInt64), ([97] : List UInt8), 10, 201, of.1⟩ : Ent), (show (linkF (h.1) (⟨0, now, (0 : UInt64), ([97] : List UInt8), 10, 201, of.1⟩ : Ent)).length = 32 from (linkF_len _ _))⟩ : Id32)⟩ : Sta)) 30, _, _, _, _, _, _]) := H
  refine eN ?_
  repeat refine c_seq ?_
  refine heldS H (H.sub (.cons_cons _ (.cons_cons _ (.cons _ (.cons _ (.cons_cons _ (.cons_cons _ (.cons_cons _ (.cons_cons _ (.cons_cons _ (.cons_cons _ (.cons_cons _ (List.nil_sublist _))))))))))))) mixed fun H HS => ?_
  refine tK 0 rfl (fun w HS => r_ldA (C := staE (⟨r, dl, (0 : UInt64), ⟨hd a8, 1, c9, [(⟨[97], kT r, n, 1, ⟨none, 0, 0, []⟩, ⟨none, 0, 0, []⟩, ⟨none, 0, 0, []⟩⟩ : Tn)]⟩, ⟨none, 0, 0, []⟩, ⟨hd a13, 1, c14, [(⟨0, now, (0 : UInt64), ([97] : List UInt8), 10, 201, of.1⟩ : Ent)]⟩, (⟨linkF (h.1) (⟨0, now, (0 : UInt64), ([97] : List UInt8), 10, 201, of.1⟩ : Ent), (show (linkF (h.1) (⟨0, now, (0 : UInt64), ([97] : List UInt8), 10, 201, of.1⟩ : Ent)).length = 32 from (linkF_len _ _))⟩ : Id32)⟩ : Sta)) HS (i := 2) rfl rfl rt30 (staE_len _)) HS ?_; refine tK 1 rfl (fun w HS => r_ldA (C := ansE (⟨201, ⟨none, 0, 0, []⟩⟩ : Ans)) HS (i := 4) rfl rfl rt43 (ansE_len _)) HS ?_; refine tU 2 rfl (o_stW (C' := staE (⟨r, dl, (0 : UInt64), ⟨hd a8, 1, c9, [(⟨[97], kT r, n, 1, ⟨none, 0, 0, []⟩, ⟨none, 0, 0, []⟩, ⟨none, 0, 0, []⟩⟩ : Tn)]⟩, ⟨none, 0, 0, []⟩, ⟨hd a13, 1, c14, [(⟨0, now, (0 : UInt64), ([97] : List UInt8), 10, 201, of.1⟩ : Ent)]⟩, (⟨linkF (h.1) (⟨0, now, (0 : UInt64), ([97] : List UInt8), 10, 201, of.1⟩ : Ent), (show (linkF (h.1) (⟨0, now, (0 : UInt64), ([97] : List UInt8), 10, 201, of.1⟩ : Ent)).length = 32 from (linkF_len _ _))⟩ : Id32)⟩ : Sta)) H (i := 2) rfl rfl rfl cs30 (staE_all _) (staE_len _) (staE_len _) (fun w H => ?_)); replace H : Hp _ w _ ([_, _, .blk b3 (staE (⟨r, dl, (0 : UInt64), ⟨hd a8, 1, c9, [(⟨[97], kT r, n, 1, ⟨none, 0, 0, []⟩, ⟨none, 0, 0, []⟩, ⟨none, 0, 0, []⟩⟩ : Tn)]⟩, ⟨none, 0, 0, []⟩, ⟨hd a13, 1, c14, [(⟨0, now, (0 : UInt64), ([97] : List UInt8), 10, 201, of.1⟩ : Ent)]⟩, (⟨linkF (h.1) (⟨0, now, (0 : UInt64), ([97] : List UInt8), 10, 201, of.1⟩ : Ent), (show (linkF (h.1) (⟨0, now, (0 : UInt64), ([97] : List UInt8), 10, 201, of.1⟩ : Ent)).length = 32 from (linkF_len _ _))⟩ : Id32)⟩ : Sta)) 30, _, _, _, _, _, _, _, _]) := H
  replace HS := H.sub (.cons_cons _ (.cons_cons _ (.cons _ (.cons _ (.cons_cons _ (.cons_cons _ (.cons_cons _ (.cons_cons _ (.cons_cons _ (.cons_cons _ (.cons_cons _ (List.nil_sublist _))))))))))))
  refine ⟨HS, ?_⟩
  refine tU 3 rfl (o_stW (C' := ansE (⟨201, ⟨none, 0, 0, []⟩⟩ : Ans)) H (i := 3) rfl rfl rfl cs43 (ansE_all _) (ansE_len _) (ansE_len _) (fun w H => ?_)); replace H : Hp _ w _ ([_, _, _, .blk b4 (ansE (⟨201, ⟨none, 0, 0, []⟩⟩ : Ans)) 43, _, _, _, _, _, _, _]) := H
  replace HS := H.sub (.cons_cons _ (.cons_cons _ (.cons _ (.cons _ (.cons_cons _ (.cons_cons _ (.cons_cons _ (.cons_cons _ (.cons_cons _ (.cons_cons _ (.cons_cons _ (List.nil_sublist _))))))))))))
  refine ⟨HS, ?_⟩
  refine t_done (by kernel_rfl) ?_
  clear HS
  refine cR ?_
  refine e_retN (vs := [.agg (staE (⟨r, dl, (0 : UInt64), ⟨hd a8, 1, c9, [(⟨[97], kT r, n, 1, ⟨none, 0, 0, []⟩, ⟨none, 0, 0, []⟩, ⟨none, 0, 0, []⟩⟩ : Tn)]⟩, ⟨none, 0, 0, []⟩, ⟨hd a13, 1, c14, [(⟨0, now, (0 : UInt64), ([97] : List UInt8), 10, 201, of.1⟩ : Ent)]⟩, (⟨linkF (h.1) (⟨0, now, (0 : UInt64), ([97] : List UInt8), 10, 201, of.1⟩ : Ent), (show (linkF (h.1) (⟨0, now, (0 : UInt64), ([97] : List UInt8), 10, 201, of.1⟩ : Ent)).length = 32 from (linkF_len _ _))⟩ : Id32)⟩ : Sta)).toArray, .agg (ansE (⟨201, ⟨none, 0, 0, []⟩⟩ : Ans)).toArray]) _ Tryz.results9 rfl (H.resR (C := staE (⟨r, dl, (0 : UInt64), ⟨hd a8, 1, c9, [(⟨[97], kT r, n, 1, ⟨none, 0, 0, []⟩, ⟨none, 0, 0, []⟩, ⟨none, 0, 0, []⟩⟩ : Tn)]⟩, ⟨none, 0, 0, []⟩, ⟨hd a13, 1, c14, [(⟨0, now, (0 : UInt64), ([97] : List UInt8), 10, 201, of.1⟩ : Ent)]⟩, (⟨linkF (h.1) (⟨0, now, (0 : UInt64), ([97] : List UInt8), 10, 201, of.1⟩ : Ent), (show (linkF (h.1) (⟨0, now, (0 : UInt64), ([97] : List UInt8), 10, 201, of.1⟩ : Ent)).length = 32 from (linkF_len _ _))⟩ : Id32)⟩ : Sta)) (i := 2) rfl rfl rt30 (staE_len _) (H.resR (C := ansE (⟨201, ⟨none, 0, 0, []⟩⟩ : Ans)) (i := 3) rfl rfl rt43 (ansE_len _) (resZ))) ?_
  refine ⟨_, rfl, ?_⟩
  exact ⟨_, _, _, _, rfl, H.sub (.cons _ (.cons _ (.cons _ (.cons _ (.cons _ (.cons _ (.cons _ (.cons_cons _ (.cons _ (.cons _ (.cons_cons _ (List.nil_sublist _))))))))))))⟩
end Go.Proofs.YtmiabahejnjhiaaGreatDoor
namespace Go.Proofs.YtmiabahejnjhiaaGreatDoor
open Go
set_option maxRecDepth 100000
theorem gl_nil {α : Type} {enc : α → List Value} {sz : Nat} {x : Gl α} {w : World} (hx : x.ok enc sz w) (hsz : 0 < sz) (h : x.a.isNone = true) : x.len = 0 ∧ x.l = [] := by
  have h0 : x.a = none := by simpa using h
  have hl : x.l = [] := by
    rcases hx.rd with h1 | ⟨b, o, C, T, fr, ha, _⟩
    · cases hl : x.l with
      | nil => rfl
      | cons y ys =>
        rw [hl, List.flatMap_cons] at h1
        have h2 := congrArg List.length h1
        have h3 := hx.sz y (by rw [hl]; exact List.mem_cons_self)
        rw [List.length_append, h3] at h2
        simp at h2
        omega
    · rw [h0] at ha; cases ha
  exact ⟨by rw [← hx.ln, hl]; rfl, hl⟩
theorem cluT_ret (w0 : World) (x : Gl Tn) (hx : x.ok tnE 38 w0) (hm : x.len ≤ 65536) :
    Ret Tryz.prog 32 [x.v] w0 fun v w' => ∃ a c, v = .slice (hd a) x.len c ∧ Hp w0 w' [] [.own a x.len c (x.l.flatMap tnE) 53 38] := by
  refine ret_mk Tryz.func32 rfl Tryz.ntmps32 (by simp) ?_
  have H := Hp.refl w0 []
  refine rG ?_; refine aZ ?_; refine eN ?_
  refine rG ?_; refine mV ?_; refine lV (r_slnil Tryz.underlying26 (by kernel_rfl) rfl rfl) ?_; refine eN ?_
  have hc10 := Bool.eq_false_or_eq_true (x.a.isNone)
  rcases hc10 with hc1 | hc1
  ·
   repeat refine c_seq ?_
   refine c_yes (by exact congrArg Value.bool hc1) ?_; refine rG ?_; refine aZ ?_; refine eN ?_
   refine cR ?_
   refine e_ret1 (v := .slice none 0 0) Tryz.results32 rfl ?_
   refine ⟨_, rfl, ?_⟩
   have h0 := gl_nil hx (by decide) (by have := (hc1); simpa using this)
   rw [h0.1, h0.2]
   exact ⟨none, 0, rfl, H.nilEnd 53 38⟩
  ·
   repeat refine c_seq ?_
   refine c_no (by exact congrArg Value.bool hc1) ?_; refine c_skip ?_; refine rG ?_; refine l_op (o_bslG0 (α := Tn) (enc := tnE) H sl26 zc53 (by decide) (fun b2 w H hb2 => ?_)); replace H : Hp _ w _ ([.own (some b2) 0 0 ((([] : List Tn)).flatMap tnE) 53 38]) := H
   refine mV ?_; refine l_op (o_appG (enc := tnE) (s := x) (l' := x.l) (len' := x.len) rfl (Nat.zero_add _) H (i := 0) rfl sl26 Tryz.underlying26 rfl rfl (hx.up H) (by decide) (fun c _ => tnE_all c) oM (by decide) (fun a3 c4 w H => ?_)); replace H : Hp _ w _ ([.own a3 x.len c4 ((x.l).flatMap tnE) 53 38]) := H
   refine aZ ?_; refine eN ?_
   refine cR ?_
   refine e_ret1 (v := .slice (hd a3) x.len c4) Tryz.results32 rfl ?_
   refine ⟨_, rfl, ?_⟩
   exact ⟨_, _, rfl, H.sub (.cons_cons _ (List.nil_sublist _))⟩
theorem cluB_ret (w0 : World) (x : Gl Bl) (hx : x.ok blE 33 w0) (hm : x.len ≤ 65536) :
    Ret Tryz.prog 35 [x.v] w0 fun v w' => ∃ a c, v = .slice (hd a) x.len c ∧ Hp w0 w' [] [.own a x.len c (x.l.flatMap blE) 92 33] := by
  refine ret_mk Tryz.func35 rfl Tryz.ntmps35 (by simp) ?_
  have H := Hp.refl w0 []
  refine rG ?_; refine aZ ?_; refine eN ?_
  refine rG ?_; refine mV ?_; refine lV (r_slnil Tryz.underlying49 (by kernel_rfl) rfl rfl) ?_; refine eN ?_
  have hc10 := Bool.eq_false_or_eq_true (x.a.isNone)
  rcases hc10 with hc1 | hc1
  ·
   repeat refine c_seq ?_
   refine c_yes (by exact congrArg Value.bool hc1) ?_; refine rG ?_; refine aZ ?_; refine eN ?_
   refine cR ?_
   refine e_ret1 (v := .slice none 0 0) Tryz.results35 rfl ?_
   refine ⟨_, rfl, ?_⟩
   have h0 := gl_nil hx (by decide) (by have := (hc1); simpa using this)
   rw [h0.1, h0.2]
   exact ⟨none, 0, rfl, H.nilEnd 92 33⟩
  ·
   repeat refine c_seq ?_
   refine c_no (by exact congrArg Value.bool hc1) ?_; refine c_skip ?_; refine rG ?_; refine l_op (o_bslG0 (α := Bl) (enc := blE) H sl49 zc92 (by decide) (fun b2 w H hb2 => ?_)); replace H : Hp _ w _ ([.own (some b2) 0 0 ((([] : List Bl)).flatMap blE) 92 33]) := H
   refine mV ?_; refine l_op (o_appG (enc := blE) (s := x) (l' := x.l) (len' := x.len) rfl (Nat.zero_add _) H (i := 0) rfl sl49 Tryz.underlying49 rfl rfl (hx.up H) (by decide) (fun c _ => blE_all c) oM (by decide) (fun a3 c4 w H => ?_)); replace H : Hp _ w _ ([.own a3 x.len c4 ((x.l).flatMap blE) 92 33]) := H
   refine aZ ?_; refine eN ?_
   refine cR ?_
   refine e_ret1 (v := .slice (hd a3) x.len c4) Tryz.results35 rfl ?_
   refine ⟨_, rfl, ?_⟩
   exact ⟨_, _, rfl, H.sub (.cons_cons _ (List.nil_sublist _))⟩
theorem cluS_ret (w0 : World) (x : Gl Sn) (hx : x.ok snE 36 w0) (hm : x.len ≤ 65536) :
    Ret Tryz.prog 36 [x.v] w0 fun v w' => ∃ a c, v = .slice (hd a) x.len c ∧ Hp w0 w' [] [.own a x.len c (x.l.flatMap snE) 95 36] := by
  refine ret_mk Tryz.func36 rfl Tryz.ntmps36 (by simp) ?_
  have H := Hp.refl w0 []
  refine rG ?_; refine aZ ?_; refine eN ?_
  refine rG ?_; refine mV ?_; refine lV (r_slnil Tryz.underlying50 (by kernel_rfl) rfl rfl) ?_; refine eN ?_
  have hc10 := Bool.eq_false_or_eq_true (x.a.isNone)
  rcases hc10 with hc1 | hc1
  ·
   repeat refine c_seq ?_
   refine c_yes (by exact congrArg Value.bool hc1) ?_; refine rG ?_; refine aZ ?_; refine eN ?_
   refine cR ?_
   refine e_ret1 (v := .slice none 0 0) Tryz.results36 rfl ?_
   refine ⟨_, rfl, ?_⟩
   have h0 := gl_nil hx (by decide) (by have := (hc1); simpa using this)
   rw [h0.1, h0.2]
   exact ⟨none, 0, rfl, H.nilEnd 95 36⟩
  ·
   repeat refine c_seq ?_
   refine c_no (by exact congrArg Value.bool hc1) ?_; refine c_skip ?_; refine rG ?_; refine l_op (o_bslG0 (α := Sn) (enc := snE) H sl50 zc95 (by decide) (fun b2 w H hb2 => ?_)); replace H : Hp _ w _ ([.own (some b2) 0 0 ((([] : List Sn)).flatMap snE) 95 36]) := H
   refine mV ?_; refine l_op (o_appG (enc := snE) (s := x) (l' := x.l) (len' := x.len) rfl (Nat.zero_add _) H (i := 0) rfl sl50 Tryz.underlying50 rfl rfl (hx.up H) (by decide) (fun c _ => snE_all c) oM (by decide) (fun a3 c4 w H => ?_)); replace H : Hp _ w _ ([.own a3 x.len c4 ((x.l).flatMap snE) 95 36]) := H
   refine aZ ?_; refine eN ?_
   refine cR ?_
   refine e_ret1 (v := .slice (hd a3) x.len c4) Tryz.results36 rfl ?_
   refine ⟨_, rfl, ?_⟩
   exact ⟨_, _, rfl, H.sub (.cons_cons _ (List.nil_sublist _))⟩
end Go.Proofs.YtmiabahejnjhiaaGreatDoor
namespace Go.Proofs.YtmiabahejnjhiaaGreatDoor
open Go
set_option maxRecDepth 100000
/-- a tenant as a world has it: its blob's and snapshot's memory. -/
structure Sh where
  tb : Nat
  tc : Nat
  T : Tn
  ba : Option Nat
  bn : Nat
  bc : Nat
  bl : List Bl
  da : Option Nat
  dn : Nat
  dc : Nat
  dl : List UInt8
  sa : Option Nat
  sn : Nat
  sc : Nat
  sl : List Sn
/-- what is asked of an operation that is done. -/
abbrev DoC (w0 : World) (r : Id32) (dl : Int) (h : Id32) (d st : Int) (of : Id32) (n : Int) (b s : Sl) (now : Int) (Q P : Sh → Prop) : Prop := ∀ (w1 : World) (wb nb : Nat) (y : Sh) (lg : Gl Ent), Q y → Hp w0 w1 [] [.blk wb (wrkE (⟨some nb, (⟨d, [97], of, n, 0, 0, b, s, now, zId⟩ : Opr), (some y.tb), 0⟩ : Wrk)) 75, .blk nb (staE (⟨r, dl, 0, ⟨some ⟨y.tb, 0, none⟩, 1, y.tc, [y.T]⟩, ⟨none, 0, 0, []⟩, lg, h⟩ : Sta)) 30, .own (some y.tb) 1 y.tc (([y.T]).flatMap tnE) 53 38, .own y.ba y.bn y.bc ((y.bl).flatMap blE) 92 33, .own y.da y.dn y.dc ((y.dl).map V8) 5 1, .own y.sa y.sn y.sc ((y.sl).flatMap snE) 95 36] → Ret Tryz.prog 21 [.pointer (some ⟨wb, 0, none⟩)] w1 fun v w' => ∃ (y' : Sh) (bd : Sl), P y' ∧ v = .agg (ansE (⟨st, bd⟩ : Ans)).toArray ∧ Hp w1 w' (keys [.blk wb (wrkE (⟨some nb, (⟨d, [97], of, n, 0, 0, b, s, now, zId⟩ : Opr), (some y.tb), 0⟩ : Wrk)) 75, .blk nb (staE (⟨r, dl, 0, ⟨some ⟨y.tb, 0, none⟩, 1, y.tc, [y.T]⟩, ⟨none, 0, 0, []⟩, lg, h⟩ : Sta)) 30, .own (some y.tb) 1 y.tc (([y.T]).flatMap tnE) 53 38, .own y.ba y.bn y.bc ((y.bl).flatMap blE) 92 33, .own y.da y.dn y.dc ((y.dl).map V8) 5 1, .own y.sa y.sn y.sc ((y.sl).flatMap snE) 95 36]) [.blk wb (wrkE (⟨some nb, (⟨d, [97], of, n, 0, 0, b, s, now, zId⟩ : Opr), (some y.tb), 0⟩ : Wrk)) 75, .blk nb (staE (⟨r, dl, 0, ⟨some ⟨y'.tb, 0, none⟩, 1, y'.tc, [y'.T]⟩, ⟨none, 0, 0, []⟩, lg, h⟩ : Sta)) 30, .own (some y'.tb) 1 y'.tc (([y'.T]).flatMap tnE) 53 38, .own y'.ba y'.bn y'.bc ((y'.bl).flatMap blE) 92 33, .own y'.da y'.dn y'.dc ((y'.dl).map V8) 5 1, .own y'.sa y'.sn y'.sc ((y'.sl).flatMap snE) 95 36]
/-- what Step hands back. -/
abbrev OutY (w0 w' : World) (r : Id32) (dl : Int) (n : Nat) (st : Int) (P : Sh → Prop) (v : Value) : Prop := ∃ (y : Sh) (a : Option Nat) (k : Nat) (LG : List Ent) (h : Id32) (bd : Sl), P y ∧ (∀ c ∈ LG, (entE c).length = 38) ∧ v = .tuple #[.agg (staE (⟨r, dl, 0, ⟨some ⟨y.tb, 0, none⟩, 1, y.tc, [y.T]⟩, ⟨none, 0, 0, []⟩, ⟨hd a, n, k, LG⟩, h⟩ : Sta)).toArray, .agg (ansE (⟨st, bd⟩ : Ans)).toArray] ∧ Hp w0 w' [] [.own (some y.tb) 1 y.tc (([y.T]).flatMap tnE) 53 38, .own y.ba y.bn y.bc ((y.bl).flatMap blE) 92 33, .own y.da y.dn y.dc ((y.dl).map V8) 5 1, .own y.sa y.sn y.sc ((y.sl).flatMap snE) 95 36, .own a n k ((LG).flatMap entE) 60 38]
theorem ent_snoc {l : List Ent} {e : Ent} (h : ∀ c ∈ l, (entE c).length = 38) (he : (entE e).length = 38) : ∀ c ∈ l ++ [e], (entE c).length = 38 := by
  intro c hc
  rcases List.mem_append.1 hc with h1 | h1
  · exact h c h1
  · rw [List.mem_singleton.1 h1]; exact he
set_option maxHeartbeats 1000000 in
theorem stepA_ret (w0 : World) (ts : Gl Tn) (lg : Gl Ent) (hlg : lg.ok entE 38 w0) (hlm : lg.len ≤ 4000) (Q P : Sh → Prop) (hQn : ∀ y, Q y → y.T.name = [97]) (r : Id32) (dl : Int) (h : Id32) (htw : ∀ w1, Hp w0 w1 [] [] → Ret Tryz.prog 17 [.agg (staE ⟨r, dl, 0, ts, ⟨none, 0, 0, []⟩, lg, h⟩).toArray] w1 fun v w' => ∃ (y : Sh) (a : Option Nat) (k : Nat), Q y ∧ v = .agg (staE (⟨r, dl, 0, ⟨some ⟨y.tb, 0, none⟩, 1, y.tc, [y.T]⟩, ⟨none, 0, 0, []⟩, ⟨hd a, lg.len, k, lg.l⟩, h⟩ : Sta)).toArray ∧ Hp w1 w' [] [.own (some y.tb) 1 y.tc (([y.T]).flatMap tnE) 53 38, .own y.ba y.bn y.bc ((y.bl).flatMap blE) 92 33, .own y.da y.dn y.dc ((y.dl).map V8) 5 1, .own y.sa y.sn y.sc ((y.sl).flatMap snE) 95 36, .own a lg.len k ((lg.l).flatMap entE) 60 38]) (d : Int) (hdd : d = 1 ∨ d = 3 ∨ d = 7 ∨ d = 8 ∨ d = 10 ∨ d = 15) (st : Int) (hst : st = 200 ∨ st = 201) (of : Id32) (n : Int) (b s : Sl) (now : Int) (hmay : 0 ≤ n ∧ b.len ≤ 4096 ∧ 0 ≤ now) (hnow : 0 ≤ now ∧ now < 9223372036854775807) (hs : s.ok w0) (hsl : s.l = tokB (tagR r) ∧ s.len ≤ 4096) (hdo : DoC w0 r dl h d st of n b s now Q P) :
    Ret Tryz.prog 9 [.agg (staE (⟨r, dl, (0 : UInt64), ts, ⟨none, 0, 0, []⟩, lg, h⟩ : Sta)).toArray, .agg (oprE (⟨d, ([97] : List UInt8), of, n, 0, (0 : UInt8), b, s, now, zId⟩ : Opr)).toArray] w0 fun v w' => OutY w0 w' r dl (lg.len + 1) st P v := by
  refine ret_mk Tryz.func9 rfl Tryz.ntmps9 (by simp) ?_
  have H := Hp.refl w0 []
  refine rG ?_; refine l_op (o_box (v := .agg (staE (⟨r, dl, (0 : UInt64), ts, ⟨none, 0, 0, []⟩, lg, h⟩ : Sta)).toArray) H rfl (fun b1 w H hb1 => ?_)); replace H : Hp _ w _ ([.blk b1 (staE (⟨r, dl, (0 : UInt64), ts, ⟨none, 0, 0, []⟩, lg, h⟩ : Sta)) 30]) := H
  refine l_op (o_box (v := .agg (oprE (⟨d, ([97] : List UInt8), of, n, 0, (0 : UInt8), b, s, now, zId⟩ : Opr)).toArray) H rfl (fun b2 w H hb2 => ?_)); replace H : Hp _ w _ ([_, .blk b2 (oprE (⟨d, ([97] : List UInt8), of, n, 0, (0 : UInt8), b, s, now, zId⟩ : Opr)) 47]) := H
  refine l_op (o_alloc H zc30 (fun b3 w H hb3 => ?_)); replace H : Hp _ w _ ([_, _, .blk b3 (staE (⟨zId, 0, (0 : UInt64), ⟨none, 0, 0, []⟩, ⟨none, 0, 0, []⟩, ⟨none, 0, 0, []⟩, zId⟩ : Sta)) 30]) := H
  refine l_op (o_alloc H zc43 (fun b4 w H hb4 => ?_)); replace H : Hp _ w _ ([_, _, _, .blk b4 (ansE (⟨0, ⟨none, 0, 0, []⟩⟩ : Ans)) 43]) := H
  refine eN ?_
  refine rG ?_; refine lV (r_ldA (C := staE (⟨r, dl, (0 : UInt64), ts, ⟨none, 0, 0, []⟩, lg, h⟩ : Sta)) H (i := 0) rfl rfl rt30 (staE_len _)) ?_; refine l_op (o_callR Tryz.func17 rfl rfl rfl (htw _ (H.sub (List.nil_sublist _))) ?_); rintro _ w ⟨y5, a6, c7, hq8, rfl, Hc⟩
  replace H : Hp _ w _ ([_, _, _, _, .own (some y5.tb) 1 y5.tc (([y5.T]).flatMap tnE) 53 38, .own y5.ba y5.bn y5.bc ((y5.bl).flatMap blE) 92 33, .own y5.da y5.dn y5.dc ((y5.dl).map V8) 5 1, .own y5.sa y5.sn y5.sc ((y5.sl).flatMap snE) 95 36, .own a6 lg.len c7 ((lg.l).flatMap entE) 60 38]) := H.call Hc
  clear Hc
  refine l_op (o_alloc H zc30 (fun b9 w H hb9 => ?_)); replace H : Hp _ w _ ([_, _, _, _, _, _, _, _, _, .blk b9 (staE (⟨zId, 0, (0 : UInt64), ⟨none, 0, 0, []⟩, ⟨none, 0, 0, []⟩, ⟨none, 0, 0, []⟩, zId⟩ : Sta)) 30]) := H
  refine l_op (o_stW (C' := staE (⟨r, dl, (0 : UInt64), ⟨hd (some y5.tb), 1, y5.tc, [y5.T]⟩, ⟨none, 0, 0, []⟩, ⟨hd a6, lg.len, c7, lg.l⟩, h⟩ : Sta)) H (i := 9) rfl rfl rfl cs30 (staE_all _) (staE_len _) (staE_len _) (fun w H => ?_)); replace H : Hp _ w _ ([_, _, _, _, _, _, _, _, _, .blk b9 (staE (⟨r, dl, (0 : UInt64), ⟨hd (some y5.tb), 1, y5.tc, [y5.T]⟩, ⟨none, 0, 0, []⟩, ⟨hd a6, lg.len, c7, lg.l⟩, h⟩ : Sta)) 30]) := H
  refine eN ?_
  refine qB ?_; refine rG ?_; refine lV (r_fa rfl fo30_5) ?_; refine lV (r_l1 (v := lg.v) H (i := 0) rfl rfl ct28 (staE_c5 _)) ?_; refine lV (r_lens el28 rfl) ?_; refine lV (r_bin (a := (lg.len : Int)) (b := 4096) rfl rfl (fun _ => b_geqB false (decide_eq_false oM))) ?_; refine aZ ?_; refine eN ?_
  refine qN ?_; refine rG ?_; refine lV (r_ldA (C := oprE (⟨d, ([97] : List UInt8), of, n, 0, (0 : UInt8), b, s, now, zId⟩ : Opr)) H (i := 1) rfl rfl rt47 (oprE_len _)) ?_; refine l_op (o_callR Tryz.func19 rfl rfl rfl (mayA_ret _ (d) hdd of (n) b s (now) hmay) ?_); rintro _ w ⟨rfl, Hc⟩
  replace H : Hp _ w _ ([_, _, _, _, _, _, _, _, _, _]) := H.call Hc
  clear Hc
  refine lV (r_not rfl) ?_; refine aZ ?_; refine eN ?_
  refine qN ?_; refine c_skip ?_; refine rG ?_; refine lV (r_ldA (C := oprE (⟨d, ([97] : List UInt8), of, n, 0, (0 : UInt8), b, s, now, zId⟩ : Opr)) H (i := 1) rfl rfl rt47 (oprE_len _)) ?_; refine lV (r_bldG (Z := wrkE (⟨none, (⟨0, ([] : List UInt8), zId, 0, 0, (0 : UInt8), ⟨none, 0, 0, []⟩, ⟨none, 0, 0, []⟩, 0, zId⟩ : Opr), none, (0 : UInt64)⟩ : Wrk)) (E := wrkE (⟨(some b9), (⟨d, ([97] : List UInt8), of, n, 0, (0 : UInt8), b, s, now, zId⟩ : Opr), none, (0 : UInt64)⟩ : Wrk)) (pv := [(0, .pointer (some ⟨b9, 0, none⟩)), (1, .agg (oprE (⟨d, ([97] : List UInt8), of, n, 0, (0 : UInt8), b, s, now, zId⟩ : Opr)).toArray)]) bd75 rfl rfl (.consP rfl (wrkE_p0 _ (some b9)) rfl (.consP rfl (wrkE_p1 _ (⟨d, ([97] : List UInt8), of, n, 0, (0 : UInt8), b, s, now, zId⟩ : Opr)) rfl (.nil _)))) ?_; refine l_op (o_box (v := .agg (wrkE (⟨(some b9), (⟨d, ([97] : List UInt8), of, n, 0, (0 : UInt8), b, s, now, zId⟩ : Opr), none, (0 : UInt64)⟩ : Wrk)).toArray) H rfl (fun b10 w H hb10 => ?_)); replace H : Hp _ w _ ([_, _, _, _, _, _, _, _, _, _, .blk b10 (wrkE (⟨(some b9), (⟨d, ([97] : List UInt8), of, n, 0, (0 : UInt8), b, s, now, zId⟩ : Opr), none, (0 : UInt64)⟩ : Wrk)) 75]) := H
  refine aZ ?_; refine eN ?_
  refine rG ?_; refine mV ?_; refine l_op (o_callR Tryz.func20 rfl rfl rfl (pass2_ret _ b10 b9 y5.tb y5.tc r dl h (⟨hd a6, lg.len, c7, lg.l⟩) y5.T (hQn y5 hq8) d hdd of (n) b s (now) hnow (hs.up H (fun _ => apart_nil _)) (hs.apP H ((perm_front (j := 10) rfl).trans (.cons _ ((perm_front (j := 9) rfl).trans (.cons _ ((perm_front (j := 4) rfl).trans (.cons _ (.refl _))))))) rfl) hsl (H.ownP ((perm_front (j := 10) rfl).trans (.cons _ ((perm_front (j := 9) rfl).trans (.cons _ ((perm_front (j := 4) rfl).trans (.cons _ (.refl _))))))) rfl)) ?_); rintro _ w ⟨rfl, Hc⟩
  replace H := H.callP ((perm_front (j := 10) rfl).trans (.cons _ ((perm_front (j := 9) rfl).trans (.cons _ ((perm_front (j := 4) rfl).trans (.cons _ (.refl _))))))) rfl Hc ((perm_front (j := 0) rfl).trans (.cons _ ((perm_front (j := 0) rfl).trans (.cons _ ((perm_front (j := 0) rfl).trans (.cons _ ((perm_front (j := 0) rfl).trans (.cons _ ((perm_front (j := 6) rfl).trans (.cons _ ((perm_front (j := 0) rfl).trans (.cons _ ((perm_front (j := 0) rfl).trans (.cons _ ((perm_front (j := 0) rfl).trans (.cons _ ((perm_front (j := 0) rfl).trans (.cons _ ((perm_front (j := 1) rfl).trans (.cons _ (.refl _)))))))))))))))))))))
  clear Hc
  replace H : Hp _ w _ ([_, _, _, _, _, _, _, _, _, _, .blk b10 (wrkE (⟨(some b9), (⟨d, ([97] : List UInt8), of, n, 0, (0 : UInt8), b, s, now, zId⟩ : Opr), (some y5.tb), (0 : UInt64)⟩ : Wrk)) 75]) := H
  refine l_op (o_alloc H zc43 (fun b11 w H hb11 => ?_)); replace H : Hp _ w _ ([_, _, _, _, _, _, _, _, _, _, _, .blk b11 (ansE (⟨0, ⟨none, 0, 0, []⟩⟩ : Ans)) 43]) := H
  refine l_op (o_stW (C' := ansE (⟨0, ⟨none, 0, 0, []⟩⟩ : Ans)) H (i := 11) rfl rfl rfl cs43 (ansE_all _) (ansE_len _) (ansE_len _) (fun w H => ?_)); replace H : Hp _ w _ [_, _, _, _, _, _, _, _, _, _, _, _] := H
  refine eN ?_
  refine rG ?_; refine lV (r_fa rfl fo43_0) ?_; refine lV (r_l1 (v := VI 0) H (i := 11) rfl rfl ct3 (ansE_c0 _)) ?_; refine lV (r_bin (a := 0) (b := 0) rfl rfl (fun _ => b_eqlB true (decide_eq_true (by decide)))) ?_; refine eN ?_
  refine qY ?_; refine rG ?_; refine mV ?_; refine l_op (o_callR Tryz.func21 rfl rfl rfl (hdo _ b10 b9 y5 (⟨hd a6, lg.len, c7, lg.l⟩) hq8 (H.subP ((perm_front (j := 10) rfl).trans (.cons _ ((perm_front (j := 9) rfl).trans (.cons _ ((perm_front (j := 4) rfl).trans (.cons _ ((perm_front (j := 4) rfl).trans (.cons _ ((perm_front (j := 4) rfl).trans (.cons _ ((perm_front (j := 4) rfl).trans (.cons _ (.refl _))))))))))))) rfl)) ?_); rintro _ w ⟨y12, bd13, hp14, rfl, Hc⟩
  replace H := H.callP ((perm_front (j := 10) rfl).trans (.cons _ ((perm_front (j := 9) rfl).trans (.cons _ ((perm_front (j := 4) rfl).trans (.cons _ ((perm_front (j := 4) rfl).trans (.cons _ ((perm_front (j := 4) rfl).trans (.cons _ ((perm_front (j := 4) rfl).trans (.cons _ (.refl _))))))))))))) rfl Hc ((perm_front (j := 0) rfl).trans (.cons _ ((perm_front (j := 0) rfl).trans (.cons _ ((perm_front (j := 0) rfl).trans (.cons _ ((perm_front (j := 0) rfl).trans (.cons _ ((perm_front (j := 4) rfl).trans (.cons _ ((perm_front (j := 4) rfl).trans (.cons _ ((perm_front (j := 4) rfl).trans (.cons _ ((perm_front (j := 4) rfl).trans (.cons _ ((perm_front (j := 0) rfl).trans (.cons _ ((perm_front (j := 2) rfl).trans (.cons _ ((perm_front (j := 1) rfl).trans (.cons _ (.refl _)))))))))))))))))))))))
  clear Hc
  replace H : Hp _ w _ ([_, _, _, _, .own (some y12.tb) 1 y12.tc (([y12.T]).flatMap tnE) 53 38, .own y12.ba y12.bn y12.bc ((y12.bl).flatMap blE) 92 33, .own y12.da y12.dn y12.dc ((y12.dl).map V8) 5 1, .own y12.sa y12.sn y12.sc ((y12.sl).flatMap snE) 95 36, _, .blk b9 (staE (⟨r, dl, (0 : UInt64), ⟨hd (some y12.tb), 1, y12.tc, [y12.T]⟩, ⟨none, 0, 0, []⟩, ⟨hd a6, lg.len, c7, lg.l⟩, h⟩ : Sta)) 30, _, _]) := H
  refine l_op (o_stW (C' := ansE (⟨st, bd13⟩ : Ans)) H (i := 11) rfl rfl rfl cs43 (ansE_all _) (ansE_len _) (ansE_len _) (fun w H => ?_)); replace H : Hp _ w _ ([_, _, _, _, _, _, _, _, _, _, _, .blk b11 (ansE (⟨st, bd13⟩ : Ans)) 43]) := H
  refine eN ?_
  repeat refine c_seq ?_
  refine heldH H mixed fun H => ?_
  have HS := H
  refine tK 0 rfl (fun w HS => r_fa rfl fo30_5) HS ?_; refine tK 1 rfl (fun w HS => r_l1 (v := lg.v) HS (i := 0) rfl rfl ct28 (staE_c5 _)) HS ?_; refine tK 2 rfl (fun w HS => r_lens el28 rfl) HS ?_; refine tK 3 rfl (fun w HS => r_fa rfl fo47_8) HS ?_; refine tK 4 rfl (fun w HS => r_l1 (v := VI now) HS (i := 1) rfl rfl ct2 (oprE_c8 _)) HS ?_; refine tK 5 rfl (fun w HS => r_mv) HS ?_; refine tK 6 rfl (fun w HS => r_nilc rfl) HS ?_; refine tK 7 rfl (fun w HS => r_fa rfl fo75_3) HS ?_; refine tK 8 rfl (fun w HS => r_l1 (v := V64 (0 : UInt64)) HS (i := 10) rfl rfl ct25 (wrkE_c3 _)) HS ?_; refine tK 9 rfl (fun w HS => r_fa rfl fo47_1) HS ?_; refine tK 10 rfl (fun w HS => r_l1 (v := .string ⟨(([97] : List UInt8)).toArray⟩) HS (i := 1) rfl rfl ct9 (oprE_c1 _)) HS ?_; refine tK 11 rfl (fun w HS => r_fa rfl fo47_0) HS ?_; refine tK 12 rfl (fun w HS => r_l1 (v := VI d) HS (i := 1) rfl rfl ct3 (oprE_c0 _)) HS ?_; refine tK 13 rfl (fun w HS => r_fa rfl fo43_0) HS ?_; refine tK 14 rfl (fun w HS => r_l1 (v := VI st) HS (i := 11) rfl rfl ct3 (ansE_c0 _)) HS ?_; refine tK 15 rfl (fun w HS => r_fa rfl fo47_2) HS ?_; refine tK 16 rfl (fun w HS => r_lk HS (i := 1) rfl rfl rt24 (oprE_c2 _)) HS ?_; refine tK 17 rfl (fun w HS => r_bldT (pv := [(0, VI (lg.len : Int)), (1, VI now), (2, V64 (0 : UInt64)), (3, .string ⟨(([97] : List UInt8)).toArray⟩), (4, VI d), (5, VI st), (6, .agg ((of.1).map V8).toArray)]) (pre := [VI (lg.len : Int), VI now, V64 (0 : UInt64), .string ⟨(([97] : List UInt8)).toArray⟩, VI d, VI st]) (l := of.1) bd60 rfl rfl rfl rfl rfl rfl rfl (show (of.1).length = 32 from of.2)) HS ?_; refine tU 18 rfl (o_alloc H zc60 (fun b15 w H hb15 => ?_)); replace H : Hp _ w _ ([_, _, _, _, _, _, _, _, _, _, _, _, .blk b15 ([VI 0, VI 0, V64 (0 : UInt64), .string ⟨(([] : List UInt8)).toArray⟩, VI 0, VI 0] ++ (List.replicate 32 (0 : UInt8)).map V8) 60]) := H
  replace HS := H.sub (.cons_cons _ (.cons_cons _ (.cons_cons _ (.cons_cons _ (.cons_cons _ (.cons_cons _ (.cons_cons _ (.cons_cons _ (.cons_cons _ (.cons_cons _ (.cons_cons _ (.cons_cons _ (List.nil_sublist _)))))))))))))
  refine ⟨HS, ?_⟩
  refine tU 19 rfl (o_stW (C' := [VI (lg.len : Int), VI now, V64 (0 : UInt64), .string ⟨(([97] : List UInt8)).toArray⟩, VI d, VI st] ++ (of.1).map V8) H (i := 12) rfl rfl rfl cs60 (by simp [Value.oneCell']) (by rw [List.length_append, List.length_map, (show (List.replicate 32 (0 : UInt8)).length = 32 from (List.length_replicate ..))]; rfl) (by rw [List.length_append, List.length_map, (show (of.1).length = 32 from of.2)]; rfl) (fun w H => ?_)); replace H : Hp _ w _ ([_, _, _, _, _, _, _, _, _, _, _, _, .blk b15 ([VI (lg.len : Int), VI now, V64 (0 : UInt64), .string ⟨(([97] : List UInt8)).toArray⟩, VI d, VI st] ++ (of.1).map V8) 60]) := H
  replace HS := H.sub (.cons_cons _ (.cons_cons _ (.cons_cons _ (.cons_cons _ (.cons_cons _ (.cons_cons _ (.cons_cons _ (.cons_cons _ (.cons_cons _ (.cons_cons _ (.cons_cons _ (.cons_cons _ (List.nil_sublist _)))))))))))))
  refine ⟨HS, ?_⟩
  refine t_done (by kernel_rfl) ?_
  clear HS
  refine rG ?_; refine lV (r_fa rfl fo30_6) ?_; refine lV (r_lk H (i := 0) rfl rfl rt24 (staE_c6 _)) ?_; refine lV (r_ldA (C := [VI (lg.len : Int), VI now, V64 (0 : UInt64), .string ⟨(([97] : List UInt8)).toArray⟩, VI d, VI st] ++ (of.1).map V8) H (i := 12) rfl rfl rt60 (by rw [List.length_append, List.length_map, (show (of.1).length = 32 from of.2)]; rfl)) ?_; have hk16 : (mayE (⟨(lg.len : Int), now, (0 : UInt64), ([97] : List UInt8), d, st, of.1⟩ : Ent)) = true := ((mayE_iff _).2 (by refine ⟨?_, ?_, ?_, ?_, ?_, ?_, ?_⟩ <;> first | (dsimp only; omega) | exact Nat.zero_le _ | (show (1 : Nat) ≤ 16; omega)))
  refine l_op (o_callR Tryz.func22 rfl rfl rfl (aLink_ok _ (h.1) (show (h.1).length = 32 from h.2) (⟨(lg.len : Int), now, (0 : UInt64), ([97] : List UInt8), d, st, of.1⟩ : Ent) (show (of.1).length = 32 from of.2) ⟨by dsimp only; omega, by dsimp only; omega⟩ hk16) ?_); rintro _ w ⟨rfl, Hc⟩
  replace H : Hp _ w _ ([_, _, _, _, _, _, _, _, _, _, _, _, _]) := H.call Hc
  clear Hc
  refine mV ?_; refine lV (r_ext rfl rfl) ?_; refine lV (r_ext rfl rfl) ?_; refine lV (r_fa rfl fo30_6) ?_; refine l_op (o_skP (C' := staE (⟨r, dl, (0 : UInt64), ⟨hd (some y12.tb), 1, y12.tc, [y12.T]⟩, ⟨none, 0, 0, []⟩, ⟨hd a6, lg.len, c7, lg.l⟩, (⟨linkF (h.1) (⟨(lg.len : Int), now, (0 : UInt64), ([97] : List UInt8), d, st, of.1⟩ : Ent), (show (linkF (h.1) (⟨(lg.len : Int), now, (0 : UInt64), ([97] : List UInt8), d, st, of.1⟩ : Ent)).length = 32 from (linkF_len _ _))⟩ : Id32)⟩ : Sta)) (V := (linkF (h.1) (⟨(lg.len : Int), now, (0 : UInt64), ([97] : List UInt8), d, st, of.1⟩ : Ent)).map V8) H (i := 9) rfl rfl rfl cs24 (by first | (simp [Value.oneCell', List.all_map]; done) | (simp only [List.all_map]; simp [Value.oneCell', Function.comp_def])) (staE_p6 _ (⟨linkF (h.1) (⟨(lg.len : Int), now, (0 : UInt64), ([97] : List UInt8), d, st, of.1⟩ : Ent), (show (linkF (h.1) (⟨(lg.len : Int), now, (0 : UInt64), ([97] : List UInt8), d, st, of.1⟩ : Ent)).length = 32 from (linkF_len _ _))⟩ : Id32)) (fun w H => ?_)); replace H : Hp _ w _ ([_, _, _, _, _, _, _, _, _, .blk b9 (staE (⟨r, dl, (0 : UInt64), ⟨hd (some y12.tb), 1, y12.tc, [y12.T]⟩, ⟨none, 0, 0, []⟩, ⟨hd a6, lg.len, c7, lg.l⟩, (⟨linkF (h.1) (⟨(lg.len : Int), now, (0 : UInt64), ([97] : List UInt8), d, st, of.1⟩ : Ent), (show (linkF (h.1) (⟨(lg.len : Int), now, (0 : UInt64), ([97] : List UInt8), d, st, of.1⟩ : Ent)).length = 32 from (linkF_len _ _))⟩ : Id32)⟩ : Sta)) 30, _, _, _]) := H
  refine eN ?_
  refine rG ?_; refine lV (r_fa rfl fo30_5) ?_; refine lV (r_l1 (v := .slice (hd a6) lg.len c7) H (i := 9) rfl rfl ct28 (staE_c5 _)) ?_; refine lV (r_ldA (C := [VI (lg.len : Int), VI now, V64 (0 : UInt64), .string ⟨(([97] : List UInt8)).toArray⟩, VI d, VI st] ++ (of.1).map V8) H (i := 12) rfl rfl rt60 (by rw [List.length_append, List.length_map, (show (of.1).length = 32 from of.2)]; rfl)) ?_; refine l_op (o_bslG1 (enc := entE) ((⟨(lg.len : Int), now, (0 : UInt64), ([97] : List UInt8), d, st, of.1⟩ : Ent)) H sl28 zc60 (by rfl) (by decide) (by decide) rfl (ent_len (show (of.1).length = 32 from of.2)) (fun b17 w H hb17 => ?_)); replace H : Hp _ w _ ([_, _, _, _, _, _, _, _, _, _, _, _, _, .own (some b17) 1 1 (([(⟨(lg.len : Int), now, (0 : UInt64), ([97] : List UInt8), d, st, of.1⟩ : Ent)]).flatMap entE) 60 38]) := H
  refine l_op (o_appG (enc := entE) (s := ⟨hd (some b17), 1, 1, [(⟨(lg.len : Int), now, (0 : UInt64), ([97] : List UInt8), d, st, of.1⟩ : Ent)]⟩) (l' := lg.l ++ ([(⟨(lg.len : Int), now, (0 : UInt64), ([97] : List UInt8), d, st, of.1⟩ : Ent)])) (len' := lg.len + 1) rfl rfl H (i := 8) rfl sl28 Tryz.underlying28 rfl rfl (H.glOwn (i := 13) rfl (by decide) (fun c hc => by rw [List.mem_singleton.1 hc]; exact (ent_len (show (of.1).length = 32 from of.2)))) (by decide) (fun c _ => ent_all c) oM (by decide) (fun a18 c19 w H => ?_)); replace H : Hp _ w _ ([_, _, _, _, _, _, _, _, .own a18 (lg.len + 1) c19 ((lg.l ++ ([(⟨(lg.len : Int), now, (0 : UInt64), ([97] : List UInt8), d, st, of.1⟩ : Ent)])).flatMap entE) 60 38, _, _, _, _, _]) := H
  refine lV (r_fa rfl fo30_5) ?_; refine l_op (o_s1P (C' := staE (⟨r, dl, (0 : UInt64), ⟨hd (some y12.tb), 1, y12.tc, [y12.T]⟩, ⟨none, 0, 0, []⟩, ⟨hd a18, lg.len + 1, c19, lg.l ++ ([(⟨(lg.len : Int), now, (0 : UInt64), ([97] : List UInt8), d, st, of.1⟩ : Ent)])⟩, (⟨linkF (h.1) (⟨(lg.len : Int), now, (0 : UInt64), ([97] : List UInt8), d, st, of.1⟩ : Ent), (show (linkF (h.1) (⟨(lg.len : Int), now, (0 : UInt64), ([97] : List UInt8), d, st, of.1⟩ : Ent)).length = 32 from (linkF_len _ _))⟩ : Id32)⟩ : Sta)) (u := .slice (hd a18) (lg.len + 1) c19) H (i := 9) rfl rfl rfl cs28 rfl (staE_p5 _ (⟨hd a18, lg.len + 1, c19, lg.l ++ ([(⟨(lg.len : Int), now, (0 : UInt64), ([97] : List UInt8), d, st, of.1⟩ : Ent)])⟩)) (fun w H => ?_)); replace H : Hp _ w _ ([_, _, _, _, _, _, _, _, _, .blk b9 (staE (⟨r, dl, (0 : UInt64), ⟨hd (some y12.tb), 1, y12.tc, [y12.T]⟩, ⟨none, 0, 0, []⟩, ⟨hd a18, lg.len + 1, c19, lg.l ++ ([(⟨(lg.len : Int), now, (0 : UInt64), ([97] : List UInt8), d, st, of.1⟩ : Ent)])⟩, (⟨linkF (h.1) (⟨(lg.len : Int), now, (0 : UInt64), ([97] : List UInt8), d, st, of.1⟩ : Ent), (show (linkF (h.1) (⟨(lg.len : Int), now, (0 : UInt64), ([97] : List UInt8), d, st, of.1⟩ : Ent)).length = 32 from (linkF_len _ _))⟩ : Id32)⟩ : Sta)) 30, _, _, _, _]) := H
  refine eN ?_
  repeat refine c_seq ?_
  refine heldS H (H.sub (.cons_cons _ (.cons_cons _ (.cons _ (.cons _ (.cons_cons _ (.cons_cons _ (.cons_cons _ (.cons_cons _ (.cons_cons _ (.cons_cons _ (.cons_cons _ (.cons_cons _ (.cons_cons _ (.cons_cons _ (List.nil_sublist _)))))))))))))))) mixed fun H HS => ?_
  refine tK 0 rfl (fun w HS => r_ldA (C := staE (⟨r, dl, (0 : UInt64), ⟨hd (some y12.tb), 1, y12.tc, [y12.T]⟩, ⟨none, 0, 0, []⟩, ⟨hd a18, lg.len + 1, c19, lg.l ++ ([(⟨(lg.len : Int), now, (0 : UInt64), ([97] : List UInt8), d, st, of.1⟩ : Ent)])⟩, (⟨linkF (h.1) (⟨(lg.len : Int), now, (0 : UInt64), ([97] : List UInt8), d, st, of.1⟩ : Ent), (show (linkF (h.1) (⟨(lg.len : Int), now, (0 : UInt64), ([97] : List UInt8), d, st, of.1⟩ : Ent)).length = 32 from (linkF_len _ _))⟩ : Id32)⟩ : Sta)) HS (i := 7) rfl rfl rt30 (staE_len _)) HS ?_; refine tK 1 rfl (fun w HS => r_ldA (C := ansE (⟨st, bd13⟩ : Ans)) HS (i := 9) rfl rfl rt43 (ansE_len _)) HS ?_; refine tU 2 rfl (o_stW (C' := staE (⟨r, dl, (0 : UInt64), ⟨hd (some y12.tb), 1, y12.tc, [y12.T]⟩, ⟨none, 0, 0, []⟩, ⟨hd a18, lg.len + 1, c19, lg.l ++ ([(⟨(lg.len : Int), now, (0 : UInt64), ([97] : List UInt8), d, st, of.1⟩ : Ent)])⟩, (⟨linkF (h.1) (⟨(lg.len : Int), now, (0 : UInt64), ([97] : List UInt8), d, st, of.1⟩ : Ent), (show (linkF (h.1) (⟨(lg.len : Int), now, (0 : UInt64), ([97] : List UInt8), d, st, of.1⟩ : Ent)).length = 32 from (linkF_len _ _))⟩ : Id32)⟩ : Sta)) H (i := 2) rfl rfl rfl cs30 (staE_all _) (staE_len _) (staE_len _) (fun w H => ?_)); replace H : Hp _ w _ ([_, _, .blk b3 (staE (⟨r, dl, (0 : UInt64), ⟨hd (some y12.tb), 1, y12.tc, [y12.T]⟩, ⟨none, 0, 0, []⟩, ⟨hd a18, lg.len + 1, c19, lg.l ++ ([(⟨(lg.len : Int), now, (0 : UInt64), ([97] : List UInt8), d, st, of.1⟩ : Ent)])⟩, (⟨linkF (h.1) (⟨(lg.len : Int), now, (0 : UInt64), ([97] : List UInt8), d, st, of.1⟩ : Ent), (show (linkF (h.1) (⟨(lg.len : Int), now, (0 : UInt64), ([97] : List UInt8), d, st, of.1⟩ : Ent)).length = 32 from (linkF_len _ _))⟩ : Id32)⟩ : Sta)) 30, _, _, _, _, _, _, _, _, _, _, _]) := H
  replace HS := H.sub (.cons_cons _ (.cons_cons _ (.cons _ (.cons _ (.cons_cons _ (.cons_cons _ (.cons_cons _ (.cons_cons _ (.cons_cons _ (.cons_cons _ (.cons_cons _ (.cons_cons _ (.cons_cons _ (.cons_cons _ (List.nil_sublist _)))))))))))))))
  refine ⟨HS, ?_⟩
  refine tU 3 rfl (o_stW (C' := ansE (⟨st, bd13⟩ : Ans)) H (i := 3) rfl rfl rfl cs43 (ansE_all _) (ansE_len _) (ansE_len _) (fun w H => ?_)); replace H : Hp _ w _ ([_, _, _, .blk b4 (ansE (⟨st, bd13⟩ : Ans)) 43, _, _, _, _, _, _, _, _, _, _]) := H
  replace HS := H.sub (.cons_cons _ (.cons_cons _ (.cons _ (.cons _ (.cons_cons _ (.cons_cons _ (.cons_cons _ (.cons_cons _ (.cons_cons _ (.cons_cons _ (.cons_cons _ (.cons_cons _ (.cons_cons _ (.cons_cons _ (List.nil_sublist _)))))))))))))))
  refine ⟨HS, ?_⟩
  refine t_done (by kernel_rfl) ?_
  clear HS
  refine cR ?_
  refine e_retN (vs := [.agg (staE (⟨r, dl, (0 : UInt64), ⟨hd (some y12.tb), 1, y12.tc, [y12.T]⟩, ⟨none, 0, 0, []⟩, ⟨hd a18, lg.len + 1, c19, lg.l ++ ([(⟨(lg.len : Int), now, (0 : UInt64), ([97] : List UInt8), d, st, of.1⟩ : Ent)])⟩, (⟨linkF (h.1) (⟨(lg.len : Int), now, (0 : UInt64), ([97] : List UInt8), d, st, of.1⟩ : Ent), (show (linkF (h.1) (⟨(lg.len : Int), now, (0 : UInt64), ([97] : List UInt8), d, st, of.1⟩ : Ent)).length = 32 from (linkF_len _ _))⟩ : Id32)⟩ : Sta)).toArray, .agg (ansE (⟨st, bd13⟩ : Ans)).toArray]) _ Tryz.results9 rfl (H.resR (C := staE (⟨r, dl, (0 : UInt64), ⟨hd (some y12.tb), 1, y12.tc, [y12.T]⟩, ⟨none, 0, 0, []⟩, ⟨hd a18, lg.len + 1, c19, lg.l ++ ([(⟨(lg.len : Int), now, (0 : UInt64), ([97] : List UInt8), d, st, of.1⟩ : Ent)])⟩, (⟨linkF (h.1) (⟨(lg.len : Int), now, (0 : UInt64), ([97] : List UInt8), d, st, of.1⟩ : Ent), (show (linkF (h.1) (⟨(lg.len : Int), now, (0 : UInt64), ([97] : List UInt8), d, st, of.1⟩ : Ent)).length = 32 from (linkF_len _ _))⟩ : Id32)⟩ : Sta)) (i := 2) rfl rfl rt30 (staE_len _) (H.resR (C := ansE (⟨st, bd13⟩ : Ans)) (i := 3) rfl rfl rt43 (ansE_len _) (resZ))) ?_
  refine ⟨_, rfl, ?_⟩
  exact ⟨y12, _, _, _, _, _, hp14, ent_snoc hlg.sz (ent_len of.2), rfl, (H.permL ((perm_front (j := 4) rfl).trans (.cons _ ((perm_front (j := 4) rfl).trans (.cons _ ((perm_front (j := 4) rfl).trans (.cons _ ((perm_front (j := 4) rfl).trans (.cons _ ((perm_front (j := 4) rfl).trans (.cons _ (.refl _)))))))))))).sub (.cons_cons _ (.cons_cons _ (.cons_cons _ (.cons_cons _ (.cons_cons _ (List.nil_sublist _))))))⟩
end Go.Proofs.YtmiabahejnjhiaaGreatDoor
namespace Go.Proofs.YtmiabahejnjhiaaGreatDoor
open Go
set_option maxRecDepth 100000
/-- a tenant with nothing in it. -/
def ShA (key : Id32) (y : Sh) : Prop := y.T = (⟨[97], key, 1000, 1, ⟨none, 0, 0, []⟩, ⟨none, 0, 0, []⟩, ⟨none, 0, 0, []⟩⟩ : Tn)
/-- a tenant with one blob, and these snapshots. -/
def ShB (key of : Id32) (nx : Int) (sn : List Sn) (y : Sh) : Prop := ∃ tb tc ba bc da dc sa sc, y = (⟨tb, tc, (⟨[97], key, 1000, nx, ⟨hd ba, 1, bc, [⟨of, ⟨hd da, 3, dc, [68, 49, 0]⟩⟩]⟩, ⟨hd sa, sn.length, sc, sn⟩, ⟨none, 0, 0, []⟩⟩ : Tn), ba, 1, bc, [⟨of, ⟨hd da, 3, dc, [68, 49, 0]⟩⟩], da, 3, dc, [68, 49, 0], sa, sn.length, sc, sn⟩ : Sh)
theorem cln35_ret (w0 : World) :
    Ret Tryz.prog 35 [.slice none 0 0] w0 fun v w' => v = .slice none 0 0 ∧ Hp w0 w' [] [] := by
  refine ret_mk Tryz.func35 rfl Tryz.ntmps35 (by simp) ?_
  have H := Hp.refl w0 []
  refine rG ?_; refine aZ ?_; refine eN ?_
  refine rG ?_; refine mV ?_; refine lV (r_slnil Tryz.underlying49 (by kernel_rfl) rfl rfl) ?_; refine eN ?_
  refine qY ?_; refine rG ?_; refine aZ ?_; refine eN ?_
  refine cR ?_
  refine e_ret1 (v := .slice none 0 0) Tryz.results35 rfl ?_
  refine ⟨_, rfl, ?_⟩
  exact ⟨rfl, H.sub (List.nil_sublist _)⟩
theorem cln36_ret (w0 : World) :
    Ret Tryz.prog 36 [.slice none 0 0] w0 fun v w' => v = .slice none 0 0 ∧ Hp w0 w' [] [] := by
  refine ret_mk Tryz.func36 rfl Tryz.ntmps36 (by simp) ?_
  have H := Hp.refl w0 []
  refine rG ?_; refine aZ ?_; refine eN ?_
  refine rG ?_; refine mV ?_; refine lV (r_slnil Tryz.underlying50 (by kernel_rfl) rfl rfl) ?_; refine eN ?_
  refine qY ?_; refine rG ?_; refine aZ ?_; refine eN ?_
  refine cR ?_
  refine e_ret1 (v := .slice none 0 0) Tryz.results36 rfl ?_
  refine ⟨_, rfl, ?_⟩
  exact ⟨rfl, H.sub (List.nil_sublist _)⟩
theorem cln37_ret (w0 : World) :
    Ret Tryz.prog 37 [.slice none 0 0] w0 fun v w' => v = .slice none 0 0 ∧ Hp w0 w' [] [] := by
  refine ret_mk Tryz.func37 rfl Tryz.ntmps37 (by simp) ?_
  have H := Hp.refl w0 []
  refine rG ?_; refine aZ ?_; refine eN ?_
  refine rG ?_; refine mV ?_; refine lV (r_slnil Tryz.underlying51 (by kernel_rfl) rfl rfl) ?_; refine eN ?_
  refine qY ?_; refine rG ?_; refine aZ ?_; refine eN ?_
  refine cR ?_
  refine e_ret1 (v := .slice none 0 0) Tryz.results37 rfl ?_
  refine ⟨_, rfl, ?_⟩
  exact ⟨rfl, H.sub (List.nil_sublist _)⟩
theorem bclone_ret (w0 : World) (s : Sl) (hs : s.ok w0) (hm : s.len ≤ 1048576) :
    Ret Tryz.prog 38 [s.v] w0 fun v w' => ∃ a c, v = .slice (hd a) s.l.length c ∧ Hp w0 w' [] [.own a s.l.length c (s.l.map V8) 5 1] := by
  refine ret_mk Tryz.func38 rfl Tryz.ntmps38 (by simp) ?_
  have H := Hp.refl w0 []
  have hsl := hs.ln
  have hle := hs.le
  refine rG ?_; refine aZ ?_; refine eN ?_
  refine rG ?_; refine mV ?_; refine lV (r_slnil Tryz.underlying33 (by kernel_rfl) rfl rfl) ?_; refine eN ?_
  have hc10 := Bool.eq_false_or_eq_true (s.a.isNone)
  rcases hc10 with hc1 | hc1
  ·
   repeat refine c_seq ?_
   refine c_yes (by exact congrArg Value.bool hc1) ?_; refine rG ?_; refine aZ ?_; refine eN ?_
   refine cR ?_
   refine e_ret1 (v := .slice none 0 0) Tryz.results38 rfl ?_
   refine ⟨_, rfl, ?_⟩
   have h0 : s.a = none := by have := (hc1); simpa using this
   have hr0 : s.l = [] := by rcases hs.rd with h | ⟨b, o, C, T, fr, ha, _⟩; (cases hl : s.l with | nil => rfl | cons x xs => rw [hl] at h; cases h); rw [h0] at ha; cases ha
   rw [hr0]
   exact ⟨none, 0, rfl, H.nilEnd 5 1⟩
  ·
   repeat refine c_seq ?_
   refine c_no (by exact congrArg Value.bool hc1) ?_; refine c_skip ?_; refine rG ?_; refine l_op (o_bslB (([] : List UInt8)) H sl33 zc5 rfl rfl (by decide) (fun b2 w H hb2 => ?_)); replace H : Hp _ w _ ([.own (some b2) 0 0 ((([] : List UInt8)).map V8) 5 1]) := H
   refine mV ?_; refine l_op (o_appB (s := s) (l' := s.l) (len' := s.len) rfl (Nat.zero_add _) H (i := 0) rfl sl33 Tryz.underlying33 rfl rfl (hs.up H (fun _ => apart_nil _)) oM (fun a3 c4 w H => ?_)); replace H : Hp _ w _ ([.own a3 s.len c4 ((s.l).map V8) 5 1]) := H
   refine aZ ?_; refine eN ?_
   refine cR ?_
   refine e_ret1 (v := .slice (hd a3) s.len c4) Tryz.results38 rfl ?_
   refine ⟨_, rfl, ?_⟩
   have e2 : s.len = s.l.length := by rw [hs.ln]
   have e1 : s.l = s.l := by first | rfl | rw [List.nil_append]
   rw [e1, e2] at H
   exact ⟨_, _, (by first | rfl | rw [e2]), H.sub (.cons_cons _ (List.nil_sublist _))⟩
theorem twinA_ret (w0 : World) (ta : Option Nat) (tc : Nat) (r : Id32) (dl : Int) (h key : Id32) (lg : Gl Ent) (hlg : lg.ok entE 38 w0) (hln : lg.a.isNone = false) (hlm : lg.len ≤ 4096) (hts : (⟨hd ta, 1, tc, [(⟨[97], key, 1000, 1, ⟨none, 0, 0, []⟩, ⟨none, 0, 0, []⟩, ⟨none, 0, 0, []⟩⟩ : Tn)]⟩ : Gl Tn).ok tnE 38 w0) :
    Ret Tryz.prog 17 [.agg (staE (⟨r, dl, (0 : UInt64), (⟨hd ta, 1, tc, [(⟨[97], key, 1000, 1, ⟨none, 0, 0, []⟩, ⟨none, 0, 0, []⟩, ⟨none, 0, 0, []⟩⟩ : Tn)]⟩ : Gl Tn), ⟨none, 0, 0, []⟩, lg, h⟩ : Sta)).toArray] w0 fun v w' => ∃ (y : Sh) (a : Option Nat) (k : Nat), ShA key y ∧ v = .agg (staE (⟨r, dl, 0, ⟨some ⟨y.tb, 0, none⟩, 1, y.tc, [y.T]⟩, ⟨none, 0, 0, []⟩, ⟨hd a, lg.len, k, lg.l⟩, h⟩ : Sta)).toArray ∧ Hp w0 w' [] [.own (some y.tb) 1 y.tc (([y.T]).flatMap tnE) 53 38, .own y.ba y.bn y.bc ((y.bl).flatMap blE) 92 33, .own y.da y.dn y.dc ((y.dl).map V8) 5 1, .own y.sa y.sn y.sc ((y.sl).flatMap snE) 95 36, .own a lg.len k ((lg.l).flatMap entE) 60 38] := by
  refine ret_mk Tryz.func17 rfl Tryz.ntmps17 (by simp) ?_
  have H := Hp.refl w0 []
  refine rG ?_; refine l_op (o_box (v := .agg (staE (⟨r, dl, (0 : UInt64), (⟨hd ta, 1, tc, [(⟨[97], key, 1000, 1, ⟨none, 0, 0, []⟩, ⟨none, 0, 0, []⟩, ⟨none, 0, 0, []⟩⟩ : Tn)]⟩ : Gl Tn), ⟨none, 0, 0, []⟩, lg, h⟩ : Sta)).toArray) H rfl (fun b1 w H hb1 => ?_)); replace H : Hp _ w _ ([.blk b1 (staE (⟨r, dl, (0 : UInt64), (⟨hd ta, 1, tc, [(⟨[97], key, 1000, 1, ⟨none, 0, 0, []⟩, ⟨none, 0, 0, []⟩, ⟨none, 0, 0, []⟩⟩ : Tn)]⟩ : Gl Tn), ⟨none, 0, 0, []⟩, lg, h⟩ : Sta)) 30]) := H
  refine l_op (o_alloc H zc30 (fun b2 w H hb2 => ?_)); replace H : Hp _ w _ ([_, .blk b2 (staE (⟨zId, 0, (0 : UInt64), ⟨none, 0, 0, []⟩, ⟨none, 0, 0, []⟩, ⟨none, 0, 0, []⟩, zId⟩ : Sta)) 30]) := H
  refine eN ?_
  repeat refine c_seq ?_
  refine heldZ H (fun j => Nat.ble 9 j) mixed fun H => ?_
  have HS := H
  refine zA 0 rfl (fun w => r_fa rfl fo30_3) ?_; refine zT 1 rfl (fun w HS => r_l1 (v := (⟨hd ta, 1, tc, [(⟨[97], key, 1000, 1, ⟨none, 0, 0, []⟩, ⟨none, 0, 0, []⟩, ⟨none, 0, 0, []⟩⟩ : Tn)]⟩ : Gl Tn).v) HS (i := 0) rfl rfl ct26 (staE_c3 _)) HS ?_; refine zA 3 rfl (fun w => r_fa rfl fo30_4) ?_; refine zT 4 rfl (fun w HS => r_l1 (v := .slice none 0 0) HS (i := 0) rfl rfl ct27 (staE_c4 _)) HS ?_; refine zA 6 rfl (fun w => r_fa rfl fo30_5) ?_; refine zT 7 rfl (fun w HS => r_l1 (v := lg.v) HS (i := 0) rfl rfl ct28 (staE_c5 _)) HS ?_; refine zU 2 rfl (o_callR Tryz.func32 rfl rfl rfl (cluT_ret _ (⟨hd ta, 1, tc, [(⟨[97], key, 1000, 1, ⟨none, 0, 0, []⟩, ⟨none, 0, 0, []⟩, ⟨none, 0, 0, []⟩⟩ : Tn)]⟩ : Gl Tn) (hts.up H) (by (try dsimp only); omega)) ?_); rintro _ w ⟨a3, c4, rfl, Hc⟩
  replace H : Hp _ w _ ([_, _, .own a3 1 c4 (([(⟨[97], key, 1000, 1, ⟨none, 0, 0, []⟩, ⟨none, 0, 0, []⟩, ⟨none, 0, 0, []⟩⟩ : Tn)]).flatMap tnE) 53 38]) := H.call Hc
  clear Hc
  replace HS := H.sub (.cons_cons _ (.cons_cons _ (List.nil_sublist _)))
  refine ⟨fun _ _ => HS, ?_⟩
  refine zA 9 rfl (fun w => r_fa rfl fo30_3) ?_; refine zU 5 rfl (o_callR Tryz.func33 rfl rfl rfl (cln33_ret _) ?_); rintro _ w ⟨rfl, Hc⟩
  replace H : Hp _ w _ ([_, _, _]) := H.call Hc
  clear Hc
  replace HS := H.sub (.cons_cons _ (.cons_cons _ (List.nil_sublist _)))
  refine ⟨fun _ _ => HS, ?_⟩
  refine zU 8 rfl (o_callR Tryz.func34 rfl rfl rfl (clne_ret _ lg (hlg.up H) hln hlm) ?_); rintro _ w ⟨a5, c6, rfl, Hc⟩
  replace H : Hp _ w _ ([_, _, _, .own a5 lg.len c6 ((lg.l).flatMap entE) 60 38]) := H.call Hc
  clear Hc
  replace HS := H.sub (.cons_cons _ (.cons_cons _ (List.nil_sublist _)))
  refine ⟨fun _ _ => HS, ?_⟩
  refine zU 10 rfl (o_s1P (C' := staE (⟨r, dl, (0 : UInt64), ⟨hd a3, 1, c4, [(⟨[97], key, 1000, 1, ⟨none, 0, 0, []⟩, ⟨none, 0, 0, []⟩, ⟨none, 0, 0, []⟩⟩ : Tn)]⟩, ⟨none, 0, 0, []⟩, lg, h⟩ : Sta)) (u := .slice (hd a3) 1 c4) H (i := 0) rfl rfl rfl cs26 rfl (staE_p3 _ (⟨hd a3, 1, c4, [(⟨[97], key, 1000, 1, ⟨none, 0, 0, []⟩, ⟨none, 0, 0, []⟩, ⟨none, 0, 0, []⟩⟩ : Tn)]⟩)) (fun w H => ?_)); replace H : Hp _ w _ ([.blk b1 (staE (⟨r, dl, (0 : UInt64), ⟨hd a3, 1, c4, [(⟨[97], key, 1000, 1, ⟨none, 0, 0, []⟩, ⟨none, 0, 0, []⟩, ⟨none, 0, 0, []⟩⟩ : Tn)]⟩, ⟨none, 0, 0, []⟩, lg, h⟩ : Sta)) 30, _, _, _]) := H
  refine ⟨fun h => Bool.noConfusion (h : true = false), ?_⟩
  clear HS
  refine zA 11 rfl (fun w => r_fa rfl fo30_4) ?_; refine zU 12 rfl (o_s1P (C' := staE (⟨r, dl, (0 : UInt64), ⟨hd a3, 1, c4, [(⟨[97], key, 1000, 1, ⟨none, 0, 0, []⟩, ⟨none, 0, 0, []⟩, ⟨none, 0, 0, []⟩⟩ : Tn)]⟩, ⟨none, 0, 0, []⟩, lg, h⟩ : Sta)) (u := .slice none 0 0) H (i := 0) rfl rfl rfl cs27 rfl (staE_p4 _ (⟨none, 0, 0, []⟩)) (fun w H => ?_)); replace H : Hp _ w _ [_, _, _, _] := H
  refine ⟨fun h => Bool.noConfusion (h : true = false), ?_⟩
  refine zA 13 rfl (fun w => r_fa rfl fo30_5) ?_; refine zU 14 rfl (o_s1P (C' := staE (⟨r, dl, (0 : UInt64), ⟨hd a3, 1, c4, [(⟨[97], key, 1000, 1, ⟨none, 0, 0, []⟩, ⟨none, 0, 0, []⟩, ⟨none, 0, 0, []⟩⟩ : Tn)]⟩, ⟨none, 0, 0, []⟩, ⟨hd a5, lg.len, c6, lg.l⟩, h⟩ : Sta)) (u := .slice (hd a5) lg.len c6) H (i := 0) rfl rfl rfl cs28 rfl (staE_p5 _ (⟨hd a5, lg.len, c6, lg.l⟩)) (fun w H => ?_)); replace H : Hp _ w _ ([.blk b1 (staE (⟨r, dl, (0 : UInt64), ⟨hd a3, 1, c4, [(⟨[97], key, 1000, 1, ⟨none, 0, 0, []⟩, ⟨none, 0, 0, []⟩, ⟨none, 0, 0, []⟩⟩ : Tn)]⟩, ⟨none, 0, 0, []⟩, ⟨hd a5, lg.len, c6, lg.l⟩, h⟩ : Sta)) 30, _, _, _]) := H
  refine ⟨fun h => Bool.noConfusion (h : true = false), ?_⟩
  refine z_done (by kernel_rfl) ?_; obtain ⟨b7, hb8⟩ := ownSome H (i := 2) rfl (by decide)
  subst hb8
  replace H : Hp _ w _ ([.blk b1 (staE (⟨r, dl, (0 : UInt64), ⟨hd (some b7), 1, c4, [((⟨([97] : List UInt8), key, 1000, 1, ⟨none, 0, 0, []⟩, ⟨none, 0, 0, []⟩, ⟨none, 0, 0, []⟩⟩ : Tn))]⟩, ⟨none, 0, 0, []⟩, ⟨hd a5, lg.len, c6, lg.l⟩, h⟩ : Sta)) 30, _, .own (some b7) 1 c4 (([((⟨([97] : List UInt8), key, 1000, 1, ⟨none, 0, 0, []⟩, ⟨none, 0, 0, []⟩, ⟨none, 0, 0, []⟩⟩ : Tn))]).flatMap tnE) 53 38, _]) := H
  refine rG ?_; refine lV (r_fa rfl fo30_3) ?_; refine lV (r_l1 (v := .slice (hd (some b7)) 1 c4) H (i := 0) rfl rfl ct26 (staE_c3 _)) ?_; refine lV (r_lens el26 rfl) ?_; refine mV ?_; refine eN ?_
  refine qB ?_; repeat refine c_seq ?_
  refine wp_loop_rounds 3 ?_; refine c_round ?_; refine rG ?_; refine lV (r_bin (a := 0) (b := 1) rfl rfl (fun _ => b_lssB true (decide_eq_true (by decide)))) ?_; refine eN ?_
  refine qY ?_; refine c_skip ?_; refine qB ?_; refine rG ?_; refine mV ?_; refine aZ ?_; refine eN ?_
  refine rG ?_; refine lV (r_fa rfl fo30_3) ?_; refine lV (r_l1 (v := .slice (hd (some b7)) 1 c4) H (i := 0) rfl rfl ct26 (staE_c3 _)) ?_; refine mV ?_; refine lV (r_isN 0 rfl rfl el26 rfl oM (by (try simp only [Sl.cut]); omega)) ?_; refine aZ ?_; refine eN ?_
  repeat refine c_seq ?_
  refine heldH H mixed fun H => ?_
  have HS := H
  refine tK 0 rfl (fun w HS => r_mv) HS ?_; refine tK 1 rfl (fun w HS => r_mv) HS ?_; refine tK 2 rfl (fun w HS => r_mv) HS ?_; refine tK 3 rfl (fun w HS => r_mv) HS ?_; refine tK 4 rfl (fun w HS => r_nilc rfl) HS ?_; refine tK 5 rfl (fun w HS => r_fa rfl fo53_4) HS ?_; refine tK 6 rfl (fun w HS => r_g1 (v := .slice none 0 0) (s := (⟨hd (some b7), 1, c4, [((⟨([97] : List UInt8), key, 1000, 1, ⟨none, 0, 0, []⟩, ⟨none, 0, 0, []⟩, ⟨none, 0, 0, []⟩⟩ : Tn))]⟩ : Gl Tn)) (j := 0) (HS.glOwn (i := 2) rfl (by decide) (fun c _ => tnE_len c)) rfl rfl ct49 rfl (by decide) (tnE_c4 _)) HS ?_; refine tK 8 rfl (fun w HS => r_mv) HS ?_; refine tK 9 rfl (fun w HS => r_nilc rfl) HS ?_; refine tK 10 rfl (fun w HS => r_fa rfl fo53_5) HS ?_; refine tK 11 rfl (fun w HS => r_g1 (v := .slice none 0 0) (s := (⟨hd (some b7), 1, c4, [((⟨([97] : List UInt8), key, 1000, 1, ⟨none, 0, 0, []⟩, ⟨none, 0, 0, []⟩, ⟨none, 0, 0, []⟩⟩ : Tn))]⟩ : Gl Tn)) (j := 0) (HS.glOwn (i := 2) rfl (by decide) (fun c _ => tnE_len c)) rfl rfl ct50 rfl (by decide) (tnE_c5 _)) HS ?_; refine tK 13 rfl (fun w HS => r_mv) HS ?_; refine tK 14 rfl (fun w HS => r_nilc rfl) HS ?_; refine tK 15 rfl (fun w HS => r_fa rfl fo53_6) HS ?_; refine tK 16 rfl (fun w HS => r_g1 (v := .slice none 0 0) (s := (⟨hd (some b7), 1, c4, [((⟨([97] : List UInt8), key, 1000, 1, ⟨none, 0, 0, []⟩, ⟨none, 0, 0, []⟩, ⟨none, 0, 0, []⟩⟩ : Tn))]⟩ : Gl Tn)) (j := 0) (HS.glOwn (i := 2) rfl (by decide) (fun c _ => tnE_len c)) rfl rfl ct51 rfl (by decide) (tnE_c6 _)) HS ?_; refine tU 7 rfl (o_callR Tryz.func35 rfl rfl rfl (cln35_ret _) ?_); rintro _ w ⟨rfl, Hc⟩
  replace H : Hp _ w _ ([_, _, _, _]) := H.call Hc
  clear Hc
  replace HS := H
  refine ⟨HS, ?_⟩
  refine tU 12 rfl (o_callR Tryz.func36 rfl rfl rfl (cln36_ret _) ?_); rintro _ w ⟨rfl, Hc⟩
  replace H : Hp _ w _ ([_, _, _, _]) := H.call Hc
  clear Hc
  replace HS := H
  refine ⟨HS, ?_⟩
  refine tU 17 rfl (o_callR Tryz.func37 rfl rfl rfl (cln37_ret _) ?_); rintro _ w ⟨rfl, Hc⟩
  replace H : Hp _ w _ ([_, _, _, _]) := H.call Hc
  clear Hc
  replace HS := H
  refine ⟨HS, ?_⟩
  refine tK 18 rfl (fun w HS => r_nilc rfl) HS ?_; refine tK 19 rfl (fun w HS => r_fa rfl fo53_4) HS ?_; refine tU 20 rfl (o_stGVP (enc := tnE) (c' := ((⟨([97] : List UInt8), key, 1000, 1, ⟨none, 0, 0, []⟩, ⟨none, 0, 0, []⟩, ⟨none, 0, 0, []⟩⟩ : Tn))) (V := ([.slice none 0 0] : List Value)) (k := 0) H (i := 2) rfl (fun c _ => tnE_len c) rfl rfl rfl (by rfl) cs49 (by simp [Value.oneCell']) (show [((⟨([97] : List UInt8), key, 1000, 1, ⟨none, 0, 0, []⟩, ⟨none, 0, 0, []⟩, ⟨none, 0, 0, []⟩⟩ : Tn))][0]? = some ((⟨([97] : List UInt8), key, 1000, 1, ⟨none, 0, 0, []⟩, ⟨none, 0, 0, []⟩, ⟨none, 0, 0, []⟩⟩ : Tn)) from rfl) (tnE_p4 _ (⟨none, 0, 0, []⟩)) (fun w H => ?_)); replace H : Hp _ w _ [_, _, _, _] := H
  replace HS := H
  refine ⟨HS, ?_⟩
  refine tK 21 rfl (fun w HS => r_nilc rfl) HS ?_; refine tK 22 rfl (fun w HS => r_fa rfl fo53_5) HS ?_; refine tU 23 rfl (o_stGVP (enc := tnE) (c' := ((⟨([97] : List UInt8), key, 1000, 1, ⟨none, 0, 0, []⟩, ⟨none, 0, 0, []⟩, ⟨none, 0, 0, []⟩⟩ : Tn))) (V := ([.slice none 0 0] : List Value)) (k := 0) H (i := 2) rfl (fun c _ => tnE_len c) rfl rfl rfl (by rfl) cs50 (by simp [Value.oneCell']) (show [((⟨([97] : List UInt8), key, 1000, 1, ⟨none, 0, 0, []⟩, ⟨none, 0, 0, []⟩, ⟨none, 0, 0, []⟩⟩ : Tn))][0]? = some ((⟨([97] : List UInt8), key, 1000, 1, ⟨none, 0, 0, []⟩, ⟨none, 0, 0, []⟩, ⟨none, 0, 0, []⟩⟩ : Tn)) from rfl) (tnE_p5 _ (⟨none, 0, 0, []⟩)) (fun w H => ?_)); replace H : Hp _ w _ [_, _, _, _] := H
  replace HS := H
  refine ⟨HS, ?_⟩
  refine tK 24 rfl (fun w HS => r_nilc rfl) HS ?_; refine tK 25 rfl (fun w HS => r_fa rfl fo53_6) HS ?_; refine tU 26 rfl (o_stGVP (enc := tnE) (c' := ((⟨([97] : List UInt8), key, 1000, 1, ⟨none, 0, 0, []⟩, ⟨none, 0, 0, []⟩, ⟨none, 0, 0, []⟩⟩ : Tn))) (V := ([.slice none 0 0] : List Value)) (k := 0) H (i := 2) rfl (fun c _ => tnE_len c) rfl rfl rfl (by rfl) cs51 (by simp [Value.oneCell']) (show [((⟨([97] : List UInt8), key, 1000, 1, ⟨none, 0, 0, []⟩, ⟨none, 0, 0, []⟩, ⟨none, 0, 0, []⟩⟩ : Tn))][0]? = some ((⟨([97] : List UInt8), key, 1000, 1, ⟨none, 0, 0, []⟩, ⟨none, 0, 0, []⟩, ⟨none, 0, 0, []⟩⟩ : Tn)) from rfl) (tnE_p6 _ (⟨none, 0, 0, []⟩)) (fun w H => ?_)); replace H : Hp _ w _ [_, _, _, _] := H
  replace HS := H
  refine ⟨HS, ?_⟩
  refine t_done (by kernel_rfl) ?_
  clear HS
  refine rG ?_; refine mV ?_; refine lV (r_nilc rfl) ?_; refine lV (r_fa rfl fo53_4) ?_; refine lV (r_g1 (v := .slice none 0 0) (s := (⟨hd (some b7), 1, c4, [((⟨([97] : List UInt8), key, 1000, 1, ⟨none, 0, 0, []⟩, ⟨none, 0, 0, []⟩, ⟨none, 0, 0, []⟩⟩ : Tn))]⟩ : Gl Tn)) (j := 0) (H.glOwn (i := 2) rfl (by decide) (fun c _ => tnE_len c)) rfl rfl ct49 rfl (by decide) (tnE_c4 _)) ?_; refine lV (r_lens el49 rfl) ?_; refine mV ?_; refine eN ?_
  refine qB ?_; repeat refine c_seq ?_
  refine wp_loop_rounds 3 ?_; refine c_round ?_; refine rG ?_; refine lV (r_bin (a := 0) (b := 0) rfl rfl (fun _ => b_lssB false (decide_eq_false (by decide)))) ?_; refine eN ?_
  refine qN ?_; refine c_exit ?_; refine rG ?_; refine lV (r_bin (a := 0) (b := 1) (v := VI 1) rfl rfl (fun _ => b_add oM oM)) ?_; refine mV ?_; refine eN ?_
  try dsimp only [Exit.then, Exit.inBlock]
  refine c_round ?_; refine rG ?_; refine lV (r_bin (a := 1) (b := 1) rfl rfl (fun _ => b_lssB false (decide_eq_false (by decide)))) ?_; refine eN ?_
  refine qN ?_; refine c_exit ?_; refine rG ?_; refine lV (r_ldA (C := staE (⟨r, dl, (0 : UInt64), ⟨hd (some b7), 1, c4, [((⟨([97] : List UInt8), key, 1000, 1, ⟨none, 0, 0, []⟩, ⟨none, 0, 0, []⟩, ⟨none, 0, 0, []⟩⟩ : Tn))]⟩, ⟨none, 0, 0, []⟩, ⟨hd a5, lg.len, c6, lg.l⟩, h⟩ : Sta)) H (i := 0) rfl rfl rt30 (staE_len _)) ?_; refine l_op (o_stW (C' := staE (⟨r, dl, (0 : UInt64), ⟨hd (some b7), 1, c4, [((⟨([97] : List UInt8), key, 1000, 1, ⟨none, 0, 0, []⟩, ⟨none, 0, 0, []⟩, ⟨none, 0, 0, []⟩⟩ : Tn))]⟩, ⟨none, 0, 0, []⟩, ⟨hd a5, lg.len, c6, lg.l⟩, h⟩ : Sta)) H (i := 1) rfl rfl rfl cs30 (staE_all _) (staE_len _) (staE_len _) (fun w H => ?_)); replace H : Hp _ w _ ([_, .blk b2 (staE (⟨r, dl, (0 : UInt64), ⟨hd (some b7), 1, c4, [((⟨([97] : List UInt8), key, 1000, 1, ⟨none, 0, 0, []⟩, ⟨none, 0, 0, []⟩, ⟨none, 0, 0, []⟩⟩ : Tn))]⟩, ⟨none, 0, 0, []⟩, ⟨hd a5, lg.len, c6, lg.l⟩, h⟩ : Sta)) 30, _, _]) := H
  refine eN ?_
  refine cR ?_
  refine e_retc Tryz.results17 H (i := 1) rfl rfl rt30 (staE_len _).symm ?_
  refine ⟨_, rfl, ?_⟩
  replace H := ((((H.sub (.cons _ (.cons _ (.cons_cons _ (.cons_cons _ (List.nil_sublist _)))))).nilEnd 92 33).nilEnd 5 1).nilEnd 95 36).permL ((perm_front (j := 0) rfl).trans (.cons _ ((perm_front (j := 1) rfl).trans (.cons _ ((perm_front (j := 1) rfl).trans (.cons _ ((perm_front (j := 1) rfl).trans (.cons _ (.refl _)))))))))
  exact ⟨⟨b7, c4, _, none, 0, 0, [], none, 0, 0, [], none, 0, 0, []⟩, _, _, rfl, rfl, H⟩
theorem twinB_ret (w0 : World) (ta ba da sa : Option Nat) (tc bc dc sc : Nat) (r : Id32) (dl : Int) (h key of : Id32) (lg : Gl Ent) (hlg : lg.ok entE 38 w0) (hln : lg.a.isNone = false) (hlm : lg.len ≤ 4096) (nx : Int) (sn : List Sn) (hnm : sn.length ≤ 16) (hts : (⟨hd ta, 1, tc, [(⟨[97], key, 1000, nx, ⟨hd ba, 1, bc, [⟨of, ⟨hd da, 3, dc, [68, 49, 0]⟩⟩]⟩, ⟨hd sa, sn.length, sc, sn⟩, ⟨none, 0, 0, []⟩⟩ : Tn)]⟩ : Gl Tn).ok tnE 38 w0) (hbl : (⟨hd ba, 1, bc, [(⟨of, ⟨hd da, 3, dc, [68, 49, 0]⟩⟩ : Bl)]⟩ : Gl Bl).ok blE 33 w0) (hda : (⟨hd da, 3, dc, [68, 49, 0]⟩ : Sl).ok w0) (hsn : (⟨hd sa, sn.length, sc, sn⟩ : Gl Sn).ok snE 36 w0) :
    Ret Tryz.prog 17 [.agg (staE (⟨r, dl, (0 : UInt64), (⟨hd ta, 1, tc, [(⟨[97], key, 1000, nx, ⟨hd ba, 1, bc, [⟨of, ⟨hd da, 3, dc, [68, 49, 0]⟩⟩]⟩, ⟨hd sa, sn.length, sc, sn⟩, ⟨none, 0, 0, []⟩⟩ : Tn)]⟩ : Gl Tn), ⟨none, 0, 0, []⟩, lg, h⟩ : Sta)).toArray] w0 fun v w' => ∃ (y : Sh) (a : Option Nat) (k : Nat), ShB key of nx sn y ∧ v = .agg (staE (⟨r, dl, 0, ⟨some ⟨y.tb, 0, none⟩, 1, y.tc, [y.T]⟩, ⟨none, 0, 0, []⟩, ⟨hd a, lg.len, k, lg.l⟩, h⟩ : Sta)).toArray ∧ Hp w0 w' [] [.own (some y.tb) 1 y.tc (([y.T]).flatMap tnE) 53 38, .own y.ba y.bn y.bc ((y.bl).flatMap blE) 92 33, .own y.da y.dn y.dc ((y.dl).map V8) 5 1, .own y.sa y.sn y.sc ((y.sl).flatMap snE) 95 36, .own a lg.len k ((lg.l).flatMap entE) 60 38] := by
  refine ret_mk Tryz.func17 rfl Tryz.ntmps17 (by simp) ?_
  have H := Hp.refl w0 []
  refine rG ?_; refine l_op (o_box (v := .agg (staE (⟨r, dl, (0 : UInt64), (⟨hd ta, 1, tc, [(⟨[97], key, 1000, nx, ⟨hd ba, 1, bc, [⟨of, ⟨hd da, 3, dc, [68, 49, 0]⟩⟩]⟩, ⟨hd sa, sn.length, sc, sn⟩, ⟨none, 0, 0, []⟩⟩ : Tn)]⟩ : Gl Tn), ⟨none, 0, 0, []⟩, lg, h⟩ : Sta)).toArray) H rfl (fun b1 w H hb1 => ?_)); replace H : Hp _ w _ ([.blk b1 (staE (⟨r, dl, (0 : UInt64), (⟨hd ta, 1, tc, [(⟨[97], key, 1000, nx, ⟨hd ba, 1, bc, [⟨of, ⟨hd da, 3, dc, [68, 49, 0]⟩⟩]⟩, ⟨hd sa, sn.length, sc, sn⟩, ⟨none, 0, 0, []⟩⟩ : Tn)]⟩ : Gl Tn), ⟨none, 0, 0, []⟩, lg, h⟩ : Sta)) 30]) := H
  refine l_op (o_alloc H zc30 (fun b2 w H hb2 => ?_)); replace H : Hp _ w _ ([_, .blk b2 (staE (⟨zId, 0, (0 : UInt64), ⟨none, 0, 0, []⟩, ⟨none, 0, 0, []⟩, ⟨none, 0, 0, []⟩, zId⟩ : Sta)) 30]) := H
  refine eN ?_
  repeat refine c_seq ?_
  refine heldZ H (fun j => Nat.ble 9 j) mixed fun H => ?_
  have HS := H
  refine zA 0 rfl (fun w => r_fa rfl fo30_3) ?_; refine zT 1 rfl (fun w HS => r_l1 (v := (⟨hd ta, 1, tc, [(⟨[97], key, 1000, nx, ⟨hd ba, 1, bc, [⟨of, ⟨hd da, 3, dc, [68, 49, 0]⟩⟩]⟩, ⟨hd sa, sn.length, sc, sn⟩, ⟨none, 0, 0, []⟩⟩ : Tn)]⟩ : Gl Tn).v) HS (i := 0) rfl rfl ct26 (staE_c3 _)) HS ?_; refine zA 3 rfl (fun w => r_fa rfl fo30_4) ?_; refine zT 4 rfl (fun w HS => r_l1 (v := .slice none 0 0) HS (i := 0) rfl rfl ct27 (staE_c4 _)) HS ?_; refine zA 6 rfl (fun w => r_fa rfl fo30_5) ?_; refine zT 7 rfl (fun w HS => r_l1 (v := lg.v) HS (i := 0) rfl rfl ct28 (staE_c5 _)) HS ?_; refine zU 2 rfl (o_callR Tryz.func32 rfl rfl rfl (cluT_ret _ (⟨hd ta, 1, tc, [(⟨[97], key, 1000, nx, ⟨hd ba, 1, bc, [⟨of, ⟨hd da, 3, dc, [68, 49, 0]⟩⟩]⟩, ⟨hd sa, sn.length, sc, sn⟩, ⟨none, 0, 0, []⟩⟩ : Tn)]⟩ : Gl Tn) (hts.up H) (by (try dsimp only); omega)) ?_); rintro _ w ⟨a3, c4, rfl, Hc⟩
  replace H : Hp _ w _ ([_, _, .own a3 1 c4 (([(⟨[97], key, 1000, nx, ⟨hd ba, 1, bc, [⟨of, ⟨hd da, 3, dc, [68, 49, 0]⟩⟩]⟩, ⟨hd sa, sn.length, sc, sn⟩, ⟨none, 0, 0, []⟩⟩ : Tn)]).flatMap tnE) 53 38]) := H.call Hc
  clear Hc
  replace HS := H.sub (.cons_cons _ (.cons_cons _ (List.nil_sublist _)))
  refine ⟨fun _ _ => HS, ?_⟩
  refine zA 9 rfl (fun w => r_fa rfl fo30_3) ?_; refine zU 5 rfl (o_callR Tryz.func33 rfl rfl rfl (cln33_ret _) ?_); rintro _ w ⟨rfl, Hc⟩
  replace H : Hp _ w _ ([_, _, _]) := H.call Hc
  clear Hc
  replace HS := H.sub (.cons_cons _ (.cons_cons _ (List.nil_sublist _)))
  refine ⟨fun _ _ => HS, ?_⟩
  refine zU 8 rfl (o_callR Tryz.func34 rfl rfl rfl (clne_ret _ lg (hlg.up H) hln hlm) ?_); rintro _ w ⟨a5, c6, rfl, Hc⟩
  replace H : Hp _ w _ ([_, _, _, .own a5 lg.len c6 ((lg.l).flatMap entE) 60 38]) := H.call Hc
  clear Hc
  replace HS := H.sub (.cons_cons _ (.cons_cons _ (List.nil_sublist _)))
  refine ⟨fun _ _ => HS, ?_⟩
  refine zU 10 rfl (o_s1P (C' := staE (⟨r, dl, (0 : UInt64), ⟨hd a3, 1, c4, [(⟨[97], key, 1000, nx, ⟨hd ba, 1, bc, [⟨of, ⟨hd da, 3, dc, [68, 49, 0]⟩⟩]⟩, ⟨hd sa, sn.length, sc, sn⟩, ⟨none, 0, 0, []⟩⟩ : Tn)]⟩, ⟨none, 0, 0, []⟩, lg, h⟩ : Sta)) (u := .slice (hd a3) 1 c4) H (i := 0) rfl rfl rfl cs26 rfl (staE_p3 _ (⟨hd a3, 1, c4, [(⟨[97], key, 1000, nx, ⟨hd ba, 1, bc, [⟨of, ⟨hd da, 3, dc, [68, 49, 0]⟩⟩]⟩, ⟨hd sa, sn.length, sc, sn⟩, ⟨none, 0, 0, []⟩⟩ : Tn)]⟩)) (fun w H => ?_)); replace H : Hp _ w _ ([.blk b1 (staE (⟨r, dl, (0 : UInt64), ⟨hd a3, 1, c4, [(⟨[97], key, 1000, nx, ⟨hd ba, 1, bc, [⟨of, ⟨hd da, 3, dc, [68, 49, 0]⟩⟩]⟩, ⟨hd sa, sn.length, sc, sn⟩, ⟨none, 0, 0, []⟩⟩ : Tn)]⟩, ⟨none, 0, 0, []⟩, lg, h⟩ : Sta)) 30, _, _, _]) := H
  refine ⟨fun h => Bool.noConfusion (h : true = false), ?_⟩
  clear HS
  refine zA 11 rfl (fun w => r_fa rfl fo30_4) ?_; refine zU 12 rfl (o_s1P (C' := staE (⟨r, dl, (0 : UInt64), ⟨hd a3, 1, c4, [(⟨[97], key, 1000, nx, ⟨hd ba, 1, bc, [⟨of, ⟨hd da, 3, dc, [68, 49, 0]⟩⟩]⟩, ⟨hd sa, sn.length, sc, sn⟩, ⟨none, 0, 0, []⟩⟩ : Tn)]⟩, ⟨none, 0, 0, []⟩, lg, h⟩ : Sta)) (u := .slice none 0 0) H (i := 0) rfl rfl rfl cs27 rfl (staE_p4 _ (⟨none, 0, 0, []⟩)) (fun w H => ?_)); replace H : Hp _ w _ [_, _, _, _] := H
  refine ⟨fun h => Bool.noConfusion (h : true = false), ?_⟩
  refine zA 13 rfl (fun w => r_fa rfl fo30_5) ?_; refine zU 14 rfl (o_s1P (C' := staE (⟨r, dl, (0 : UInt64), ⟨hd a3, 1, c4, [(⟨[97], key, 1000, nx, ⟨hd ba, 1, bc, [⟨of, ⟨hd da, 3, dc, [68, 49, 0]⟩⟩]⟩, ⟨hd sa, sn.length, sc, sn⟩, ⟨none, 0, 0, []⟩⟩ : Tn)]⟩, ⟨none, 0, 0, []⟩, ⟨hd a5, lg.len, c6, lg.l⟩, h⟩ : Sta)) (u := .slice (hd a5) lg.len c6) H (i := 0) rfl rfl rfl cs28 rfl (staE_p5 _ (⟨hd a5, lg.len, c6, lg.l⟩)) (fun w H => ?_)); replace H : Hp _ w _ ([.blk b1 (staE (⟨r, dl, (0 : UInt64), ⟨hd a3, 1, c4, [(⟨[97], key, 1000, nx, ⟨hd ba, 1, bc, [⟨of, ⟨hd da, 3, dc, [68, 49, 0]⟩⟩]⟩, ⟨hd sa, sn.length, sc, sn⟩, ⟨none, 0, 0, []⟩⟩ : Tn)]⟩, ⟨none, 0, 0, []⟩, ⟨hd a5, lg.len, c6, lg.l⟩, h⟩ : Sta)) 30, _, _, _]) := H
  refine ⟨fun h => Bool.noConfusion (h : true = false), ?_⟩
  refine z_done (by kernel_rfl) ?_; obtain ⟨b7, hb8⟩ := ownSome H (i := 2) rfl (by decide)
  subst hb8
  replace H : Hp _ w _ ([.blk b1 (staE (⟨r, dl, (0 : UInt64), ⟨hd (some b7), 1, c4, [((⟨([97] : List UInt8), key, 1000, nx, (⟨hd ba, 1, bc, [(⟨of, ⟨hd da, 3, dc, [68, 49, 0]⟩⟩ : Bl)]⟩ : Gl Bl), (⟨hd sa, sn.length, sc, sn⟩ : Gl Sn), ⟨none, 0, 0, []⟩⟩ : Tn))]⟩, ⟨none, 0, 0, []⟩, ⟨hd a5, lg.len, c6, lg.l⟩, h⟩ : Sta)) 30, _, .own (some b7) 1 c4 (([((⟨([97] : List UInt8), key, 1000, nx, (⟨hd ba, 1, bc, [(⟨of, ⟨hd da, 3, dc, [68, 49, 0]⟩⟩ : Bl)]⟩ : Gl Bl), (⟨hd sa, sn.length, sc, sn⟩ : Gl Sn), ⟨none, 0, 0, []⟩⟩ : Tn))]).flatMap tnE) 53 38, _]) := H
  refine rG ?_; refine lV (r_fa rfl fo30_3) ?_; refine lV (r_l1 (v := .slice (hd (some b7)) 1 c4) H (i := 0) rfl rfl ct26 (staE_c3 _)) ?_; refine lV (r_lens el26 rfl) ?_; refine mV ?_; refine eN ?_
  refine qB ?_; repeat refine c_seq ?_
  refine wp_loop_rounds 3 ?_; refine c_round ?_; refine rG ?_; refine lV (r_bin (a := 0) (b := 1) rfl rfl (fun _ => b_lssB true (decide_eq_true (by decide)))) ?_; refine eN ?_
  refine qY ?_; refine c_skip ?_; refine qB ?_; refine rG ?_; refine mV ?_; refine aZ ?_; refine eN ?_
  refine rG ?_; refine lV (r_fa rfl fo30_3) ?_; refine lV (r_l1 (v := .slice (hd (some b7)) 1 c4) H (i := 0) rfl rfl ct26 (staE_c3 _)) ?_; refine mV ?_; refine lV (r_isN 0 rfl rfl el26 rfl oM (by (try simp only [Sl.cut]); omega)) ?_; refine aZ ?_; refine eN ?_
  repeat refine c_seq ?_
  refine heldZ H (fun j => Nat.ble 18 j) mixed fun H => ?_
  have HS := H
  refine zA 0 rfl (fun w => r_mv) ?_; refine zA 1 rfl (fun w => r_mv) ?_; refine zA 2 rfl (fun w => r_mv) ?_; refine zA 3 rfl (fun w => r_mv) ?_; refine zA 4 rfl (fun w => r_nilc rfl) ?_; refine zA 5 rfl (fun w => r_fa rfl fo53_4) ?_; refine zT 6 rfl (fun w HS => r_g1 (v := (⟨hd ba, 1, bc, [(⟨of, ⟨hd da, 3, dc, [68, 49, 0]⟩⟩ : Bl)]⟩ : Gl Bl).v) (s := (⟨hd (some b7), 1, c4, [((⟨([97] : List UInt8), key, 1000, nx, (⟨hd ba, 1, bc, [(⟨of, ⟨hd da, 3, dc, [68, 49, 0]⟩⟩ : Bl)]⟩ : Gl Bl), (⟨hd sa, sn.length, sc, sn⟩ : Gl Sn), ⟨none, 0, 0, []⟩⟩ : Tn))]⟩ : Gl Tn)) (j := 0) (HS.glOwn (i := 2) rfl (by decide) (fun c _ => tnE_len c)) rfl rfl ct49 rfl (by decide) (tnE_c4 _)) HS ?_; refine zA 8 rfl (fun w => r_mv) ?_; refine zA 9 rfl (fun w => r_nilc rfl) ?_; refine zA 10 rfl (fun w => r_fa rfl fo53_5) ?_; refine zT 11 rfl (fun w HS => r_g1 (v := (⟨hd sa, sn.length, sc, sn⟩ : Gl Sn).v) (s := (⟨hd (some b7), 1, c4, [((⟨([97] : List UInt8), key, 1000, nx, (⟨hd ba, 1, bc, [(⟨of, ⟨hd da, 3, dc, [68, 49, 0]⟩⟩ : Bl)]⟩ : Gl Bl), (⟨hd sa, sn.length, sc, sn⟩ : Gl Sn), ⟨none, 0, 0, []⟩⟩ : Tn))]⟩ : Gl Tn)) (j := 0) (HS.glOwn (i := 2) rfl (by decide) (fun c _ => tnE_len c)) rfl rfl ct50 rfl (by decide) (tnE_c5 _)) HS ?_; refine zA 13 rfl (fun w => r_mv) ?_; refine zA 14 rfl (fun w => r_nilc rfl) ?_; refine zA 15 rfl (fun w => r_fa rfl fo53_6) ?_; refine zT 16 rfl (fun w HS => r_g1 (v := .slice none 0 0) (s := (⟨hd (some b7), 1, c4, [((⟨([97] : List UInt8), key, 1000, nx, (⟨hd ba, 1, bc, [(⟨of, ⟨hd da, 3, dc, [68, 49, 0]⟩⟩ : Bl)]⟩ : Gl Bl), (⟨hd sa, sn.length, sc, sn⟩ : Gl Sn), ⟨none, 0, 0, []⟩⟩ : Tn))]⟩ : Gl Tn)) (j := 0) (HS.glOwn (i := 2) rfl (by decide) (fun c _ => tnE_len c)) rfl rfl ct51 rfl (by decide) (tnE_c6 _)) HS ?_; refine zU 7 rfl (o_callR Tryz.func35 rfl rfl rfl (cluB_ret _ (⟨hd ba, 1, bc, [(⟨of, ⟨hd da, 3, dc, [68, 49, 0]⟩⟩ : Bl)]⟩ : Gl Bl) (hbl.up H) (by (try dsimp only); omega)) ?_); rintro _ w ⟨a18, c19, rfl, Hc⟩
  replace H : Hp _ w _ ([_, _, _, _, .own a18 1 c19 (([(⟨of, ⟨hd da, 3, dc, [68, 49, 0]⟩⟩ : Bl)]).flatMap blE) 92 33]) := H.call Hc
  clear Hc
  replace HS := H.sub (.cons_cons _ (.cons_cons _ (.cons_cons _ (.cons_cons _ (List.nil_sublist _)))))
  refine ⟨fun _ _ => HS, ?_⟩
  refine zU 12 rfl (o_callR Tryz.func36 rfl rfl rfl (cluS_ret _ (⟨hd sa, sn.length, sc, sn⟩ : Gl Sn) (hsn.up H) (by (try dsimp only); omega)) ?_); rintro _ w ⟨a20, c21, rfl, Hc⟩
  replace H : Hp _ w _ ([_, _, _, _, _, .own a20 sn.length c21 ((sn).flatMap snE) 95 36]) := H.call Hc
  clear Hc
  replace HS := H.sub (.cons_cons _ (.cons_cons _ (.cons_cons _ (.cons_cons _ (List.nil_sublist _)))))
  refine ⟨fun _ _ => HS, ?_⟩
  refine zU 17 rfl (o_callR Tryz.func37 rfl rfl rfl (cln37_ret _) ?_); rintro _ w ⟨rfl, Hc⟩
  replace H : Hp _ w _ ([_, _, _, _, _, _]) := H.call Hc
  clear Hc
  replace HS := H.sub (.cons_cons _ (.cons_cons _ (.cons_cons _ (.cons_cons _ (List.nil_sublist _)))))
  refine ⟨fun _ _ => HS, ?_⟩
  refine zA 18 rfl (fun w => r_nilc rfl) ?_; refine zA 19 rfl (fun w => r_fa rfl fo53_4) ?_; refine zU 20 rfl (o_stGVP (enc := tnE) (c' := ((⟨([97] : List UInt8), key, 1000, nx, ⟨hd a18, 1, c19, [(⟨of, ⟨hd da, 3, dc, [68, 49, 0]⟩⟩ : Bl)]⟩, (⟨hd sa, sn.length, sc, sn⟩ : Gl Sn), ⟨none, 0, 0, []⟩⟩ : Tn))) (V := ([.slice (hd a18) 1 c19] : List Value)) (k := 0) H (i := 2) rfl (fun c _ => tnE_len c) rfl rfl rfl (by rfl) cs49 (by simp [Value.oneCell']) (show [((⟨([97] : List UInt8), key, 1000, nx, (⟨hd ba, 1, bc, [(⟨of, ⟨hd da, 3, dc, [68, 49, 0]⟩⟩ : Bl)]⟩ : Gl Bl), (⟨hd sa, sn.length, sc, sn⟩ : Gl Sn), ⟨none, 0, 0, []⟩⟩ : Tn))][0]? = some ((⟨([97] : List UInt8), key, 1000, nx, (⟨hd ba, 1, bc, [(⟨of, ⟨hd da, 3, dc, [68, 49, 0]⟩⟩ : Bl)]⟩ : Gl Bl), (⟨hd sa, sn.length, sc, sn⟩ : Gl Sn), ⟨none, 0, 0, []⟩⟩ : Tn)) from rfl) (tnE_p4 _ (⟨hd a18, 1, c19, [(⟨of, ⟨hd da, 3, dc, [68, 49, 0]⟩⟩ : Bl)]⟩)) (fun w H => ?_)); replace H : Hp _ w _ ([.blk b1 (staE (⟨r, dl, (0 : UInt64), ⟨hd (some b7), 1, c4, [((⟨([97] : List UInt8), key, 1000, nx, ⟨hd a18, 1, c19, [(⟨of, ⟨hd da, 3, dc, [68, 49, 0]⟩⟩ : Bl)]⟩, (⟨hd sa, sn.length, sc, sn⟩ : Gl Sn), ⟨none, 0, 0, []⟩⟩ : Tn))]⟩, ⟨none, 0, 0, []⟩, ⟨hd a5, lg.len, c6, lg.l⟩, h⟩ : Sta)) 30, _, .own (some b7) 1 c4 (([((⟨([97] : List UInt8), key, 1000, nx, ⟨hd a18, 1, c19, [(⟨of, ⟨hd da, 3, dc, [68, 49, 0]⟩⟩ : Bl)]⟩, (⟨hd sa, sn.length, sc, sn⟩ : Gl Sn), ⟨none, 0, 0, []⟩⟩ : Tn))]).flatMap tnE) 53 38, _, .own a18 1 c19 (([((⟨of, (⟨hd da, 3, dc, [68, 49, 0]⟩ : Sl)⟩ : Bl))]).flatMap blE) 92 33, _]) := H
  refine ⟨fun h => Bool.noConfusion (h : true = false), ?_⟩
  clear HS
  refine zA 21 rfl (fun w => r_nilc rfl) ?_; refine zA 22 rfl (fun w => r_fa rfl fo53_5) ?_; refine zU 23 rfl (o_stGVP (enc := tnE) (c' := ((⟨([97] : List UInt8), key, 1000, nx, ⟨hd a18, 1, c19, [((⟨of, (⟨hd da, 3, dc, [68, 49, 0]⟩ : Sl)⟩ : Bl))]⟩, ⟨hd a20, sn.length, c21, sn⟩, ⟨none, 0, 0, []⟩⟩ : Tn))) (V := ([.slice (hd a20) sn.length c21] : List Value)) (k := 0) H (i := 2) rfl (fun c _ => tnE_len c) rfl rfl rfl (by rfl) cs50 (by simp [Value.oneCell']) (show [((⟨([97] : List UInt8), key, 1000, nx, ⟨hd a18, 1, c19, [(⟨of, ⟨hd da, 3, dc, [68, 49, 0]⟩⟩ : Bl)]⟩, (⟨hd sa, sn.length, sc, sn⟩ : Gl Sn), ⟨none, 0, 0, []⟩⟩ : Tn))][0]? = some ((⟨([97] : List UInt8), key, 1000, nx, ⟨hd a18, 1, c19, [((⟨of, (⟨hd da, 3, dc, [68, 49, 0]⟩ : Sl)⟩ : Bl))]⟩, (⟨hd sa, sn.length, sc, sn⟩ : Gl Sn), ⟨none, 0, 0, []⟩⟩ : Tn)) from rfl) (tnE_p5 _ (⟨hd a20, sn.length, c21, sn⟩)) (fun w H => ?_)); replace H : Hp _ w _ ([.blk b1 (staE (⟨r, dl, (0 : UInt64), ⟨hd (some b7), 1, c4, [((⟨([97] : List UInt8), key, 1000, nx, ⟨hd a18, 1, c19, [((⟨of, (⟨hd da, 3, dc, [68, 49, 0]⟩ : Sl)⟩ : Bl))]⟩, ⟨hd a20, sn.length, c21, sn⟩, ⟨none, 0, 0, []⟩⟩ : Tn))]⟩, ⟨none, 0, 0, []⟩, ⟨hd a5, lg.len, c6, lg.l⟩, h⟩ : Sta)) 30, _, .own (some b7) 1 c4 (([((⟨([97] : List UInt8), key, 1000, nx, ⟨hd a18, 1, c19, [((⟨of, (⟨hd da, 3, dc, [68, 49, 0]⟩ : Sl)⟩ : Bl))]⟩, ⟨hd a20, sn.length, c21, sn⟩, ⟨none, 0, 0, []⟩⟩ : Tn))]).flatMap tnE) 53 38, _, _, _]) := H
  refine ⟨fun h => Bool.noConfusion (h : true = false), ?_⟩
  refine zA 24 rfl (fun w => r_nilc rfl) ?_; refine zA 25 rfl (fun w => r_fa rfl fo53_6) ?_; refine zU 26 rfl (o_stGVP (enc := tnE) (c' := ((⟨([97] : List UInt8), key, 1000, nx, ⟨hd a18, 1, c19, [((⟨of, (⟨hd da, 3, dc, [68, 49, 0]⟩ : Sl)⟩ : Bl))]⟩, ⟨hd a20, sn.length, c21, sn⟩, ⟨none, 0, 0, []⟩⟩ : Tn))) (V := ([.slice none 0 0] : List Value)) (k := 0) H (i := 2) rfl (fun c _ => tnE_len c) rfl rfl rfl (by rfl) cs51 (by simp [Value.oneCell']) (show [((⟨([97] : List UInt8), key, 1000, nx, ⟨hd a18, 1, c19, [((⟨of, (⟨hd da, 3, dc, [68, 49, 0]⟩ : Sl)⟩ : Bl))]⟩, ⟨hd a20, sn.length, c21, sn⟩, ⟨none, 0, 0, []⟩⟩ : Tn))][0]? = some ((⟨([97] : List UInt8), key, 1000, nx, ⟨hd a18, 1, c19, [((⟨of, (⟨hd da, 3, dc, [68, 49, 0]⟩ : Sl)⟩ : Bl))]⟩, ⟨hd a20, sn.length, c21, sn⟩, ⟨none, 0, 0, []⟩⟩ : Tn)) from rfl) (tnE_p6 _ (⟨none, 0, 0, []⟩)) (fun w H => ?_)); replace H : Hp _ w _ [_, _, _, _, _, _] := H
  refine ⟨fun h => Bool.noConfusion (h : true = false), ?_⟩
  refine z_done (by kernel_rfl) ?_; obtain ⟨b22, hb23⟩ := ownSome H (i := 4) rfl (by decide)
  subst hb23
  replace H : Hp _ w _ ([.blk b1 (staE (⟨r, dl, (0 : UInt64), ⟨hd (some b7), 1, c4, [((⟨([97] : List UInt8), key, 1000, nx, ⟨hd (some b22), 1, c19, [((⟨of, (⟨hd da, 3, dc, [68, 49, 0]⟩ : Sl)⟩ : Bl))]⟩, ⟨hd a20, sn.length, c21, sn⟩, ⟨none, 0, 0, []⟩⟩ : Tn))]⟩, ⟨none, 0, 0, []⟩, ⟨hd a5, lg.len, c6, lg.l⟩, h⟩ : Sta)) 30, _, .own (some b7) 1 c4 (([((⟨([97] : List UInt8), key, 1000, nx, ⟨hd (some b22), 1, c19, [((⟨of, (⟨hd da, 3, dc, [68, 49, 0]⟩ : Sl)⟩ : Bl))]⟩, ⟨hd a20, sn.length, c21, sn⟩, ⟨none, 0, 0, []⟩⟩ : Tn))]).flatMap tnE) 53 38, _, .own (some b22) 1 c19 (([((⟨of, (⟨hd da, 3, dc, [68, 49, 0]⟩ : Sl)⟩ : Bl))]).flatMap blE) 92 33, _]) := H
  refine rG ?_; refine mV ?_; refine lV (r_nilc rfl) ?_; refine lV (r_fa rfl fo53_4) ?_; refine lV (r_g1 (v := .slice (hd (some b22)) 1 c19) (s := (⟨hd (some b7), 1, c4, [((⟨([97] : List UInt8), key, 1000, nx, ⟨hd (some b22), 1, c19, [((⟨of, (⟨hd da, 3, dc, [68, 49, 0]⟩ : Sl)⟩ : Bl))]⟩, ⟨hd a20, sn.length, c21, sn⟩, ⟨none, 0, 0, []⟩⟩ : Tn))]⟩ : Gl Tn)) (j := 0) (H.glOwn (i := 2) rfl (by decide) (fun c _ => tnE_len c)) rfl rfl ct49 rfl (by decide) (tnE_c4 _)) ?_; refine lV (r_lens el49 rfl) ?_; refine mV ?_; refine eN ?_
  refine qB ?_; repeat refine c_seq ?_
  refine wp_loop_rounds 3 ?_; refine c_round ?_; refine rG ?_; refine lV (r_bin (a := 0) (b := 1) rfl rfl (fun _ => b_lssB true (decide_eq_true (by decide)))) ?_; refine eN ?_
  refine qY ?_; refine c_skip ?_; refine qB ?_; refine rG ?_; refine mV ?_; refine aZ ?_; refine eN ?_
  repeat refine c_seq ?_
  refine heldZ H (fun j => Nat.ble 14 j) mixed fun H => ?_
  have HS := H
  refine zA 0 rfl (fun w => r_mv) ?_; refine zA 1 rfl (fun w => r_nilc rfl) ?_; refine zA 2 rfl (fun w => r_fa rfl fo53_4) ?_; refine zT 3 rfl (fun w HS => r_g1 (v := .slice (hd (some b22)) 1 c19) (s := (⟨hd (some b7), 1, c4, [((⟨([97] : List UInt8), key, 1000, nx, ⟨hd (some b22), 1, c19, [((⟨of, (⟨hd da, 3, dc, [68, 49, 0]⟩ : Sl)⟩ : Bl))]⟩, ⟨hd a20, sn.length, c21, sn⟩, ⟨none, 0, 0, []⟩⟩ : Tn))]⟩ : Gl Tn)) (j := 0) (HS.glOwn (i := 2) rfl (by decide) (fun c _ => tnE_len c)) rfl rfl ct49 rfl (by decide) (tnE_c4 _)) HS ?_; refine zA 4 rfl (fun w => r_mv) ?_; refine zA 5 rfl (fun w => r_mv) ?_; refine zA 6 rfl (fun w => r_nilc rfl) ?_; refine zA 7 rfl (fun w => r_fa rfl fo53_4) ?_; refine zT 8 rfl (fun w HS => r_g1 (v := .slice (hd (some b22)) 1 c19) (s := (⟨hd (some b7), 1, c4, [((⟨([97] : List UInt8), key, 1000, nx, ⟨hd (some b22), 1, c19, [((⟨of, (⟨hd da, 3, dc, [68, 49, 0]⟩ : Sl)⟩ : Bl))]⟩, ⟨hd a20, sn.length, c21, sn⟩, ⟨none, 0, 0, []⟩⟩ : Tn))]⟩ : Gl Tn)) (j := 0) (HS.glOwn (i := 2) rfl (by decide) (fun c _ => tnE_len c)) rfl rfl ct49 rfl (by decide) (tnE_c4 _)) HS ?_; refine zA 9 rfl (fun w => r_mv) ?_; refine zA 10 rfl (fun w => r_isN 0 rfl rfl el49 rfl oM (by (try simp only [Sl.cut]); omega)) ?_; refine zA 11 rfl (fun w => r_fa rfl fo92_1) ?_; refine zT 12 rfl (fun w HS => r_g1 (v := (⟨hd da, 3, dc, [68, 49, 0]⟩ : Sl).v) (s := (⟨hd (some b22), 1, c19, [((⟨of, (⟨hd da, 3, dc, [68, 49, 0]⟩ : Sl)⟩ : Bl))]⟩ : Gl Bl)) (j := 0) (HS.glOwn (i := 4) rfl (by decide) (fun c _ => blE_len c)) rfl rfl ct33 rfl (by decide) (blE_c1 _)) HS ?_; refine zU 13 rfl (o_callR Tryz.func38 rfl rfl rfl (bclone_ret _ (⟨hd da, 3, dc, [68, 49, 0]⟩ : Sl) (hda.up H (fun _ => apart_nil _)) (by (try dsimp only); omega)) ?_); rintro _ w ⟨a36, c37, rfl, Hc⟩
  replace H : Hp _ w _ ([_, _, _, _, _, _, .own a36 3 c37 (([68, 49, 0]).map V8) 5 1]) := H.call Hc
  clear Hc
  replace HS := H.sub (.cons_cons _ (.cons_cons _ (.cons_cons _ (.cons_cons _ (.cons_cons _ (.cons_cons _ (List.nil_sublist _)))))))
  refine ⟨fun _ _ => HS, ?_⟩
  refine zA 14 rfl (fun w => r_isN 0 rfl rfl el49 rfl oM (by (try simp only [Sl.cut]); omega)) ?_; refine zA 15 rfl (fun w => r_fa rfl fo92_1) ?_; refine zU 16 rfl (o_stGVP (enc := blE) (c' := ((⟨of, ⟨hd a36, 3, c37, [68, 49, 0]⟩⟩ : Bl))) (V := ([.slice (hd a36) 3 c37] : List Value)) (k := 0) H (i := 4) rfl (fun c _ => blE_len c) rfl rfl rfl (by rfl) cs33 (by simp [Value.oneCell']) (show [((⟨of, (⟨hd da, 3, dc, [68, 49, 0]⟩ : Sl)⟩ : Bl))][0]? = some ((⟨of, (⟨hd da, 3, dc, [68, 49, 0]⟩ : Sl)⟩ : Bl)) from rfl) (blE_p1 _ (⟨hd a36, 3, c37, [68, 49, 0]⟩)) (fun w H => ?_)); replace H : Hp _ w _ ([.blk b1 (staE (⟨r, dl, (0 : UInt64), ⟨hd (some b7), 1, c4, [((⟨([97] : List UInt8), key, 1000, nx, ⟨hd (some b22), 1, c19, [((⟨of, ⟨hd a36, 3, c37, [68, 49, 0]⟩⟩ : Bl))]⟩, ⟨hd a20, sn.length, c21, sn⟩, ⟨none, 0, 0, []⟩⟩ : Tn))]⟩, ⟨none, 0, 0, []⟩, ⟨hd a5, lg.len, c6, lg.l⟩, h⟩ : Sta)) 30, _, .own (some b7) 1 c4 (([((⟨([97] : List UInt8), key, 1000, nx, ⟨hd (some b22), 1, c19, [((⟨of, ⟨hd a36, 3, c37, [68, 49, 0]⟩⟩ : Bl))]⟩, ⟨hd a20, sn.length, c21, sn⟩, ⟨none, 0, 0, []⟩⟩ : Tn))]).flatMap tnE) 53 38, _, .own (some b22) 1 c19 (([((⟨of, ⟨hd a36, 3, c37, [68, 49, 0]⟩⟩ : Bl))]).flatMap blE) 92 33, _, _]) := H
  refine ⟨fun h => Bool.noConfusion (h : true = false), ?_⟩
  clear HS
  refine z_done (by kernel_rfl) ?_; refine rG ?_; refine lV (r_bin (a := 0) (b := 1) (v := VI 1) rfl rfl (fun _ => b_add oM oM)) ?_; refine mV ?_; refine eN ?_
  try dsimp only [Exit.then, Exit.inBlock]
  refine c_round ?_; refine rG ?_; refine lV (r_bin (a := 1) (b := 1) rfl rfl (fun _ => b_lssB false (decide_eq_false (by decide)))) ?_; refine eN ?_
  refine qN ?_; refine c_exit ?_; refine rG ?_; refine lV (r_bin (a := 0) (b := 1) (v := VI 1) rfl rfl (fun _ => b_add oM oM)) ?_; refine mV ?_; refine eN ?_
  try dsimp only [Exit.then, Exit.inBlock]
  refine c_round ?_; refine rG ?_; refine lV (r_bin (a := 1) (b := 1) rfl rfl (fun _ => b_lssB false (decide_eq_false (by decide)))) ?_; refine eN ?_
  refine qN ?_; refine c_exit ?_; refine rG ?_; refine lV (r_ldA (C := staE (⟨r, dl, (0 : UInt64), ⟨hd (some b7), 1, c4, [((⟨([97] : List UInt8), key, 1000, nx, ⟨hd (some b22), 1, c19, [((⟨of, ⟨hd a36, 3, c37, [68, 49, 0]⟩⟩ : Bl))]⟩, ⟨hd a20, sn.length, c21, sn⟩, ⟨none, 0, 0, []⟩⟩ : Tn))]⟩, ⟨none, 0, 0, []⟩, ⟨hd a5, lg.len, c6, lg.l⟩, h⟩ : Sta)) H (i := 0) rfl rfl rt30 (staE_len _)) ?_; refine l_op (o_stW (C' := staE (⟨r, dl, (0 : UInt64), ⟨hd (some b7), 1, c4, [((⟨([97] : List UInt8), key, 1000, nx, ⟨hd (some b22), 1, c19, [((⟨of, ⟨hd a36, 3, c37, [68, 49, 0]⟩⟩ : Bl))]⟩, ⟨hd a20, sn.length, c21, sn⟩, ⟨none, 0, 0, []⟩⟩ : Tn))]⟩, ⟨none, 0, 0, []⟩, ⟨hd a5, lg.len, c6, lg.l⟩, h⟩ : Sta)) H (i := 1) rfl rfl rfl cs30 (staE_all _) (staE_len _) (staE_len _) (fun w H => ?_)); replace H : Hp _ w _ ([_, .blk b2 (staE (⟨r, dl, (0 : UInt64), ⟨hd (some b7), 1, c4, [((⟨([97] : List UInt8), key, 1000, nx, ⟨hd (some b22), 1, c19, [((⟨of, ⟨hd a36, 3, c37, [68, 49, 0]⟩⟩ : Bl))]⟩, ⟨hd a20, sn.length, c21, sn⟩, ⟨none, 0, 0, []⟩⟩ : Tn))]⟩, ⟨none, 0, 0, []⟩, ⟨hd a5, lg.len, c6, lg.l⟩, h⟩ : Sta)) 30, _, _, _, _, _]) := H
  refine eN ?_
  refine cR ?_
  refine e_retc Tryz.results17 H (i := 1) rfl rfl rt30 (staE_len _).symm ?_
  refine ⟨_, rfl, ?_⟩
  exact ⟨(⟨b7, c4, (⟨[97], key, 1000, nx, ⟨hd (some b22), 1, c19, [⟨of, ⟨hd a36, 3, c37, [68, 49, 0]⟩⟩]⟩, ⟨hd a20, sn.length, c21, sn⟩, ⟨none, 0, 0, []⟩⟩ : Tn), (some b22), 1, c19, [⟨of, ⟨hd a36, 3, c37, [68, 49, 0]⟩⟩], a36, 3, c37, [68, 49, 0], a20, sn.length, c21, sn⟩ : Sh), _, _, ⟨_, _, _, _, _, _, _, _, rfl⟩, rfl, (H.permL ((perm_front (j := 2) rfl).trans (.cons _ ((perm_front (j := 3) rfl).trans (.cons _ ((perm_front (j := 4) rfl).trans (.cons _ ((perm_front (j := 3) rfl).trans (.cons _ ((perm_front (j := 2) rfl).trans (.cons _ (.refl _)))))))))))).sub (.cons_cons _ (.cons_cons _ (.cons_cons _ (.cons_cons _ (.cons_cons _ (List.nil_sublist _))))))⟩
end Go.Proofs.YtmiabahejnjhiaaGreatDoor
namespace Go.Proofs.YtmiabahejnjhiaaGreatDoor
open Go
set_option maxRecDepth 100000
theorem bsb_ret (w0 : World) (k : Id32) (f : Value) :
    Ret Tryz.prog 121 [.slice none 0 0, .agg ((k.1).map V8).toArray, f] w0 fun v w' => v = .tuple #[VI 0, .bool false] ∧ Hp w0 w' [] [] := by
  refine ret_mk Tryz.func121 rfl Tryz.ntmps121 (by simp) ?_
  have H := Hp.refl w0 []
  refine rG ?_; refine l_op (o_box (v := .agg ((k.1).map V8).toArray) H rfl (fun b1 w H hb1 => ?_)); replace H : Hp _ w _ ([.blk b1 ((k.1).map V8) 24]) := H
  refine aZ ?_; refine aZ ?_; refine eN ?_
  refine rG ?_; refine mV ?_; refine lV (r_lens el49 rfl) ?_; refine aZ ?_; refine eN ?_
  refine rG ?_; refine mV ?_; refine aZ ?_; refine aZ ?_; refine eN ?_
  refine qB ?_; repeat refine c_seq ?_
  refine wp_loop_rounds 2 ?_; refine c_round ?_; refine rG ?_; refine mV ?_; refine mV ?_; refine lV (r_bin (a := 0) (b := 0) rfl rfl (fun _ => b_lssB false (decide_eq_false (by decide)))) ?_; refine eN ?_
  refine qN ?_; refine c_exit ?_; repeat refine c_seq ?_
  refine heldH H mixed fun H => ?_
  have HS := H
  refine tK 0 rfl (fun w HS => r_mv) HS ?_; refine tK 1 rfl (fun w HS => r_mv) HS ?_; refine tK 2 rfl (fun w HS => r_mv) HS ?_; refine tK 3 rfl (fun w HS => r_bin (a := 0) (b := 0) rfl rfl (fun _ => b_lssB false (decide_eq_false (by decide)))) HS ?_; refine tK 4 rfl (fun w HS => r_mv) HS ?_; refine tN 5 rfl (yK rfl rfl rfl) rfl HS ?_; refine tN 6 rfl (yK rfl rfl rfl) rfl HS ?_; refine tN 7 rfl (yK rfl rfl rfl) rfl HS ?_; refine tN 8 rfl (yK rfl rfl rfl) rfl HS ?_; refine tN 9 rfl (yK rfl rfl rfl) rfl HS ?_; refine tN 10 rfl (yK rfl rfl rfl) rfl HS ?_; refine tN 11 rfl (yK rfl rfl rfl) rfl HS ?_; refine tN 12 rfl (yK rfl rfl rfl) rfl HS ?_; refine tK 13 rfl (fun w HS => r_pick rfl) HS ?_; refine tK 14 rfl (fun w HS => r_as) HS ?_; refine tK 15 rfl (fun w HS => r_as) HS ?_; refine t_done (by kernel_rfl) ?_
  clear HS
  refine cR ?_
  refine e_retN (vs := [VI 0, .bool false]) _ Tryz.results121 rfl (resT (v := VI 0) rfl (resT (v := .bool false) rfl (resZ))) ?_
  refine ⟨_, rfl, ?_⟩
  exact ⟨rfl, H.sub (List.nil_sublist _)⟩
theorem bsd_ret (w0 : World) (k : Id32) (f : Value) :
    Ret Tryz.prog 140 [.slice none 0 0, .agg ((k.1).map V8).toArray, f] w0 fun v w' => v = .tuple #[VI 0, .bool false] ∧ Hp w0 w' [] [] := by
  refine ret_mk Tryz.func140 rfl Tryz.ntmps140 (by simp) ?_
  have H := Hp.refl w0 []
  refine rG ?_; refine l_op (o_box (v := .agg ((k.1).map V8).toArray) H rfl (fun b1 w H hb1 => ?_)); replace H : Hp _ w _ ([.blk b1 ((k.1).map V8) 24]) := H
  refine aZ ?_; refine aZ ?_; refine eN ?_
  refine rG ?_; refine mV ?_; refine lV (r_lens el51 rfl) ?_; refine aZ ?_; refine eN ?_
  refine rG ?_; refine mV ?_; refine aZ ?_; refine aZ ?_; refine eN ?_
  refine qB ?_; repeat refine c_seq ?_
  refine wp_loop_rounds 2 ?_; refine c_round ?_; refine rG ?_; refine mV ?_; refine mV ?_; refine lV (r_bin (a := 0) (b := 0) rfl rfl (fun _ => b_lssB false (decide_eq_false (by decide)))) ?_; refine eN ?_
  refine qN ?_; refine c_exit ?_; repeat refine c_seq ?_
  refine heldH H mixed fun H => ?_
  have HS := H
  refine tK 0 rfl (fun w HS => r_mv) HS ?_; refine tK 1 rfl (fun w HS => r_mv) HS ?_; refine tK 2 rfl (fun w HS => r_mv) HS ?_; refine tK 3 rfl (fun w HS => r_bin (a := 0) (b := 0) rfl rfl (fun _ => b_lssB false (decide_eq_false (by decide)))) HS ?_; refine tK 4 rfl (fun w HS => r_mv) HS ?_; refine tN 5 rfl (yK rfl rfl rfl) rfl HS ?_; refine tN 6 rfl (yK rfl rfl rfl) rfl HS ?_; refine tN 7 rfl (yK rfl rfl rfl) rfl HS ?_; refine tN 8 rfl (yK rfl rfl rfl) rfl HS ?_; refine tN 9 rfl (yK rfl rfl rfl) rfl HS ?_; refine tN 10 rfl (yK rfl rfl rfl) rfl HS ?_; refine tN 11 rfl (yK rfl rfl rfl) rfl HS ?_; refine tN 12 rfl (yK rfl rfl rfl) rfl HS ?_; refine tK 13 rfl (fun w HS => r_pick rfl) HS ?_; refine tK 14 rfl (fun w HS => r_as) HS ?_; refine tK 15 rfl (fun w HS => r_as) HS ?_; refine t_done (by kernel_rfl) ?_
  clear HS
  refine cR ?_
  refine e_retN (vs := [VI 0, .bool false]) _ Tryz.results140 rfl (resT (v := VI 0) rfl (resT (v := .bool false) rfl (resZ))) ?_
  refine ⟨_, rfl, ?_⟩
  exact ⟨rfl, H.sub (List.nil_sublist _)⟩
theorem blob0_ret (w0 : World) (wb tb tc : Nat) (ws : Option Nat) (op : Opr) (ser : UInt64) (nm : List UInt8) (key : Id32) (q nx : Int) (sns : Gl Sn) (dms : Gl Dm) (k : Id32) (hO : Own w0 [.blk wb (wrkE (⟨ws, op, (some tb), ser⟩ : Wrk)) 75, .own (some tb) 1 tc (([((⟨nm, key, q, nx, ⟨none, 0, 0, []⟩, sns, dms⟩ : Tn))]).flatMap tnE) 53 38]) :
    Ret Tryz.prog 83 [.pointer (some ⟨wb, 0, none⟩), .agg ((k.1).map V8).toArray] w0 fun v w' => v = .tuple #[VI 0, .bool false] ∧ Hp w0 w' (keys hO.l) hO.l := by
  refine ret_mk Tryz.func83 rfl Tryz.ntmps83 (by simp) ?_
  have H := hO.start
  refine rG ?_; refine l_op (o_box (v := .agg ((k.1).map V8).toArray) H rfl (fun b1 w H hb1 => ?_)); replace H : Hp _ w _ ([.blk wb (wrkE (⟨ws, op, (some tb), ser⟩ : Wrk)) 75, .own (some tb) 1 tc (([((⟨nm, key, q, nx, ⟨none, 0, 0, []⟩, sns, dms⟩ : Tn))]).flatMap tnE) 53 38, .blk b1 ((k.1).map V8) 24]) := H
  refine aZ ?_; refine aZ ?_; refine eN ?_
  repeat refine c_seq ?_
  refine heldH H mixed fun H => ?_
  have HS := H
  refine tK 0 rfl (fun w HS => r_mv) HS ?_; refine tK 1 rfl (fun w HS => r_nilc rfl) HS ?_; refine tK 2 rfl (fun w HS => r_fa rfl fo75_2) HS ?_; refine tK 3 rfl (fun w HS => r_l1 (v := .pointer (some ⟨tb, 0, none⟩)) HS (i := 0) rfl rfl ct73 (wrkE_c2 _)) HS ?_; refine tK 4 rfl (fun w HS => r_nilc rfl) HS ?_; refine tK 5 rfl (fun w HS => r_fa rfl fo53_4) HS ?_; refine tK 6 rfl (fun w HS => r_g1 (v := .slice none 0 0) (s := (⟨hd (some tb), 1, tc, [((⟨nm, key, q, nx, ⟨none, 0, 0, []⟩, sns, dms⟩ : Tn))]⟩ : Gl Tn)) (j := 0) (HS.glOwn (i := 1) rfl (by decide) (fun c _ => tnE_len c)) rfl rfl ct49 rfl (by decide) (tnE_c4 _)) HS ?_; refine tK 7 rfl (fun w HS => r_ldAA (l := k.1) HS (i := 2) rfl rfl rt24 (show (k.1).length = 32 from k.2)) HS ?_; refine tU 8 rfl (o_callR Tryz.func121 rfl rfl rfl (bsb_ret _ k (.func (.func 122) #[] #[])) ?_); rintro _ w ⟨rfl, Hc⟩
  replace H : Hp _ w _ ([_, _, _]) := H.call Hc
  clear Hc
  replace HS := H
  refine ⟨HS, ?_⟩
  refine tK 9 rfl (fun w HS => r_ext rfl rfl) HS ?_; refine tK 10 rfl (fun w HS => r_ext rfl rfl) HS ?_; refine tK 11 rfl (fun w HS => r_as) HS ?_; refine tK 12 rfl (fun w HS => r_as) HS ?_; refine t_done (by kernel_rfl) ?_
  clear HS
  refine cR ?_
  refine e_retN (vs := [VI 0, .bool false]) _ Tryz.results83 rfl (resT (v := VI 0) rfl (resT (v := .bool false) rfl (resZ))) ?_
  refine ⟨_, rfl, ?_⟩
  exact ⟨rfl, H.sub (.cons_cons _ (.cons_cons _ (List.nil_sublist _)))⟩
theorem doomed0_ret (w0 : World) (wb tb tc : Nat) (ws : Option Nat) (op : Opr) (ser : UInt64) (nm : List UInt8) (key : Id32) (q nx : Int) (bls : Gl Bl) (sns : Gl Sn) (k : Id32) (hO : Own w0 [.blk wb (wrkE (⟨ws, op, (some tb), ser⟩ : Wrk)) 75, .own (some tb) 1 tc (([((⟨nm, key, q, nx, bls, sns, ⟨none, 0, 0, []⟩⟩ : Tn))]).flatMap tnE) 53 38]) :
    Ret Tryz.prog 104 [.pointer (some ⟨wb, 0, none⟩), .agg ((k.1).map V8).toArray] w0 fun v w' => v = .tuple #[VI 0, .bool false] ∧ Hp w0 w' (keys hO.l) hO.l := by
  refine ret_mk Tryz.func104 rfl Tryz.ntmps104 (by simp) ?_
  have H := hO.start
  refine rG ?_; refine l_op (o_box (v := .agg ((k.1).map V8).toArray) H rfl (fun b1 w H hb1 => ?_)); replace H : Hp _ w _ ([.blk wb (wrkE (⟨ws, op, (some tb), ser⟩ : Wrk)) 75, .own (some tb) 1 tc (([((⟨nm, key, q, nx, bls, sns, ⟨none, 0, 0, []⟩⟩ : Tn))]).flatMap tnE) 53 38, .blk b1 ((k.1).map V8) 24]) := H
  refine aZ ?_; refine aZ ?_; refine eN ?_
  repeat refine c_seq ?_
  refine heldH H mixed fun H => ?_
  have HS := H
  refine tK 0 rfl (fun w HS => r_mv) HS ?_; refine tK 1 rfl (fun w HS => r_nilc rfl) HS ?_; refine tK 2 rfl (fun w HS => r_fa rfl fo75_2) HS ?_; refine tK 3 rfl (fun w HS => r_l1 (v := .pointer (some ⟨tb, 0, none⟩)) HS (i := 0) rfl rfl ct73 (wrkE_c2 _)) HS ?_; refine tK 4 rfl (fun w HS => r_nilc rfl) HS ?_; refine tK 5 rfl (fun w HS => r_fa rfl fo53_6) HS ?_; refine tK 6 rfl (fun w HS => r_g1 (v := .slice none 0 0) (s := (⟨hd (some tb), 1, tc, [((⟨nm, key, q, nx, bls, sns, ⟨none, 0, 0, []⟩⟩ : Tn))]⟩ : Gl Tn)) (j := 0) (HS.glOwn (i := 1) rfl (by decide) (fun c _ => tnE_len c)) rfl rfl ct51 rfl (by decide) (tnE_c6 _)) HS ?_; refine tK 7 rfl (fun w HS => r_ldAA (l := k.1) HS (i := 2) rfl rfl rt24 (show (k.1).length = 32 from k.2)) HS ?_; refine tU 8 rfl (o_callR Tryz.func140 rfl rfl rfl (bsd_ret _ k (.func (.func 141) #[] #[])) ?_); rintro _ w ⟨rfl, Hc⟩
  replace H : Hp _ w _ ([_, _, _]) := H.call Hc
  clear Hc
  replace HS := H
  refine ⟨HS, ?_⟩
  refine tK 9 rfl (fun w HS => r_ext rfl rfl) HS ?_; refine tK 10 rfl (fun w HS => r_ext rfl rfl) HS ?_; refine tK 11 rfl (fun w HS => r_as) HS ?_; refine tK 12 rfl (fun w HS => r_as) HS ?_; refine t_done (by kernel_rfl) ?_
  clear HS
  refine cR ?_
  refine e_retN (vs := [VI 0, .bool false]) _ Tryz.results104 rfl (resT (v := VI 0) rfl (resT (v := .bool false) rfl (resZ))) ?_
  refine ⟨_, rfl, ?_⟩
  exact ⟨rfl, H.sub (.cons_cons _ (.cons_cons _ (List.nil_sublist _)))⟩
theorem spare0_ret (w0 : World) (wb tb tc : Nat) (ws : Option Nat) (op : Opr) (ser : UInt64) (nm : List UInt8) (key : Id32) (q nx : Int) (bls : Gl Bl) (sns : Gl Sn) (k : Id32) (hO : Own w0 [.blk wb (wrkE (⟨ws, op, (some tb), ser⟩ : Wrk)) 75, .own (some tb) 1 tc (([((⟨nm, key, q, nx, bls, sns, ⟨none, 0, 0, []⟩⟩ : Tn))]).flatMap tnE) 53 38]) :
    Ret Tryz.prog 85 [.pointer (some ⟨wb, 0, none⟩), .agg ((k.1).map V8).toArray] w0 fun v w' => v = .tuple #[] ∧ Hp w0 w' (keys hO.l) hO.l := by
  refine ret_mk Tryz.func85 rfl Tryz.ntmps85 (by simp) ?_
  have H := hO.start
  refine rG ?_; refine l_op (o_box (v := .agg ((k.1).map V8).toArray) H rfl (fun b1 w H hb1 => ?_)); replace H : Hp _ w _ ([.blk wb (wrkE (⟨ws, op, (some tb), ser⟩ : Wrk)) 75, .own (some tb) 1 tc (([((⟨nm, key, q, nx, bls, sns, ⟨none, 0, 0, []⟩⟩ : Tn))]).flatMap tnE) 53 38, .blk b1 ((k.1).map V8) 24]) := H
  refine eN ?_
  refine rG ?_; refine mV ?_; refine lV (r_ldAA (l := k.1) H (i := 2) rfl rfl rt24 (show (k.1).length = 32 from k.2)) ?_; refine l_op (o_callR Tryz.func104 rfl rfl rfl (doomed0_ret _ _ _ _ _ _ _ _ _ _ _ _ _  k (H.ownP (.refl _) rfl)) ?_); rintro _ w ⟨rfl, Hc⟩
  replace H := H.callP (.refl _) rfl Hc ((perm_front (j := 1) rfl).trans (.cons _ ((perm_front (j := 1) rfl).trans (.cons _ (.refl _)))))
  clear Hc
  replace H : Hp _ w _ [_, _, _] := H
  refine mV ?_; refine lV (r_ext rfl rfl) ?_; refine lV (r_ext rfl rfl) ?_; refine aZ ?_; refine aZ ?_; refine eN ?_
  refine rG ?_; refine mV ?_; refine eN ?_
  refine qN ?_; refine c_skip ?_; refine eZ ?_; refine e_ret0 Tryz.results85 ?_
  refine ⟨_, rfl, ?_⟩
  exact ⟨rfl, H.sub (.cons_cons _ (.cons_cons _ (List.nil_sublist _)))⟩
theorem usedA_ret (w0 : World) (nm : List UInt8) (key : Id32) (q nx : Int) (dms : Gl Dm) :
    Ret Tryz.prog 59 [.agg (tnE (⟨nm, key, q, nx, ⟨none, 0, 0, []⟩, ⟨none, 0, 0, []⟩, dms⟩ : Tn)).toArray] w0 fun v w' => v = VI 0 ∧ Hp w0 w' [] [] := by
  refine ret_mk Tryz.func59 rfl Tryz.ntmps59 (by simp) ?_
  have H := Hp.refl w0 []
  refine rG ?_; refine l_op (o_box (v := .agg (tnE (⟨nm, key, q, nx, ⟨none, 0, 0, []⟩, ⟨none, 0, 0, []⟩, dms⟩ : Tn)).toArray) H rfl (fun b1 w H hb1 => ?_)); replace H : Hp _ w _ ([.blk b1 (tnE (⟨nm, key, q, nx, ⟨none, 0, 0, []⟩, ⟨none, 0, 0, []⟩, dms⟩ : Tn)) 53]) := H
  refine aZ ?_; refine eN ?_
  refine rG ?_; refine aZ ?_; refine eN ?_
  refine rG ?_; refine lV (r_fa rfl fo53_4) ?_; refine lV (r_l1 (v := .slice none 0 0) H (i := 0) rfl rfl ct49 (tnE_c4 _)) ?_; refine lV (r_lens el49 rfl) ?_; refine mV ?_; refine eN ?_
  refine qB ?_; repeat refine c_seq ?_
  refine wp_loop_rounds 2 ?_; refine c_round ?_; refine rG ?_; refine lV (r_bin (a := 0) (b := 0) rfl rfl (fun _ => b_lssB false (decide_eq_false (by decide)))) ?_; refine eN ?_
  refine qN ?_; refine c_exit ?_; refine rG ?_; refine lV (r_fa rfl fo53_5) ?_; refine lV (r_l1 (v := .slice none 0 0) H (i := 0) rfl rfl ct50 (tnE_c5 _)) ?_; refine lV (r_lens el50 rfl) ?_; refine mV ?_; refine eN ?_
  refine qB ?_; repeat refine c_seq ?_
  refine wp_loop_rounds 2 ?_; refine c_round ?_; refine rG ?_; refine lV (r_bin (a := 0) (b := 0) rfl rfl (fun _ => b_lssB false (decide_eq_false (by decide)))) ?_; refine eN ?_
  refine qN ?_; refine c_exit ?_; refine rG ?_; refine mV ?_; refine aZ ?_; refine eN ?_
  refine cR ?_
  refine e_ret1 (v := VI 0) Tryz.results59 rfl ?_
  refine ⟨_, rfl, ?_⟩
  exact ⟨rfl, H.sub (List.nil_sublist _)⟩
theorem roomA_ret (w0 : World) (wb tb tc : Nat) (ws : Option Nat) (op : Opr) (ser : UInt64) (nm : List UInt8) (key : Id32) (nx : Int) (dms : Gl Dm) (n : Int) (hn : n ≤ 900) (hO : Own w0 [.blk wb (wrkE (⟨ws, op, (some tb), ser⟩ : Wrk)) 75, .own (some tb) 1 tc (([((⟨nm, key, 1000, nx, ⟨none, 0, 0, []⟩, ⟨none, 0, 0, []⟩, dms⟩ : Tn))]).flatMap tnE) 53 38]) :
    Ret Tryz.prog 86 [.pointer (some ⟨wb, 0, none⟩), VI n] w0 fun v w' => v = .bool true ∧ Hp w0 w' (keys hO.l) hO.l := by
  refine ret_mk Tryz.func86 rfl Tryz.ntmps86 (by simp) ?_
  have H := hO.start
  refine rG ?_; refine aZ ?_; refine eN ?_
  repeat refine c_seq ?_
  refine heldH H mixed fun H => ?_
  have HS := H
  refine tK 0 rfl (fun w HS => r_mv) HS ?_; refine tK 1 rfl (fun w HS => r_mv) HS ?_; refine tK 2 rfl (fun w HS => r_nilc rfl) HS ?_; refine tK 3 rfl (fun w HS => r_fa rfl fo75_2) HS ?_; refine tK 4 rfl (fun w HS => r_l1 (v := .pointer (some ⟨tb, 0, none⟩)) HS (i := 0) rfl rfl ct73 (wrkE_c2 _)) HS ?_; refine tK 5 rfl (fun w HS => r_nilc rfl) HS ?_; refine tK 6 rfl (fun w HS => r_fa rfl fo53_2) HS ?_; refine tK 7 rfl (fun w HS => r_g1 (v := VI 1000) (s := (⟨hd (some tb), 1, tc, [((⟨nm, key, 1000, nx, ⟨none, 0, 0, []⟩, ⟨none, 0, 0, []⟩, dms⟩ : Tn))]⟩ : Gl Tn)) (j := 0) (HS.glOwn (i := 1) rfl (by decide) (fun c _ => tnE_len c)) rfl rfl ct2 rfl (by decide) (tnE_c2 _)) HS ?_; refine tK 8 rfl (fun w HS => r_mv) HS ?_; refine tK 9 rfl (fun w HS => r_nilc rfl) HS ?_; refine tK 10 rfl (fun w HS => r_fa rfl fo75_2) HS ?_; refine tK 11 rfl (fun w HS => r_l1 (v := .pointer (some ⟨tb, 0, none⟩)) HS (i := 0) rfl rfl ct73 (wrkE_c2 _)) HS ?_; refine tK 12 rfl (fun w HS => r_nilc rfl) HS ?_; refine tK 13 rfl (fun w HS => r_ldRow (s := (⟨hd (some tb), 1, tc, [((⟨nm, key, 1000, nx, ⟨none, 0, 0, []⟩, ⟨none, 0, 0, []⟩, dms⟩ : Tn))]⟩ : Gl Tn)) (k := 0) (HS.glOwn (i := 1) rfl (by decide) (fun c _ => tnE_len c)) rfl rfl rt53 (by decide) rfl) HS ?_; refine tU 14 rfl (o_callR Tryz.func59 rfl rfl rfl (usedA_ret _ _ _ _ _ _) ?_); rintro _ w ⟨rfl, Hc⟩
  replace H : Hp _ w _ ([.blk wb (wrkE (⟨ws, op, (some tb), ser⟩ : Wrk)) 75, .own (some tb) 1 tc (([((⟨nm, key, 1000, nx, ⟨none, 0, 0, []⟩, ⟨none, 0, 0, []⟩, dms⟩ : Tn))]).flatMap tnE) 53 38]) := H.call Hc
  clear Hc
  replace HS := H
  refine ⟨HS, ?_⟩
  refine tK 15 rfl (fun w HS => r_bin (a := 1000) (b := 0) (v := VI 1000) rfl rfl (fun _ => b_sub oM oM)) HS ?_; refine tK 16 rfl (fun w HS => r_bin (a := n) (b := 1000) rfl rfl (fun _ => b_leqB true (decide_eq_true oM))) HS ?_; refine tK 17 rfl (fun w HS => r_as) HS ?_; refine t_done (by kernel_rfl) ?_
  clear HS
  refine cR ?_
  refine e_ret1 (v := .bool true) Tryz.results86 rfl ?_
  refine ⟨_, rfl, ?_⟩
  exact ⟨rfl, H.sub (.cons_cons _ (.cons_cons _ (List.nil_sublist _)))⟩
theorem wput_ret (w0 : World) (ws : Option Nat) (ser : UInt64) (wb tb tc : Nat) (key of : Id32) (s : Sl) (xa : Option Addr) (xc : Nat) (hb : (⟨xa, 3, xc, [68, 49, 0]⟩ : Sl).ok w0) (hap : ([68, 49, 0] : List UInt8) ≠ [] → Apart xa (keys [.blk wb (wrkE (⟨ws, (⟨1, ([97] : List UInt8), of, 0, 0, (0 : UInt8), (⟨xa, 3, xc, [68, 49, 0]⟩ : Sl), s, 0, zId⟩ : Opr), (some tb), ser⟩ : Wrk)) 75, .own (some tb) 1 tc (([((⟨([97] : List UInt8), key, 1000, 1, ⟨none, 0, 0, []⟩, ⟨none, 0, 0, []⟩, ⟨none, 0, 0, []⟩⟩ : Tn))]).flatMap tnE) 53 38])) (hof : of.1 = hmac key.1 (framed [[68, 49, 0]])) (hO : Own w0 [.blk wb (wrkE (⟨ws, (⟨1, ([97] : List UInt8), of, 0, 0, (0 : UInt8), (⟨xa, 3, xc, [68, 49, 0]⟩ : Sl), s, 0, zId⟩ : Opr), (some tb), ser⟩ : Wrk)) 75, .own (some tb) 1 tc (([((⟨([97] : List UInt8), key, 1000, 1, ⟨none, 0, 0, []⟩, ⟨none, 0, 0, []⟩, ⟨none, 0, 0, []⟩⟩ : Tn))]).flatMap tnE) 53 38]) :
    Ret Tryz.prog 51 [.pointer (some ⟨wb, 0, none⟩)] w0 fun v w' => ∃ x : Option Nat × Nat × Option Nat × Nat, v = .agg (ansE (⟨201, ⟨none, 0, 0, []⟩⟩ : Ans)).toArray ∧ Hp w0 w' (keys hO.l) [.blk wb (wrkE (⟨ws, (⟨1, ([97] : List UInt8), of, 0, 0, (0 : UInt8), (⟨xa, 3, xc, [68, 49, 0]⟩ : Sl), s, 0, zId⟩ : Opr), (some tb), ser⟩ : Wrk)) 75, .own (some tb) 1 tc (([⟨[97], key, 1000, 1, ⟨hd x.1, 1, x.2.1, [⟨of, ⟨hd x.2.2.1, 3, x.2.2.2, [68, 49, 0]⟩⟩]⟩, ⟨none, 0, 0, []⟩, ⟨none, 0, 0, []⟩⟩] : List Tn).flatMap tnE) 53 38, .own x.1 1 x.2.1 (([⟨of, ⟨hd x.2.2.1, 3, x.2.2.2, [68, 49, 0]⟩⟩] : List Bl).flatMap blE) 92 33, .own x.2.2.1 3 x.2.2.2 (([68, 49, 0] : List UInt8).map V8) 5 1] := by
  refine ret_mk Tryz.func51 rfl Tryz.ntmps51 (by simp) ?_
  have H := hO.start
  refine rG ?_; refine l_op (o_alloc H zc43 (fun b1 w H hb1 => ?_)); replace H : Hp _ w _ ([.blk wb (wrkE (⟨ws, (⟨1, ([97] : List UInt8), of, 0, 0, (0 : UInt8), (⟨xa, 3, xc, [68, 49, 0]⟩ : Sl), s, 0, zId⟩ : Opr), (some tb), ser⟩ : Wrk)) 75, .own (some tb) 1 tc (([((⟨([97] : List UInt8), key, 1000, 1, ⟨none, 0, 0, []⟩, ⟨none, 0, 0, []⟩, ⟨none, 0, 0, []⟩⟩ : Tn))]).flatMap tnE) 53 38, .blk b1 (ansE (⟨0, ⟨none, 0, 0, []⟩⟩ : Ans)) 43]) := H
  refine eN ?_
  refine rG ?_; refine mV ?_; refine mV ?_; refine lV (r_nilc rfl) ?_; refine lV (r_fa rfl fo75_1) ?_; refine lV (r_fa rfl fo47_2) ?_; refine lV (r_lk H (i := 0) rfl rfl rt24 ((wrkE_c1 _).comp (oprE_c2 _))) ?_; refine l_op (o_callR Tryz.func83 rfl rfl rfl (blob0_ret _ _ _ _ _ _ _ _ _ _ _ _ _  of (H.ownP (.refl _) rfl)) ?_); rintro _ w ⟨rfl, Hc⟩
  replace H := H.callP (.refl _) rfl Hc ((perm_front (j := 1) rfl).trans (.cons _ ((perm_front (j := 1) rfl).trans (.cons _ (.refl _)))))
  clear Hc
  replace H : Hp _ w _ [_, _, _] := H
  refine mV ?_; refine lV (r_ext rfl rfl) ?_; refine lV (r_ext rfl rfl) ?_; refine aZ ?_; refine aZ ?_; refine eN ?_
  refine qB ?_; refine rG ?_; refine mV ?_; refine lV (r_nilc rfl) ?_; refine lV (r_fa rfl fo75_1) ?_; refine lV (r_fa rfl fo47_6) ?_; refine lV (r_l1 (v := (⟨xa, 3, xc, [68, 49, 0]⟩ : Sl).v) H (i := 0) rfl rfl ct33 ((wrkE_c1 _).comp (oprE_c6 _))) ?_; refine lV (r_lens el33 rfl) ?_; refine lV (r_bin (a := 3) (b := 4000) rfl rfl (fun _ => b_gtrB false (decide_eq_false (by decide)))) ?_; refine aZ ?_; refine eN ?_
  refine qN ?_; repeat refine c_seq ?_
  refine heldH H mixed fun H => ?_
  have HS := H
  refine tK 0 rfl (fun w HS => r_mv) HS ?_; refine tK 1 rfl (fun w HS => r_nilc rfl) HS ?_; refine tK 2 rfl (fun w HS => r_fa rfl fo75_1) HS ?_; refine tK 3 rfl (fun w HS => r_fa rfl fo47_2) HS ?_; refine tK 4 rfl (fun w HS => r_lk HS (i := 0) rfl rfl rt24 ((wrkE_c1 _).comp (oprE_c2 _))) HS ?_; refine tK 5 rfl (fun w HS => r_mv) HS ?_; refine tK 6 rfl (fun w HS => r_nilc rfl) HS ?_; refine tK 7 rfl (fun w HS => r_fa rfl fo75_2) HS ?_; refine tK 8 rfl (fun w HS => r_l1 (v := .pointer (some ⟨tb, 0, none⟩)) HS (i := 0) rfl rfl ct73 (wrkE_c2 _)) HS ?_; refine tK 9 rfl (fun w HS => r_nilc rfl) HS ?_; refine tK 10 rfl (fun w HS => r_ldRow (s := (⟨hd (some tb), 1, tc, [((⟨([97] : List UInt8), key, 1000, 1, ⟨none, 0, 0, []⟩, ⟨none, 0, 0, []⟩, ⟨none, 0, 0, []⟩⟩ : Tn))]⟩ : Gl Tn)) (k := 0) (HS.glOwn (i := 1) rfl (by decide) (fun c _ => tnE_len c)) rfl rfl rt53 (by decide) rfl) HS ?_; refine tK 11 rfl (fun w HS => r_mv) HS ?_; refine tK 12 rfl (fun w HS => r_nilc rfl) HS ?_; refine tK 13 rfl (fun w HS => r_fa rfl fo75_1) HS ?_; refine tK 14 rfl (fun w HS => r_fa rfl fo47_6) HS ?_; refine tK 15 rfl (fun w HS => r_l1 (v := (⟨xa, 3, xc, [68, 49, 0]⟩ : Sl).v) HS (i := 0) rfl rfl ct33 ((wrkE_c1 _).comp (oprE_c6 _))) HS ?_; refine tU 16 rfl (o_callR Tryz.func84 rfl rfl rfl (mname_ret _ (⟨([97] : List UInt8), key, 1000, 1, ⟨none, 0, 0, []⟩, ⟨none, 0, 0, []⟩, ⟨none, 0, 0, []⟩⟩ : Tn) (⟨xa, 3, xc, [68, 49, 0]⟩ : Sl) (hb.up H hap) (by first | omega | (dsimp only; omega))) ?_); rintro _ w ⟨rfl, Hc⟩
  replace H : Hp _ w _ ([_, _, _]) := H.call Hc
  clear Hc
  replace HS := H
  refine ⟨HS, ?_⟩
  refine tK 17 rfl (fun w HS => r_nea (a := of.1) (b := hmac (key.1) (framed [[68, 49, 0]])) Tryz.underlying24 Tryz.underlying5 cs5 rfl rfl (show (of.1).length = 32 from of.2) (show (hmac (key.1) (framed [[68, 49, 0]])).length = 32 from hmac_len _ _)) HS ?_; have hk5 : (!(decide (of.1 = hmac (key.1) (framed [[68, 49, 0]])))) = false := (by simp [hof])
  refine tK 18 rfl (fun w HS => r_as) HS ?_; refine t_done (by kernel_rfl) ?_
  clear HS
  repeat refine c_seq ?_
  refine c_no (by exact congrArg Value.bool hk5) ?_; refine rG ?_; refine mV ?_; refine aZ ?_; refine eN ?_
  refine qN ?_; refine rG ?_; refine mV ?_; refine mV ?_; refine lV (r_nilc rfl) ?_; refine lV (r_fa rfl fo75_1) ?_; refine lV (r_fa rfl fo47_6) ?_; refine lV (r_l1 (v := (⟨xa, 3, xc, [68, 49, 0]⟩ : Sl).v) H (i := 0) rfl rfl ct33 ((wrkE_c1 _).comp (oprE_c6 _))) ?_; refine lV (r_lens el33 rfl) ?_; refine l_op (o_callR Tryz.func86 rfl rfl rfl (roomA_ret _ _ _ _ _ _ _ _ _ _ _  (3) (by decide) (H.ownP (.refl _) rfl)) ?_); rintro _ w ⟨rfl, Hc⟩
  replace H := H.callP (.refl _) rfl Hc ((perm_front (j := 1) rfl).trans (.cons _ ((perm_front (j := 1) rfl).trans (.cons _ (.refl _)))))
  clear Hc
  replace H : Hp _ w _ [_, _, _] := H
  refine lV (r_not rfl) ?_; refine mV ?_; refine l_yes rfl rfl rfl (o_val r_mv ?_); refine l_yes rfl rfl rfl (o_val (r_nilc rfl) ?_); refine l_yes rfl rfl rfl (o_val (r_fa rfl fo75_2) ?_); refine l_yes rfl rfl rfl (o_val (r_l1 (v := .pointer (some ⟨tb, 0, none⟩)) H (i := 0) rfl rfl ct73 (wrkE_c2 _)) ?_); refine l_yes rfl rfl rfl (o_val (r_nilc rfl) ?_); refine l_yes rfl rfl rfl (o_val (r_fa rfl fo53_4) ?_); refine l_yes rfl rfl rfl (o_val (r_g1 (v := .slice none 0 0) (s := (⟨hd (some tb), 1, tc, [((⟨([97] : List UInt8), key, 1000, 1, ⟨none, 0, 0, []⟩, ⟨none, 0, 0, []⟩, ⟨none, 0, 0, []⟩⟩ : Tn))]⟩ : Gl Tn)) (j := 0) (H.glOwn (i := 1) rfl (by decide) (fun c _ => tnE_len c)) rfl rfl ct49 rfl (by decide) (tnE_c4 _)) ?_); refine l_yes rfl rfl rfl (o_val (r_lens el49 rfl) ?_); refine l_yes rfl rfl rfl (o_val (r_bin (a := 0) (b := 1024) rfl rfl (fun _ => b_geqB false (decide_eq_false (by decide)))) ?_); refine lV (r_pick rfl) ?_; refine aZ ?_; refine eN ?_
  refine qN ?_; refine c_skip ?_; repeat refine c_seq ?_
  refine heldZ H (fun j => Nat.ble 26 j) mixed fun H => ?_
  have HS := H
  refine zA 0 rfl (fun w => r_mv) ?_; refine zA 1 rfl (fun w => r_nilc rfl) ?_; refine zA 2 rfl (fun w => r_fa rfl fo75_2) ?_; refine zT 3 rfl (fun w HS => r_l1 (v := .pointer (some ⟨tb, 0, none⟩)) HS (i := 0) rfl rfl ct73 (wrkE_c2 _)) HS ?_; refine zA 4 rfl (fun w => r_mv) ?_; refine zA 5 rfl (fun w => r_nilc rfl) ?_; refine zA 6 rfl (fun w => r_fa rfl fo75_2) ?_; refine zT 7 rfl (fun w HS => r_l1 (v := .pointer (some ⟨tb, 0, none⟩)) HS (i := 0) rfl rfl ct73 (wrkE_c2 _)) HS ?_; refine zA 8 rfl (fun w => r_nilc rfl) ?_; refine zA 9 rfl (fun w => r_fa rfl fo53_4) ?_; refine zT 10 rfl (fun w HS => r_g1 (v := .slice none 0 0) (s := (⟨hd (some tb), 1, tc, [((⟨([97] : List UInt8), key, 1000, 1, ⟨none, 0, 0, []⟩, ⟨none, 0, 0, []⟩, ⟨none, 0, 0, []⟩⟩ : Tn))]⟩ : Gl Tn)) (j := 0) (HS.glOwn (i := 1) rfl (by decide) (fun c _ => tnE_len c)) rfl rfl ct49 rfl (by decide) (tnE_c4 _)) HS ?_; refine zA 11 rfl (fun w => r_mv) ?_; refine zA 12 rfl (fun w => r_mv) ?_; refine zA 13 rfl (fun w => r_nilc rfl) ?_; refine zA 14 rfl (fun w => r_fa rfl fo75_1) ?_; refine zA 15 rfl (fun w => r_fa rfl fo47_2) ?_; refine zT 16 rfl (fun w HS => r_lk HS (i := 0) rfl rfl rt24 ((wrkE_c1 _).comp (oprE_c2 _))) HS ?_; refine zA 17 rfl (fun w => r_mv) ?_; refine zA 18 rfl (fun w => r_nilc rfl) ?_; refine zA 19 rfl (fun w => r_fa rfl fo75_1) ?_; refine zA 20 rfl (fun w => r_fa rfl fo47_6) ?_; refine zT 21 rfl (fun w HS => r_l1 (v := (⟨xa, 3, xc, [68, 49, 0]⟩ : Sl).v) HS (i := 0) rfl rfl ct33 ((wrkE_c1 _).comp (oprE_c6 _))) HS ?_; refine zU 22 rfl (o_callR Tryz.func38 rfl rfl rfl (bclone_ret _ (⟨xa, 3, xc, [68, 49, 0]⟩ : Sl) (hb.up H hap) (by (try dsimp only); omega)) ?_); rintro _ w ⟨a12, c13, rfl, Hc⟩
  replace H : Hp _ w _ ([_, _, _, .own a12 3 c13 (([68, 49, 0]).map V8) 5 1]) := H.call Hc
  clear Hc
  replace HS := H.sub (.cons_cons _ (.cons_cons _ (.cons_cons _ (List.nil_sublist _))))
  refine ⟨fun _ _ => HS, ?_⟩
  refine zA 23 rfl (fun w => r_bldG (Z := blE (⟨zId, ⟨none, 0, 0, []⟩⟩ : Bl)) (E := blE (⟨of, ⟨hd a12, 3, c13, [68, 49, 0]⟩⟩ : Bl)) (pv := [(0, .agg ((of.1).map V8).toArray), (1, .slice (hd a12) 3 c13)]) bd92 rfl rfl (.consP rfl (blE_p0 _ of) rfl (.consP rfl (blE_p1 _ (⟨hd a12, 3, c13, [68, 49, 0]⟩)) rfl (.nil _)))) ?_; refine zU 24 rfl (o_bslG1 (enc := blE) ((⟨of, ⟨hd a12, 3, c13, [68, 49, 0]⟩⟩ : Bl)) H sl49 zc92 (by rfl) (by decide) (by decide) rfl (blE_len _) (fun b14 w H hb14 => ?_)); replace H : Hp _ w _ ([_, _, _, _, .own (some b14) 1 1 (([(⟨of, ⟨hd a12, 3, c13, [68, 49, 0]⟩⟩ : Bl)]).flatMap blE) 92 33]) := H
  replace HS := H.sub (.cons_cons _ (.cons_cons _ (.cons_cons _ (List.nil_sublist _))))
  refine ⟨fun _ _ => HS, ?_⟩
  refine zU 25 rfl (o_callR Tryz.func87 rfl rfl rfl (insB_ret _ (⟨hd (some b14), 1, 1, [(⟨of, ⟨hd a12, 3, c13, [68, 49, 0]⟩⟩ : Bl)]⟩) (H.glOwn (i := 4) rfl (by decide) (fun c _ => blE_len c)) rfl) ?_); rintro _ w ⟨a15, c16, rfl, Hc⟩
  replace H : Hp _ w _ ([_, _, _, _, _, .own a15 1 c16 (([(⟨of, ⟨hd a12, 3, c13, [68, 49, 0]⟩⟩ : Bl)]).flatMap blE) 92 33]) := H.call Hc
  clear Hc
  replace HS := H.sub (.cons_cons _ (.cons_cons _ (.cons_cons _ (List.nil_sublist _))))
  refine ⟨fun _ _ => HS, ?_⟩
  refine zA 26 rfl (fun w => r_nilc rfl) ?_; refine zA 27 rfl (fun w => r_fa rfl fo53_4) ?_; refine zU 28 rfl (o_stGVP (enc := tnE) (c' := ((⟨([97] : List UInt8), key, 1000, 1, ⟨hd a15, 1, c16, [(⟨of, ⟨hd a12, 3, c13, [68, 49, 0]⟩⟩ : Bl)]⟩, ⟨none, 0, 0, []⟩, ⟨none, 0, 0, []⟩⟩ : Tn))) (V := ([.slice (hd a15) 1 c16] : List Value)) (k := 0) H (i := 1) rfl (fun c _ => tnE_len c) rfl rfl rfl (by rfl) cs49 (by simp [Value.oneCell']) (show [((⟨([97] : List UInt8), key, 1000, 1, ⟨none, 0, 0, []⟩, ⟨none, 0, 0, []⟩, ⟨none, 0, 0, []⟩⟩ : Tn))][0]? = some ((⟨([97] : List UInt8), key, 1000, 1, ⟨none, 0, 0, []⟩, ⟨none, 0, 0, []⟩, ⟨none, 0, 0, []⟩⟩ : Tn)) from rfl) (tnE_p4 _ (⟨hd a15, 1, c16, [(⟨of, ⟨hd a12, 3, c13, [68, 49, 0]⟩⟩ : Bl)]⟩)) (fun w H => ?_)); replace H : Hp _ w _ ([_, .own (some tb) 1 tc (([((⟨([97] : List UInt8), key, 1000, 1, ⟨hd a15, 1, c16, [(⟨of, ⟨hd a12, 3, c13, [68, 49, 0]⟩⟩ : Bl)]⟩, ⟨none, 0, 0, []⟩, ⟨none, 0, 0, []⟩⟩ : Tn))]).flatMap tnE) 53 38, _, _, .own (some b14) 1 1 (([((⟨of, ⟨hd a12, 3, c13, [68, 49, 0]⟩⟩ : Bl))]).flatMap blE) 92 33, .own a15 1 c16 (([((⟨of, ⟨hd a12, 3, c13, [68, 49, 0]⟩⟩ : Bl))]).flatMap blE) 92 33]) := H
  refine ⟨fun h => Bool.noConfusion (h : true = false), ?_⟩
  clear HS
  refine z_done (by kernel_rfl) ?_; refine rG ?_; refine l_op (o_callR Tryz.func18 rfl rfl rfl (only_ret _ (201)) ?_); rintro _ w ⟨rfl, Hc⟩
  replace H : Hp _ w _ ([_, _, _, _, _, _]) := H.call Hc
  clear Hc
  refine l_op (o_stW (C' := ansE (⟨201, ⟨none, 0, 0, []⟩⟩ : Ans)) H (i := 2) rfl rfl rfl cs43 (ansE_all _) (ansE_len _) (ansE_len _) (fun w H => ?_)); replace H : Hp _ w _ ([_, _, .blk b1 (ansE (⟨201, ⟨none, 0, 0, []⟩⟩ : Ans)) 43, _, _, _]) := H
  refine eN ?_
  refine cR ?_
  refine e_retc Tryz.results51 H (i := 2) rfl rfl rt43 (ansE_len _).symm ?_
  refine ⟨_, rfl, ?_⟩
  exact ⟨(_, _, _, _), rfl, (H.permL ((perm_front (j := 0) rfl).trans (.cons _ ((perm_front (j := 0) rfl).trans (.cons _ ((perm_front (j := 3) rfl).trans (.cons _ ((perm_front (j := 1) rfl).trans (.cons _ (.refl _)))))))))).sub (.cons_cons _ (.cons_cons _ (.cons_cons _ (.cons_cons _ (List.nil_sublist _)))))⟩
end Go.Proofs.YtmiabahejnjhiaaGreatDoor
namespace Go.Proofs.YtmiabahejnjhiaaGreatDoor
open Go
set_option maxRecDepth 100000
/-- the bytes of a manifest of this root, with no time and no label. -/
def m0B (r : Id32) : List UInt8 := [83, 49] ++ (r.1 ++ List.replicate 9 0)
theorem m0B_len (r : Id32) : (m0B r).length = 43 := by simp [m0B, r.2]
theorem m0B_root (r : Id32) : ((m0B r).drop 2).take 32 = r.1 := by
  show (r.1 ++ List.replicate 9 0).take 32 = r.1
  rw [List.take_left' r.2]
theorem m0B_drop (r : Id32) : (m0B r).drop 34 = List.replicate 9 0 := by
  show (r.1 ++ List.replicate 9 0).drop 32 = _
  rw [List.drop_left' r.2]
theorem m0B_num (r : Id32) : num (m0B r) 34 8 = 0 := by
  rw [num, m0B_drop]; rfl
theorem m0B_end (r : Id32) : (m0B r).drop 42 = [0] := by
  rw [show 42 = 34 + 8 from rfl, ← List.drop_drop, m0B_drop]; rfl
theorem at0_ret (w0 : World) (xa : Option Addr) (xc : Nat) (r : Id32) (hs : (⟨xa, 43, xc, m0B r⟩ : Sl).ok w0) : Ret Tryz.prog 117 [.slice xa 43 xc, VI 34, VI 8] w0 fun v w' => v = .tuple #[V64 0, VI 0] ∧ Hp w0 w' [] [] := by
  have h := at_ok w0 ⟨xa, 43, xc, m0B r⟩ hs 34 8 (by decide) (by decide) (by decide) (by show 42 ≤ 43; decide)
  rwa [show (⟨xa, 43, xc, m0B r⟩ : Sl).l = m0B r from rfl, m0B_num] at h
theorem smay0_ret (w0 : World) (of : Id32) :
    Ret Tryz.prog 127 [.agg (mfE (⟨of, 0, ([] : List UInt8)⟩ : Mf)).toArray] w0 fun v w' => v = .bool true ∧ Hp w0 w' [] [] := by
  refine ret_mk Tryz.func127 rfl Tryz.ntmps127 (by simp) ?_
  have H := Hp.refl w0 []
  refine rG ?_; refine l_op (o_box (v := .agg (mfE (⟨of, 0, ([] : List UInt8)⟩ : Mf)).toArray) H rfl (fun b1 w H hb1 => ?_)); replace H : Hp _ w _ ([.blk b1 (mfE (⟨of, 0, ([] : List UInt8)⟩ : Mf)) 56]) := H
  refine aZ ?_; refine eN ?_
  refine rG ?_; refine lV (r_fa rfl fo56_1) ?_; refine lV (r_l1 (v := VI 0) H (i := 0) rfl rfl ct2 (mfE_c1 _)) ?_; refine lV (r_bin (a := 0) (b := 0) rfl rfl (fun _ => b_lssB false (decide_eq_false (by decide)))) ?_; refine mV ?_; refine l_yes rfl rfl rfl (o_val (r_fa rfl fo56_2) ?_); refine l_yes rfl rfl rfl (o_val (r_l1 (v := .string ⟨(([] : List UInt8)).toArray⟩) H (i := 0) rfl rfl ct9 (mfE_c2 _)) ?_); refine l_yes rfl rfl rfl (o_val (r_lenstr (s := ⟨(([] : List UInt8)).toArray⟩) Tryz.underlying9 rfl) ?_); refine l_yes rfl rfl rfl (o_val (r_bin (a := 0) (b := 64) rfl rfl (fun _ => b_gtrB false (decide_eq_false (by decide)))) ?_); refine lV (r_pick rfl) ?_; refine eN ?_
  refine qN ?_; refine c_skip ?_; refine rG ?_; refine lV (r_fa rfl fo56_2) ?_; refine lV (r_l1 (v := .string ⟨(([] : List UInt8)).toArray⟩) H (i := 0) rfl rfl ct9 (mfE_c2 _)) ?_; refine lV (r_lenstr (s := ⟨(([] : List UInt8)).toArray⟩) Tryz.underlying9 rfl) ?_; refine mV ?_; refine eN ?_
  refine qB ?_; repeat refine c_seq ?_
  refine wp_loop_rounds 1 ?_; refine c_round ?_; refine rG ?_; refine lV (r_bin (a := 0) (b := 0) rfl rfl (fun _ => b_lssB false (decide_eq_false (by decide)))) ?_; refine eN ?_
  refine qN ?_; refine c_exit ?_; refine rG ?_; refine aZ ?_; refine eN ?_
  refine cR ?_
  refine e_ret1 (v := .bool true) Tryz.results127 rfl ?_
  refine ⟨_, rfl, ?_⟩
  exact ⟨rfl, H.sub (List.nil_sublist _)⟩
theorem smay160_ret (w0 : World) (of : Id32) :
    Ret Tryz.prog 24 [.agg (mfE (⟨of, 0, ([] : List UInt8)⟩ : Mf)).toArray] w0 fun v w' => v = .bool true ∧ Hp w0 w' [] [] := by
  refine ret_mk Tryz.func24 rfl Tryz.ntmps24 (by simp) ?_
  have H := Hp.refl w0 []
  refine rG ?_; refine l_op (o_box (v := .agg (mfE (⟨of, 0, ([] : List UInt8)⟩ : Mf)).toArray) H rfl (fun b1 w H hb1 => ?_)); replace H : Hp _ w _ ([.blk b1 (mfE (⟨of, 0, ([] : List UInt8)⟩ : Mf)) 56]) := H
  refine aZ ?_; refine eN ?_
  refine rG ?_; refine aZ ?_; refine eN ?_
  refine qB ?_; repeat refine c_seq ?_
  refine wp_loop_rounds 1 ?_; refine c_round ?_; refine rG ?_; refine mV ?_; refine lV (r_fa rfl fo56_2) ?_; refine lV (r_l1 (v := .string ⟨(([] : List UInt8)).toArray⟩) H (i := 0) rfl rfl ct9 (mfE_c2 _)) ?_; refine lV (r_lenstr (s := ⟨(([] : List UInt8)).toArray⟩) Tryz.underlying9 rfl) ?_; refine lV (r_bin (a := 0) (b := 0) rfl rfl (fun _ => b_lssB false (decide_eq_false (by decide)))) ?_; refine eN ?_
  refine qN ?_; refine c_exit ?_; refine rG ?_; refine lV (r_fa rfl fo56_1) ?_; refine lV (r_l1 (v := VI 0) H (i := 0) rfl rfl ct2 (mfE_c1 _)) ?_; refine lV (r_bin (a := 0) (b := 0) rfl rfl (fun _ => b_geqB true (decide_eq_true (by decide)))) ?_; refine mV ?_; refine l_yes rfl rfl rfl (o_val (r_fa rfl fo56_2) ?_); refine l_yes rfl rfl rfl (o_val (r_l1 (v := .string ⟨(([] : List UInt8)).toArray⟩) H (i := 0) rfl rfl ct9 (mfE_c2 _)) ?_); refine l_yes rfl rfl rfl (o_val (r_lenstr (s := ⟨(([] : List UInt8)).toArray⟩) Tryz.underlying9 rfl) ?_); refine l_yes rfl rfl rfl (o_val (r_bin (a := 0) (b := 64) rfl rfl (fun _ => b_leqB true (decide_eq_true (by decide)))) ?_); refine lV (r_pick rfl) ?_; refine aZ ?_; refine eN ?_
  refine cR ?_
  refine e_ret1 (v := .bool true) Tryz.results24 rfl ?_
  refine ⟨_, rfl, ?_⟩
  exact ⟨rfl, H.sub (List.nil_sublist _)⟩
theorem stake0_ret (w0 : World) (xa : Option Addr) (xc : Nat) (of : Id32) (hb : (⟨xa, 43, xc, m0B of⟩ : Sl).ok w0) :
    Ret Tryz.prog 88 [(⟨xa, 43, xc, m0B of⟩ : Sl).v] w0 fun v w' => v = .tuple #[.agg (mfE (⟨of, 0, []⟩ : Mf)).toArray, VI 0] ∧ Hp w0 w' [] [] := by
  refine ret_mk Tryz.func88 rfl Tryz.ntmps88 (by simp) ?_
  have H := Hp.refl w0 []
  have hsl := m0B_len of
  have hle : 43 ≤ xc := hb.le
  have hmx := hb.mx
  dsimp only at hmx
  refine rG ?_; refine l_op (o_alloc H zc56 (fun b1 w H hb1 => ?_)); replace H : Hp _ w _ ([.blk b1 (mfE (⟨zId, 0, ([] : List UInt8)⟩ : Mf)) 56]) := H
  refine aZ ?_; refine eN ?_
  refine rG ?_; refine aZ ?_; refine eN ?_
  refine rG ?_; refine mV ?_; refine lV (r_lens el33 rfl) ?_; refine mV ?_; refine lV (r_bin (a := 43) (b := 34) rfl rfl (fun _ => b_lssB false (decide_eq_false (by decide)))) ?_; refine mV ?_; refine l_yes rfl rfl rfl (o_val r_mv ?_); refine l_yes rfl rfl rfl (o_val (r_slS (s := (⟨xa, 43, xc, m0B of⟩ : Sl)) 0 2 xc (lv := none) (hv := some (VI 2)) (mv := none) rfl el33 rfl rfl rfl (fun w => by exact sbh 2 oM (by (try simp only []); omega) w)) ?_); refine l_yes rfl rfl rfl (o_val (r_b2S (s := (Sl.cut (⟨xa, 43, xc, m0B of⟩ : Sl) 0 2 xc)) Tryz.underlying33 Tryz.underlying5 Tryz.underlying9 rfl ((hb.up H (fun _ => apart_nil _)).cut (l := 0) (h := 2) (m := xc) oM (by (try simp only []); omega) oM (by (try simp only []); omega))) ?_); refine l_yes rfl rfl rfl (o_val (r_strne (a := ((m0B of).drop 0).take (2)) (b := ([83,49] : List UInt8)) rfl rfl) ?_); have hk2 : (!(decide (((m0B of).drop 0).take (2) = ([83,49] : List UInt8)))) = false := (by simp; rfl)
  refine lV (r_pick rfl) ?_; refine eN ?_
  repeat refine c_seq ?_
  refine c_no (by exact congrArg Value.bool hk2) ?_; refine c_skip ?_; refine rG ?_; refine mV ?_; refine mV ?_; refine l_op (o_callR Tryz.func117 rfl rfl rfl (at0_ret _ xa xc of (hb.up H (fun _ => apart_nil _))) ?_); rintro _ w ⟨rfl, Hc⟩
  replace H : Hp _ w _ ([_]) := H.call Hc
  clear Hc
  refine mV ?_; refine lV (r_ext rfl rfl) ?_; refine lV (r_ext rfl rfl) ?_; refine aZ ?_; refine aZ ?_; refine eN ?_
  refine rG ?_; refine mV ?_; refine lV (r_bin (a := 0) (b := 0) rfl rfl (fun _ => b_neqB false (decide_eq_false (by decide)))) ?_; refine mV ?_; refine l_yes rfl rfl rfl (o_val r_mv ?_); refine l_yes rfl rfl rfl (o_val (r_bin (a := ((0 : UInt64).toNat : Int)) (b := 9223372036854775807) rfl rfl (fun _ => b_gtrB false (decide_eq_false (by decide)))) ?_); refine lV (r_pick rfl) ?_; refine eN ?_
  refine qN ?_; refine c_skip ?_; refine rG ?_; refine mV ?_; refine mV ?_; refine lV (r_bin (a := 34) (b := 8) (v := VI 42) rfl rfl (fun _ => b_add oM oM)) ?_; refine lV (r_slS (s := (⟨xa, 43, xc, m0B of⟩ : Sl)) 42 43 xc (lv := some (VI 42)) (hv := none) (mv := none) rfl el33 rfl rfl rfl (fun w => by exact sbl 42 oM (by (try simp only []); omega) w)) ?_; refine l_op (o_callR Tryz.func118 rfl rfl rfl (ttxt0_ret _ (Sl.cut (⟨xa, 43, xc, m0B of⟩ : Sl) 42 43 xc) ((hb.up H (fun _ => apart_nil _)).cut (l := 42) (h := 43) (m := xc) oM (by (try simp only []); omega) oM (by (try simp only []); omega)) (by show 1 ≤ 43 - 42; decide) (show (((m0B of).drop 42).take 1).getD 0 0 = 0 from by rw [m0B_end]; rfl)) ?_); rintro _ w ⟨a3, c4, rfl, Hc⟩
  replace H : Hp _ w _ ([_, .own a3 0 c4 ((([] : List UInt8)).map V8) 5 1]) := H.call Hc
  clear Hc
  refine mV ?_; refine lV (r_ext rfl rfl) ?_; refine lV (r_ext rfl rfl) ?_; refine lV (r_ext rfl rfl) ?_; refine aZ ?_; refine aZ ?_; refine aZ ?_; refine eN ?_
  refine rG ?_; refine mV ?_; refine lV (r_bin (a := 0) (b := 0) rfl rfl (fun _ => b_neqB false (decide_eq_false (by decide)))) ?_; refine mV ?_; refine l_yes rfl rfl rfl (o_val r_mv ?_); refine l_yes rfl rfl rfl (o_val (r_bin (a := 34) (b := 8) (v := VI 42) rfl rfl (fun _ => b_add oM oM)) ?_); refine l_yes rfl rfl rfl (o_val r_mv ?_); refine l_yes rfl rfl rfl (o_val (r_bin (a := 42) (b := 1) (v := VI 43) rfl rfl (fun _ => b_add oM oM)) ?_); refine l_yes rfl rfl rfl (o_val r_mv ?_); refine l_yes rfl rfl rfl (o_val (r_lens el33 rfl) ?_); refine l_yes rfl rfl rfl (o_val (r_bin (a := 43) (b := 43) rfl rfl (fun _ => b_neqB false (decide_eq_false (by decide)))) ?_); refine lV (r_pick rfl) ?_; refine eN ?_
  refine qN ?_; refine c_skip ?_; repeat refine c_seq ?_
  refine heldH H mixed fun H => ?_
  have HS := H
  refine tK 0 rfl (fun w HS => r_mv) HS ?_; refine tK 1 rfl (fun w HS => r_mv) HS ?_; refine tK 2 rfl (fun w HS => r_slS (s := (⟨xa, 43, xc, m0B of⟩ : Sl)) 2 34 xc (lv := some (VI 2)) (hv := some (VI 34)) (mv := none) rfl el33 rfl rfl rfl (fun w => by exact sblh 2 34 oM oM (by (try simp only [Sl.cut]); omega) (by (try simp only []); omega) w)) HS ?_; refine tK 3 rfl (fun w HS => r_sap Tryz.underlying24 rfl (by (try simp only [Sl.cut]); omega)) HS ?_; have ah7 := (((hb.up HS (fun _ => apart_nil _)).cut (l := 2) (h := 34) (m := xc) oM (by (try simp only []); omega) oM (by (try simp only []); omega))).addr (by (try simp only [Sl.cut]); omega)
  obtain ⟨ab5, ao6, ah7⟩ := ah7
  refine tK 4 rfl (fun w HS => r_ldSE (s := (Sl.cut (⟨xa, 43, xc, m0B of⟩ : Sl) 2 34 xc)) (k := 32) ((hb.up HS (fun _ => apart_nil _)).cut (l := 2) (h := 34) (m := xc) oM (by (try simp only []); omega) oM (by (try simp only []); omega)) ah7 rfl rt24 (by decide) rfl) HS ?_; refine tK 5 rfl (fun w HS => r_mv) HS ?_; refine tK 6 rfl (fun w HS => r_conv (v := 0) Tryz.underlying25 Tryz.underlying2 rfl (w_i64_64 (x := 0) (by decide))) HS ?_; refine tK 7 rfl (fun w HS => r_mv) HS ?_; refine tK 8 rfl (fun w HS => r_b2S (s := ⟨hd a3, 0, c4, ([] : List UInt8)⟩) Tryz.underlying33 Tryz.underlying5 Tryz.underlying9 rfl (HS.slOwn (i := 1) rfl)) HS ?_; refine tK 9 rfl (fun w HS => r_bldG (Z := mfE (⟨zId, 0, ([] : List UInt8)⟩ : Mf)) (E := mfE (⟨(⟨((m0B of).drop 2).take (32), (show (((m0B of).drop 2).take (32)).length = 32 from (by simp only [List.length_take, List.length_drop]; omega))⟩ : Id32), 0, ([] : List UInt8)⟩ : Mf)) (pv := [(0, .agg ((((m0B of).drop 2).take (32)).map V8).toArray), (1, VI 0), (2, .string ⟨(([] : List UInt8)).toArray⟩)]) bd56 rfl rfl (.consP rfl (mfE_p0 _ (⟨((m0B of).drop 2).take (32), (show (((m0B of).drop 2).take (32)).length = 32 from (by simp only [List.length_take, List.length_drop]; omega))⟩ : Id32)) rfl (.consP rfl (mfE_p1 _ 0) rfl (.consP rfl (mfE_p2 _ ([] : List UInt8)) rfl (.nil _))))) HS ?_; refine tU 10 rfl (o_alloc H zc56 (fun b8 w H hb8 => ?_)); replace H : Hp _ w _ ([_, _, .blk b8 (mfE (⟨zId, 0, ([] : List UInt8)⟩ : Mf)) 56]) := H
  replace HS := H.sub (.cons_cons _ (.cons_cons _ (List.nil_sublist _)))
  refine ⟨HS, ?_⟩
  refine tU 11 rfl (o_stW (C' := mfE (⟨(⟨((m0B of).drop 2).take (32), (show (((m0B of).drop 2).take (32)).length = 32 from (by simp only [List.length_take, List.length_drop]; omega))⟩ : Id32), 0, ([] : List UInt8)⟩ : Mf)) H (i := 2) rfl rfl rfl cs56 (mfE_all _) (mfE_len _) (mfE_len _) (fun w H => ?_)); replace H : Hp _ w _ ([_, _, .blk b8 (mfE (⟨(⟨((m0B of).drop 2).take (32), (show (((m0B of).drop 2).take (32)).length = 32 from (by simp only [List.length_take, List.length_drop]; omega))⟩ : Id32), 0, ([] : List UInt8)⟩ : Mf)) 56]) := H
  replace HS := H.sub (.cons_cons _ (.cons_cons _ (List.nil_sublist _)))
  refine ⟨HS, ?_⟩
  refine t_done (by kernel_rfl) ?_
  clear HS
  refine rG ?_; refine lV (r_ldA (C := mfE (⟨(⟨((m0B of).drop 2).take (32), (show (((m0B of).drop 2).take (32)).length = 32 from (by simp only [List.length_take, List.length_drop]; omega))⟩ : Id32), 0, ([] : List UInt8)⟩ : Mf)) H (i := 2) rfl rfl rt56 (mfE_len _)) ?_; refine l_op (o_callR Tryz.func127 rfl rfl rfl (smay0_ret _ (⟨((m0B of).drop 2).take (32), (show (((m0B of).drop 2).take (32)).length = 32 from (by simp only [List.length_take, List.length_drop]; omega))⟩ : Id32)) ?_); rintro _ w ⟨rfl, Hc⟩
  replace H : Hp _ w _ ([_, _, _]) := H.call Hc
  clear Hc
  refine lV (r_not rfl) ?_; refine eN ?_
  refine qN ?_; refine c_skip ?_; refine rG ?_; refine lV (r_ldA (C := mfE (⟨(⟨((m0B of).drop 2).take (32), (show (((m0B of).drop 2).take (32)).length = 32 from (by simp only [List.length_take, List.length_drop]; omega))⟩ : Id32), 0, ([] : List UInt8)⟩ : Mf)) H (i := 2) rfl rfl rt56 (mfE_len _)) ?_; refine l_op (o_stW (C' := mfE (⟨(⟨((m0B of).drop 2).take (32), (show (((m0B of).drop 2).take (32)).length = 32 from (by simp only [List.length_take, List.length_drop]; omega))⟩ : Id32), 0, ([] : List UInt8)⟩ : Mf)) H (i := 0) rfl rfl rfl cs56 (mfE_all _) (mfE_len _) (mfE_len _) (fun w H => ?_)); replace H : Hp _ w _ ([.blk b1 (mfE (⟨(⟨((m0B of).drop 2).take (32), (show (((m0B of).drop 2).take (32)).length = 32 from (by simp only [List.length_take, List.length_drop]; omega))⟩ : Id32), 0, ([] : List UInt8)⟩ : Mf)) 56, _, _]) := H
  refine aZ ?_; refine eN ?_
  refine cR ?_
  refine e_retN (vs := [.agg (mfE (⟨(⟨((m0B of).drop 2).take (32), (show (((m0B of).drop 2).take (32)).length = 32 from (by simp only [List.length_take, List.length_drop]; omega))⟩ : Id32), 0, ([] : List UInt8)⟩ : Mf)).toArray, VI 0]) _ Tryz.results88 rfl (H.resR (C := mfE (⟨(⟨((m0B of).drop 2).take (32), (show (((m0B of).drop 2).take (32)).length = 32 from (by simp only [List.length_take, List.length_drop]; omega))⟩ : Id32), 0, ([] : List UInt8)⟩ : Mf)) (i := 0) rfl rfl rt56 (mfE_len _) (resT (v := VI 0) rfl (resZ))) ?_
  refine ⟨_, rfl, ?_⟩
  have e : ∀ h, (⟨((m0B of).drop 2).take 32, h⟩ : Id32) = of := fun _ => Subtype.ext (m0B_root of)
  refine ⟨?_, H.sub (List.nil_sublist _)⟩
  rw [e]
theorem sbytes0_ret (w0 : World) (of : Id32) :
    Ret Tryz.prog 11 [.agg (mfE (⟨of, 0, ([] : List UInt8)⟩ : Mf)).toArray] w0 fun v w' => ∃ a c, v = .tuple #[.slice (hd a) 43 c, VI 0] ∧ Hp w0 w' [] [.own a 43 c ((m0B of).map V8) 5 1] := by
  refine ret_mk Tryz.func11 rfl Tryz.ntmps11 (by simp) ?_
  have H := Hp.refl w0 []
  have hrl := of.2
  have hz0 : ([] : List UInt8).length = 0 := rfl
  refine rG ?_; refine l_op (o_box (v := .agg (mfE (⟨of, 0, ([] : List UInt8)⟩ : Mf)).toArray) H rfl (fun b1 w H hb1 => ?_)); replace H : Hp _ w _ ([.blk b1 (mfE (⟨of, 0, ([] : List UInt8)⟩ : Mf)) 56]) := H
  refine aZ ?_; refine aZ ?_; refine eN ?_
  refine rG ?_; refine lV (r_ldA (C := mfE (⟨of, 0, ([] : List UInt8)⟩ : Mf)) H (i := 0) rfl rfl rt56 (mfE_len _)) ?_; refine l_op (o_callR Tryz.func24 rfl rfl rfl (smay160_ret _ of) ?_); rintro _ w ⟨rfl, Hc⟩
  replace H : Hp _ w _ ([_]) := H.call Hc
  clear Hc
  refine lV (r_not rfl) ?_; refine eN ?_
  refine qN ?_; refine c_skip ?_; refine rG ?_; refine l_op (o_bslB ([(83 : UInt8), (49 : UInt8)]) H sl33 zc5 rfl rfl (by decide) (fun b2 w H hb2 => ?_)); replace H : Hp _ w _ ([_, .own (some b2) 2 2 (([(83 : UInt8), (49 : UInt8)]).map V8) 5 1]) := H
  replace H := H.toBlkB (i := 1) rfl
  refine l_op (o_lit H (i := 1) rfl Tryz.underlying33 Tryz.underlying5 rfl (fun w H => ?_)); replace H : Hp _ w _ ([_, .obj b2 (litO (([(83 : UInt8), (49 : UInt8)]).map V8) 5)]) := H
  refine lV (r_fa rfl fo56_0) ?_; refine lV (r_slAo (o := 0) (h := 32) (m := 32) (lv := none) (hv := none) (mv := none) rfl ar24 rfl rfl rfl (fun w => sbn w)) ?_; refine l_op (o_appX (s := (⟨some ⟨b2, 0, none⟩, 2, 2, [(83 : UInt8), (49 : UInt8)]⟩ : Sl)) (u := (⟨some ⟨b1, 0, none⟩, 32, 32, of.1⟩ : Sl)) (l' := [(83 : UInt8), (49 : UInt8)] ++ of.1) (len' := 34) rfl rfl H (ok_lit H (i := 1) rfl rfl rfl (by decide) (by decide)) (H.slMid (i := 0) rfl (mfE_c0 _) (by decide)) (by (try dsimp only); omega) sl33 Tryz.underlying33 rfl rfl oM (fun a3 c4 w H => ?_)); replace H : Hp _ w _ ([_, _, .own a3 34 c4 (([(83 : UInt8), (49 : UInt8)] ++ of.1).map V8) 5 1]) := H
  refine aZ ?_; refine eN ?_
  refine rG ?_; refine mV ?_; refine lV (r_fa rfl fo56_1) ?_; refine lV (r_l1 (v := VI 0) H (i := 0) rfl rfl ct2 (mfE_c1 _)) ?_; refine lV (r_conv (v := ((UInt64.ofNat 0).toNat : Int)) Tryz.underlying2 Tryz.underlying25 rfl (w_u64_N 0 oM)) ?_; refine l_op (o_callR Tryz.func25 rfl rfl rfl (eight_ret _ (UInt64.ofNat 0)) ?_); rintro _ w ⟨a5, c6, rfl, Hc⟩
  replace H : Hp _ w _ ([_, _, _, .own a5 8 c6 ((be (UInt64.ofNat 0).toNat 8).map V8) 5 1]) := H.call Hc
  clear Hc
  refine l_op (o_appB (s := ⟨hd a5, 8, c6, be (UInt64.ofNat 0).toNat 8⟩) (l' := [(83 : UInt8), (49 : UInt8)] ++ of.1 ++ (be (UInt64.ofNat 0).toNat 8)) (len' := 42) rfl rfl H (i := 2) rfl sl33 Tryz.underlying33 rfl rfl (H.slOwn (i := 3) rfl) oM (fun a7 c8 w H => ?_)); replace H : Hp _ w _ ([_, _, .own a7 42 c8 (([(83 : UInt8), (49 : UInt8)] ++ of.1 ++ (be (UInt64.ofNat 0).toNat 8)).map V8) 5 1, _]) := H
  refine aZ ?_; refine eN ?_
  refine rG ?_; refine mV ?_; refine lV (r_fa rfl fo56_2) ?_; refine lV (r_l1 (v := .string ⟨(([] : List UInt8)).toArray⟩) H (i := 0) rfl rfl ct9 (mfE_c2 _)) ?_; refine lV (r_lenstr (s := ⟨(([] : List UInt8)).toArray⟩) Tryz.underlying9 rfl) ?_; refine lV (r_conv (a := 0) (v := ((UInt8.ofNat 0).toNat : Int)) Tryz.underlying3 Tryz.underlying5 rfl (w_u8_N 0 oM)) ?_; refine l_op (o_bslB ([UInt8.ofNat 0]) H sl33 zc5 rfl rfl (by decide) (fun b9 w H hb9 => ?_)); replace H : Hp _ w _ ([_, _, _, _, .own (some b9) 1 1 (([UInt8.ofNat 0]).map V8) 5 1]) := H
  refine l_op (o_appB (s := ⟨hd (some b9), 1, 1, [UInt8.ofNat 0]⟩) (l' := [(83 : UInt8), (49 : UInt8)] ++ of.1 ++ (be (UInt64.ofNat 0).toNat 8) ++ ([UInt8.ofNat 0])) (len' := 43) rfl rfl H (i := 2) rfl sl33 Tryz.underlying33 rfl rfl (H.slOwn (i := 4) rfl) oM (fun a10 c11 w H => ?_)); replace H : Hp _ w _ ([_, _, .own a10 43 c11 (([(83 : UInt8), (49 : UInt8)] ++ of.1 ++ (be (UInt64.ofNat 0).toNat 8) ++ ([UInt8.ofNat 0])).map V8) 5 1, _, _]) := H
  refine aZ ?_; refine eN ?_
  refine rG ?_; refine mV ?_; refine lV (r_fa rfl fo56_2) ?_; refine lV (r_l1 (v := .string ⟨(([] : List UInt8)).toArray⟩) H (i := 0) rfl rfl ct9 (mfE_c2 _)) ?_; refine l_op (o_appS (l' := [(83 : UInt8), (49 : UInt8)] ++ of.1 ++ (be (UInt64.ofNat 0).toNat 8) ++ ([UInt8.ofNat 0]) ++ ([] : List UInt8)) (len' := 43 + ((([] : List UInt8)).length)) rfl rfl H (i := 2) rfl sl33 Tryz.underlying9 rfl rfl oM (fun a12 c13 w H => ?_)); replace H : Hp _ w _ ([_, _, .own a12 (43 + ((([] : List UInt8)).length)) c13 (([(83 : UInt8), (49 : UInt8)] ++ of.1 ++ (be (UInt64.ofNat 0).toNat 8) ++ ([UInt8.ofNat 0]) ++ ([] : List UInt8)).map V8) 5 1, _, _]) := H
  refine aZ ?_; refine aZ ?_; refine eN ?_
  refine cR ?_
  refine e_retN (vs := [.slice (hd a12) (43 + ((([] : List UInt8)).length)) c13, VI 0]) _ Tryz.results11 rfl (resT (v := .slice (hd a12) (43 + ((([] : List UInt8)).length)) c13) rfl (resT (v := VI 0) rfl (resZ))) ?_
  refine ⟨_, rfl, ?_⟩
  have e1 : [(83 : UInt8), (49 : UInt8)] ++ of.1 ++ (be (UInt64.ofNat 0).toNat 8) ++ ([UInt8.ofNat 0]) ++ ([] : List UInt8) = m0B of := by
    first | rfl | (simp [m0B]; done) | (simp [m0B]; rfl)
  rw [e1] at H
  exact ⟨_, _, rfl, H.sub (.cons _ (.cons _ (.cons_cons _ (List.nil_sublist _))))⟩
end Go.Proofs.YtmiabahejnjhiaaGreatDoor
namespace Go.Proofs.YtmiabahejnjhiaaGreatDoor
open Go
section
variable {P : Program} {ops : Array Oper} {Q : Exit → Act → World → Prop} {n l : Nat} {K : Act → World → Prop}
theorem rowsIn_round {row : String} {args : Array Value} {w : World} {R : Value → World → Prop} (h : Rows P row args w R) : RowsIn (Fence.wide.inRound l) n P row args w R :=
  fun c cs _ => let ⟨v, w', r, s⟩ := h c cs; ⟨v, w', r, stepsIn_wide.2 s⟩
theorem callsIn_round {f : FuncId} {args : Array Value} {w : World} {R : Ending → World → Prop} (h : Calls P f args w R) : CallsIn (Fence.wide.inRound l) n P f args w R := CallsIn.inRound l (callsIn_wide.2 h)
theorem uponIn_round {o : Oper} {a : Act} {r : Result Next} (h : o.upon P a K Q r) : o.uponIn (Fence.wide.inRound l) n P a K Q r := by
  cases r with
  | ok x w' =>
    cases x <;> simp only [Oper.upon, Oper.uponIn] at h ⊢ <;>
      first
        | exact h
        | exact ⟨fun h => (by cases h), callsIn_round h⟩
        | exact ⟨fun h => (by cases h), rowsIn_round h⟩
        | exact h.elim
  | halt x w' => cases x <;> simp only [Oper.upon, Oper.uponIn] at h ⊢ <;> exact h
/-- an operation is no 'defer'. -/
def Oper.plain (o : Oper) : Bool := match o.op with | .defer _ => false | _ => true
theorem semAt_plain {o : Oper} (h : Oper.plain o = true) (ρ : Operand → Value) : Oper.semAt (some l) ρ o = execOp ρ o := by
  unfold Oper.semAt
  unfold Oper.plain at h
  split
  · rename_i heq; rw [heq] at h; cases h
  · rfl
theorem wpIn_round {o : Oper} {a : Act} {w : World} (hp : Oper.plain o = true) (h : o.wp P a w K Q) : o.wpIn (Fence.wide.inRound l) n P a w K Q := by
  refine ⟨fun _ _ => trivial, ?_⟩
  rw [show (Fence.wide.inRound l).round = some l from rfl, semAt_plain hp]
  exact uponIn_round h
theorem wpOps_round (hp : ∀ o ∈ ops, Oper.plain o = true) (hQ : ¬ LetsOut Q) : ∀ (is : List Nat) (a : Act) (w : World), wpOps P ops Q is a w → wpOpsIn (Fence.wide.inRound l) n P ops Q is a w
  | [], a, w, h => h
  | i :: is, a, w, h => by
    unfold wpOps at h
    unfold wpOpsIn
    cases ho : ops[i]? with
    | none => rw [ho] at h; exact wpOps_round hp hQ is a w h
    | some o =>
      rw [ho] at h
      dsimp only at h ⊢
      by_cases hw : Region.wanted o (yielded ops a.tmps) = true
      · rw [if_pos hw] at h ⊢
        rcases h with h | h
        · refine wpIn_round (hp o (Array.mem_of_getElem? ho)) (Oper.wp_mono (fun a w h => wpOps_round hp hQ is a w h) h)
        · exact absurd h.2 hQ
      · rw [if_neg hw] at h ⊢
        exact ⟨fun _ _ => trivial, wpOps_round hp hQ is _ w h⟩
theorem wpList_round {L : Array Oper} (hp : ∀ o ∈ L, Oper.plain o = true) (hQ : ¬ LetsOut Q) : ∀ (is : List Oper) (a : Act) (w : World), (∀ o ∈ is, o ∈ L) → wpList P L Q is a w → wpListIn (Fence.wide.inRound l) n P L Q is a w
  | [], a, w, _, h => h
  | o :: is, a, w, hs, h => by
    unfold wpList at h
    unfold wpListIn
    by_cases hw : Region.wanted o (yielded L a.tmps) = true
    · rw [if_pos hw] at h ⊢
      rcases h with h | h
      · exact wpIn_round (hp o (hs o (List.mem_cons_self ..))) (Oper.wp_mono (fun a w h => wpList_round hp hQ is a w (fun o ho => hs o (List.mem_cons_of_mem _ ho)) h) h)
      · exact absurd h.2 hQ
    · rw [if_neg hw] at h ⊢
      exact ⟨fun _ _ => trivial, wpList_round hp hQ is _ w (fun o ho => hs o (List.mem_cons_of_mem _ ho)) h⟩
def plainAll (L : List Oper) : Bool := L.all Oper.plain
/-- a region that does not draw, in a round. -/
theorem i_region {id : Nat} {L : List Oper} {a : Act} {w : World} (hp : plainAll L = true) (hQ : ¬ LetsOut Q) (h : wpList P L.toArray Q L a w) : (Code.region id L.toArray false).wpIn (Fence.wide.inRound l) n P Q a w :=
  wpIn_region_lit (wpList_round (fun o ho => List.all_eq_true.1 hp o (by simpa using ho)) hQ L a w (fun o ho => by simpa using ho) h)
/-- .. that draws. -/
theorem i_held {id : Nat} {L : List Oper} {a : Act} {w : World} (S' : World → Prop) (hm : P.follows .mixedOrders = true) (hp : plainAll L = true) (hQ : ¬ LetsOut Q)
    (h : wpAnyH P .any L.toArray Q S' L.length (Array.replicate L.length false) a w.drew) : (Code.region id L.toArray true).wpIn (Fence.wide.inRound l) n P Q a w :=
  wpIn_region_draw fun t => by
    simp only [Region.schedule, hm, Bool.true_or, if_true]
    refine wpOps_round (fun o ho => List.all_eq_true.1 hp o (by simpa using ho)) hQ _ a _ ?_; exact wpAny_sound L.toArray.size t _ a _ (wpAny_of_held _ _ _ _ (by simpa using h))
end
end Go.Proofs.YtmiabahejnjhiaaGreatDoor
namespace Go.Proofs.YtmiabahejnjhiaaGreatDoor
open Go
section
variable {P : Program} {ops : Array Oper} {Q : Exit → Act → World → Prop} {n l m : Nat} {K : Act → World → Prop} {σ : Nat → Value} {w : World}
  {ty : TypeId} {pos : String} {aft : Array Edge} {g : Option (Nat × Bool)} {d : Nat} {rest : List Oper}
theorem uponIn_wide {o : Oper} {a : Act} {r : Result Next} (h : o.upon P a K Q r) : o.uponIn Fence.wide m P a K Q r := by
  cases r with
  | ok x w' =>
    cases x <;> simp only [Oper.upon, Oper.uponIn] at h ⊢ <;>
      first
        | exact h
        | exact ⟨fun h => (by cases h), callsIn_wide.2 h⟩
        | exact ⟨fun h => (by cases h), fun c cs _ => let ⟨v, w', r, s⟩ := h c cs; ⟨v, w', r, stepsIn_wide.2 s⟩⟩
        | exact h.elim
  | halt x w' => cases x <;> simp only [Oper.upon, Oper.uponIn] at h ⊢ <;> exact h
/-- an operation of a list in which 'yield' is called. -/
theorem y_op {op : Op} {dst : Option Tmp} {a : Act} (h : Oper.wp P ⟨dst, op, ty, pos, aft, none⟩ a w (wpListIn Fence.wide m P ops Q rest) Q) : wpListIn Fence.wide m P ops Q (⟨dst, op, ty, pos, aft, none⟩ :: rest) a w := by
  unfold wpListIn
  rw [if_pos (by simp [Region.wanted])]
  exact ⟨fun _ _ => trivial, uponIn_wide h⟩
theorem y_end {y : Code} {a : Act} (h : y.wp P Q a w) : wpListIn Fence.wide m P ops (Exit.then (y.wp P Q) Q) [] a w := h
/-- 'yield' is called. -/
theorem y_yield {x y : Operand} {ats : Array TypeId} {v : Value} {b : Bool} {R : World → Prop} (hx : ev n σ x = .func (.yield l) #[] #[]) (hnf : ∀ f, x ≠ .func f) (hy : ev n σ y = v)
    (hY : YieldAt Fence.wide (m - 1) P l #[v] w fun e W' => e = .returned (.bool b) ∧ R W')
    (h : ∀ W', R W' → wpListIn Fence.wide m P ops Q rest (mk n (up σ d (.bool b))) W') :
    wpListIn Fence.wide m P ops Q (⟨some d, .call ⟨.value x, #[y], ats⟩, ty, pos, aft, none⟩ :: rest) (mk n σ) w := by
  obtain ⟨fn, tmps, assign, body, hrun, hR⟩ := hY
  unfold wpListIn
  rw [if_pos (by simp [Region.wanted])]
  refine ⟨fun _ _ => trivial, ?_⟩
  have e : (execOp (mk n σ).eval ⟨some d, .call ⟨.value x, #[y], ats⟩, ty, pos, aft, none⟩).run P w = .ok (.round l fn tmps assign body) w := by
    rw [mk_evalf]
    cases x with
    | func f => exact absurd rfl (hnf f)
    | _ => simp [execOp, resolve, hx, hy, Deferred.ofValue, invoke, hrun]
  rw [show Fence.wide.round = none from rfl, Oper.semAt_none, e, Oper.uponIn_round]
  refine ⟨fun h => (by cases h), hR.mono fun e W' he => ?_⟩
  obtain ⟨he, hr⟩ := he
  subst he
  show wpListIn Fence.wide m P ops Q rest ((mk n σ).put (some d) (.bool b)) W'
  rw [mk_put]
  exact h W' hr
end
end Go.Proofs.YtmiabahejnjhiaaGreatDoor
namespace Go.Proofs.YtmiabahejnjhiaaGreatDoor
open Go
/-- a frame that has something to do at its end. -/
def mkD (n : Nat) (σ : Nat → Value) (ds : List Deferred) : Act := { mk n σ with defers := ds }
section
variable {P : Program} {Q : Exit → Act → World → Prop} {n l m i d : Nat} {K : Act → World → Prop} {σ : Nat → Value} {w w0 : World} {S : List Nat} {L : List Ch}
  {ty : TypeId} {pos : String} {aft : Array Edge} {g : Option (Nat × Bool)} {rest : List Oper} {ds : List Deferred} {ops : Array Oper}
theorem mkD_evalf : (mkD n σ ds).eval = ev n σ := by
  rw [← mk_evalf]; funext x; cases x <;> rfl
theorem mkD_put {v : Value} : (mkD n σ ds).put (some d) v = mkD n (up σ d v) ds := by
  show (mkD n σ ds).put (some d) v = { mk n (up σ d v) with defers := ds }
  rw [← mk_put]; rfl
theorem Hp.putObj {r : Nat} {o o' : Obj} (H : Hp w0 w S L) (hi : L[i]? = some (.obj r o)) : Hp w0 (w.putObj r o') S (L.set i (.obj r o')) := by
  have hr : w.heap[r]? = some o := H.has _ (List.mem_of_getElem? hi)
  have hlt := (Array.getElem?_eq_some_iff.1 hr).1
  refine H.turn hi (c' := .obj r o') (World.putObj_heap_same hlt) (fun b hb => .inl hb) rfl rfl rfl (by simp [World.putObj]) (fun b _ hne => World.putObj_heap_other fun e => hne (by rw [e]; rfl))
theorem d_val {op : Op} {v : Value} {w' : World} (hrun : (execOp (ev n σ) ⟨some d, op, ty, pos, aft, g⟩).run P w = .ok (.value v) w') (h : K (mkD n (up σ d v) ds) w') : Oper.wp P ⟨some d, op, ty, pos, aft, g⟩ (mkD n σ ds) w K Q := by
  unfold Oper.wp
  rw [mkD_evalf, hrun, Oper.upon_value, mkD_put]
  exact h
theorem d_callR {f : FuncId} {fn : Func} {args : Array Operand} {ats : Array TypeId} {vs : List Value} {R : Value → World → Prop} (hf : P.funcs[f]? = some fn) (hb : fn.body.isSome = true) (hname : (fn.name == "runtime.NumGoroutine") = false)
    (ha : evs n σ args.toList = vs) (hc : Ret P f vs w R) (h : ∀ v w', R v w' → K (mkD n (up σ d v) ds) w') : Oper.wp P ⟨some d, .call ⟨.value (.func f), args, ats⟩, ty, pos, aft, g⟩ (mkD n σ ds) w K Q := by
  unfold Oper.wp
  rw [mkD_evalf]
  have hn : fn.body ≠ none := by cases hh : fn.body <;> simp_all
  have hnm : fn.name ≠ "runtime.NumGoroutine" := by intro e; simp [e] at hname
  have hvs : args.map (ev n σ) = vs.toArray := by apply Array.ext'; rw [← ha, evs_eq]; simp
  have : (execOp (ev n σ) ⟨some d, .call ⟨.value (.func f), args, ats⟩, ty, pos, aft, g⟩).run P w = .ok (.enter f vs.toArray) w := by
    simp [execOp, resolve, ev, Deferred.ofValue, invoke, callFunc, hf, hnm, hn, hvs]
  rw [this, Oper.upon_enter]
  refine Calls.mono hc fun e w' ⟨v, he, hv⟩ => ?_
  subst he
  show K ((mkD n σ ds).put (some d) v) w'
  rw [mkD_put]; exact h v w' hv
theorem marks_calls {f : FuncId} {fn : Func} {c : Code} {args : List Value} {R : Ending → World → Prop} (hf : P.funcs[f]? = some fn) (hb : fn.body = some c) (hn : fn.ntmps = n) (hle : args.length ≤ n)
    (h : c.wp P (bodyPostM Fence.wide 1 P fn R) (mk n (fun t => args.getD t undef)) w) : Calls P f args.toArray w R := by
  refine callsIn_wide.1 (callsIn_of_wp_marks (F := Fence.wide) (n := 1) hf hb trivial ?_)
  rw [hn, enter_mk args n hle]
  exact wpIn_wide.2 h
theorem ret_mkM {f : FuncId} {fn : Func} {c : Code} {args : List Value} {R : Value → World → Prop} (hf : P.funcs[f]? = some fn) (hb : fn.body = some c) (hn : fn.ntmps = n) (hle : args.length ≤ n)
    (h : c.wp P (bodyPostM Fence.wide 1 P fn fun e w' => ∃ v, e = .returned v ∧ R v w') (mk n (fun t => args.getD t undef)) w) : Ret P f args w R := marks_calls hf hb hn hle h
theorem i_yes {c : Operand} {x y : Code} (hc : ev n σ c = .bool true) (h : x.wpIn (Fence.wide.inRound l) m P Q (mk n σ) w) : (Code.cond c x y).wpIn (Fence.wide.inRound l) m P Q (mk n σ) w := wpIn_cond_true ((mk_eval n σ c).trans hc) h
theorem i_no {c : Operand} {x y : Code} (hc : ev n σ c = .bool false) (h : y.wpIn (Fence.wide.inRound l) m P Q (mk n σ) w) : (Code.cond c x y).wpIn (Fence.wide.inRound l) m P Q (mk n σ) w := wpIn_cond_false ((mk_eval n σ c).trans hc) h
theorem i_skip {a : Act} (h : Q .normal a w) : Code.skip.wpIn (Fence.wide.inRound l) m P Q a w := wpIn_skip h
theorem i_block {id : Nat} {c : Code} {a : Act} (h : c.wpIn (Fence.wide.inRound l) m P (Exit.inBlock id Q) a w) : (Code.block id c).wpIn (Fence.wide.inRound l) m P Q a w := wpIn_block h
theorem i_end {y : Code} {a : Act} (h : y.wpIn (Fence.wide.inRound l) m P Q a w) : wpList P ops (Exit.then (y.wpIn (Fence.wide.inRound l) m P Q) Q) [] a w := h
def markD (D : Nat) : List Deferred := [{ target := .collected D, args := #[] }]
theorem m_ret1 {fn : Func} {R : Ending → World → Prop} {D : Nat} {t : Tmp} {v : Value} (h : fn.results = #[.tmp t]) (hv : ev n σ (.tmp t) = v) (H : Hp w0 w S L) (hi : L[i]? = some (.obj D (.deferred (some []))))
    (hR : ∀ w', Hp w0 w' S (L.eraseIdx i) → R (.returned v) w') : bodyPostM Fence.wide 1 P fn R .ret (mkD n σ (markD D)) w := by
  have hD : w.heap[D]? = some (.deferred (some [])) := H.has _ (List.mem_of_getElem? hi)
  have H2 := H.putObj (o' := .deferred none) hi
  refine ⟨by simp, .inl ⟨D, _, rfl, run_takeDeferred hD, ?_⟩⟩
  have hs : (L.set i (.obj D (.deferred none))).eraseIdx i = L.eraseIdx i := by
    rw [List.eraseIdx_set_eq]
  have H3 := H2.sub (List.eraseIdx_sublist _ i)
  rw [hs] at H3
  refine ⟨_, results_tmp h _ _ _, ?_⟩
  have e : (mkD n σ (markD D)).tmps.getD t undef = v := by rw [← hv]; exact mk_tmp n σ t
  rw [e]
  exact hR _ H3
theorem enters_callFunc {f : FuncId} {fn : Func} (hf : P.funcs[f]? = some fn) (hb : fn.body.isSome = true) (hname : (fn.name == "runtime.NumGoroutine") = false) (args : Array Value) (w : World) : (callFunc f args).run P w = .ok (.enter f args) w := by
  have hn : fn.body ≠ none := by cases hh : fn.body <;> simp_all
  have hnm : fn.name ≠ "runtime.NumGoroutine" := by intro e; simp [e] at hname
  simp [callFunc, hf, hnm, hn]
theorem c_rangeK {ι κ α : Type} {FX : List Ch} {Got : κ → α → Prop} {All : List κ → Prop} {I : List κ → ι → Prop} {x0 : ι} {itC : Nat → List κ → Ch} {kv : κ → Value} {gf : FuncId} {fnI : Func} {pb : Value} {op : Operand} {p : Tmp} {assign body : Code}
    (hf : P.funcs[gf]? = some fnI) (hb : fnI.body.isSome = true) (hname : (fnI.name == "runtime.NumGoroutine") = false)
    (hIt : ∀ (Lv : ι → List Ch) (l : Nat) (w1 : World), Hp w0 w1 S (FX ++ Lv x0) →
      (∀ (it : Nat) (vis : List κ) (x : ι) (k : κ) (a : α) (W : World), I vis x → Got k a → k ∉ vis → Hp w0 W S (itC it (vis ++ [k]) :: (FX ++ Lv x)) →
        YieldAt Fence.wide 0 P l #[kv k] W fun e W' => e = .returned (.bool true) ∧ ∃ x', I (vis ++ [k]) x' ∧ Hp w0 W' S (itC it (vis ++ [k]) :: (FX ++ Lv x'))) →
      Ret P gf [.func (.yield l) #[] #[], pb] w1 fun _ w' => ∃ vis x, I vis x ∧ All vis ∧ Hp w0 w' S (FX ++ Lv x))
    (hg : ev n σ op = .func (.func gf) #[] #[pb]) (Lv : ι → List Ch) (H : Hp w0 w S (FX ++ Lv x0))
    (hround : ∀ (l : Nat) (T : List Ch) (vis : List κ) (x : ι) (k : κ) (a : α) (W : World), I vis x → Got k a → k ∉ vis → Hp w0 W S (FX ++ (Lv x ++ T)) →
      assign.wpIn (Fence.wide.inRound l) 0 P (Exit.then (fun a₁ W₁ => ∃ Lb, Hp w0 W₁ S (Lb ++ T) ∧ ∀ T' W₂, Hp w0 W₂ S (Lb ++ T') →
        body.wpIn (Fence.wide.inRound l) 0 P (fun e _ W₃ => e = .normal ∧ ∃ x', I (vis ++ [k]) x' ∧ Hp w0 W₃ S (FX ++ (Lv x' ++ T'))) a₁ W₂) (fun _ _ _ => False)) (mk n (up σ p (kv k))) W)
    (hdone : ∀ (D : Nat) (vis : List κ) (x : ι) (w' : World), I vis x → All vis → Hp w0 w' S (Ch.obj D (.deferred (some [])) :: (FX ++ Lv x)) → Q .normal (mkD n σ (markD D)) w') :
    (Code.rangeFunc op #[p] assign body).wp P Q (mk n σ) w := by
  refine (wpIn_wide (n := 1)).1 (wpIn_rangeFunc ?_); intro fn _
  have hDn : w0.heap.size ≤ w.heap.size := H.size
  have H1 := (H.new (.deferred (some [])) (.obj w.heap.size (.deferred (some []))) rfl (heap_alloc_new' w _))
  generalize hrec : (fun (st : LoopState) (pe : Option Code) => ({ state := st, pending := pe, fn, tmps := (mk n σ).tmps, params := #[p], assign, body, defers := w.heap.size } : Loop)) = rec
  have H2 := H1.new (.loop (rec .ready none)) (.obj (w.heap.size + 1) (.loop (rec .ready none))) (by simp [Ch.key]) (by have := heap_alloc_new' (w.alloc (.deferred (some []))) (.loop (rec .ready none)); simpa [Ch.ok] using this)
  generalize hW1 : (w.alloc (.deferred (some []))).alloc (.loop (rec .ready none)) = W1 at H2
  generalize hD : w.heap.size = D at *
  have P1 : ∀ (x : ι) (o : Obj), (FX ++ (Lv x ++ [Ch.obj D (.deferred (some [])), Ch.obj (D + 1) o])).Perm (FX ++ Lv x ++ [Ch.obj D (.deferred (some []))] ++ [Ch.obj (D + 1) o]) := fun x o => by
    rw [List.append_assoc, List.append_assoc]; exact .refl _
  have H3 : Hp w0 W1 S (FX ++ (fun x => Lv x ++ [Ch.obj D (.deferred (some [])), Ch.obj (D + 1) (.loop (rec .ready none))]) x0) := H2.permL (P1 x0 _).symm
  refine ⟨D + 1, markD D, W1, { target := .fn (.func gf) #[pb], args := #[.func (.yield (D + 1)) #[] #[]] }, W1, gf, #[.func (.yield (D + 1)) #[] #[]] ++ #[pb], W1, ?_, ?_, fun _ _ => trivial, ?_, fun h => (by cases h), ?_⟩
  · subst hD; rw [← hW1, ← hrec]; exact run_enterLoop_outer _ _ _ _ _
  · rw [mk_evalf]
    have hc : ev n σ (.const (.func (.yield (D + 1)) #[] #[])) = .func (.yield (D + 1)) #[] #[] := rfl
    cases op <;> simp [resolve, hg, hc, Deferred.ofValue]
  · simp [invoke, enters_callFunc hf hb hname]
  · refine callsIn_wide.2 ?_
    refine Calls.mono (hIt (fun x => Lv x ++ [Ch.obj D (.deferred (some [])), Ch.obj (D + 1) (.loop (rec .ready none))]) (D + 1) W1 H3 ?_) ?_
    · intro it vis x k a W hI hgot hk HW
      -- one round
      have HWp : Hp w0 W S (FX ++ (Lv x ++ [Ch.obj D (.deferred (some [])), Ch.obj (D + 1) (.loop (rec .ready none)), itC it (vis ++ [k])])) := HW.permL (by
        have := (List.perm_append_comm (l₁ := [itC it (vis ++ [k])]) (l₂ := FX ++ (Lv x ++ [Ch.obj D (.deferred (some [])), Ch.obj (D + 1) (.loop (rec .ready none))])))
        rw [List.append_assoc, List.append_assoc] at this
        exact this)
      have hi : (FX ++ (Lv x ++ [Ch.obj D (.deferred (some [])), Ch.obj (D + 1) (.loop (rec .ready none)), itC it (vis ++ [k])]))[FX.length + ((Lv x).length + 1)]? = some (Ch.obj (D + 1) (.loop (rec .ready none))) := by
        rw [List.getElem?_append_right oM, Nat.add_sub_cancel_left, List.getElem?_append_right oM, Nat.add_sub_cancel_left]; rfl
      have hl : W.heap[D + 1]? = some (.loop (rec .ready none)) := HWp.has _ (List.mem_of_getElem? hi)
      have hy := run_yield (P := P) (args := #[kv k]) hl (by rw [← hrec]; rfl)
      refine ⟨_, _, _, _, hy, roundIn_of_wpIn trivial ?_⟩
      have hact : ({ tmps := ((rec .ready none).params.zip #[kv k]).foldl (fun tmps (x : Tmp × Value) => tmps.setIfInBounds x.1 x.2) (rec .ready none).tmps, defers := [] } : Act) = mk n (up σ p (kv k)) := by
        rw [← mk_put, ← hrec]
        simp [Act.put, mk_defers]
      rw [hact]
      have ha : (rec .ready none).assign = assign := by rw [← hrec]
      have hbd : (rec .ready none).body = body := by rw [← hrec]
      rw [ha, hbd]
      refine wpIn_mono (hround (D + 1) _ vis x k a W hI hgot hk HWp) ?_; intro e a₁ W₁ hq
      cases e with
      | normal =>
        obtain ⟨Lb, HLb, hbody⟩ := hq
        have hi1 : (Lb ++ [Ch.obj D (.deferred (some [])), Ch.obj (D + 1) (.loop (rec .ready none)), itC it (vis ++ [k])])[Lb.length + 1]? = some (Ch.obj (D + 1) (.loop (rec .ready none))) := by
          rw [List.getElem?_append_right oM, Nat.add_sub_cancel_left]; rfl
        have hl1 : W₁.heap[D + 1]? = some (.loop (rec .ready none)) := HLb.has _ (List.mem_of_getElem? hi1)
        have hbg := run_beginRound (P := P) hl1 (by rw [← hrec])
        have H4 := HLb.putObj (o' := .loop { rec .ready none with state := .busy }) hi1
        rw [show (Lb ++ [Ch.obj D (.deferred (some [])), Ch.obj (D + 1) (.loop (rec .ready none)), itC it (vis ++ [k])]).set (Lb.length + 1) (.obj (D + 1) (.loop { rec .ready none with state := .busy })) = Lb ++ [Ch.obj D (.deferred (some [])), Ch.obj (D + 1) (.loop { rec .ready none with state := .busy }), itC it (vis ++ [k])] from by
          rw [List.set_append_right _ _ oM, Nat.add_sub_cancel_left]; rfl] at H4
        refine ⟨_, hbg, wpIn_mono (hbody _ _ H4) ?_⟩
        rintro e a₂ W₃ ⟨rfl, x', hI', H5⟩
        have hi2 : (FX ++ (Lv x' ++ [Ch.obj D (.deferred (some [])), Ch.obj (D + 1) (.loop { rec .ready none with state := .busy }), itC it (vis ++ [k])]))[FX.length + ((Lv x').length + 1)]? = some (Ch.obj (D + 1) (.loop { rec .ready none with state := .busy })) := by
          rw [List.getElem?_append_right oM, Nat.add_sub_cancel_left, List.getElem?_append_right oM, Nat.add_sub_cancel_left]; rfl
        have hl2 : W₃.heap[D + 1]? = some (.loop { rec .ready none with state := .busy }) := H5.has _ (List.mem_of_getElem? hi2)
        have hen := run_endRound (P := P) none hl2
        have H6 := H5.putObj (o' := .loop (rec .ready none)) hi2
        rw [List.set_append_right _ _ oM, Nat.add_sub_cancel_left, List.set_append_right _ _ oM, Nat.add_sub_cancel_left] at H6
        have hrr : ({ ({ rec .ready none with state := .busy } : Loop) with state := if (none : Option Code).isNone then .ready else .done, pending := none } : Loop) = rec .ready none := by rw [← hrec]; rfl
        rw [hrr] at hen
        refine ⟨_, _, hen, rfl, x', hI', H6.permL ?_⟩
        have := (List.perm_append_comm (l₁ := FX ++ (Lv x' ++ [Ch.obj D (.deferred (some [])), Ch.obj (D + 1) (.loop (rec .ready none))])) (l₂ := [itC it (vis ++ [k])]))
        rw [List.append_assoc, List.append_assoc] at this
        exact this
      | exit _ => exact hq.elim
      | ret => exact hq.elim
      | goto _ => exact hq.elim
      | panic _ => exact hq.elim
      | outgrown => exact hq.elim
    · rintro e W2 ⟨v, rfl, vis, x, hI, hA, HW⟩
      have hi : (FX ++ (Lv x ++ [Ch.obj D (.deferred (some [])), Ch.obj (D + 1) (.loop (rec .ready none))]))[FX.length + ((Lv x).length + 1)]? = some (Ch.obj (D + 1) (.loop (rec .ready none))) := by
        rw [List.getElem?_append_right oM, Nat.add_sub_cancel_left, List.getElem?_append_right oM, Nat.add_sub_cancel_left]; rfl
      have hl : W2.heap[D + 1]? = some (.loop (rec .ready none)) := HW.has _ (List.mem_of_getElem? hi)
      have hen := run_endLoop (P := P) hl (by rw [← hrec]; simp)
      have H6 := HW.putObj (o' := .loop { rec .ready none with state := .exhausted }) hi
      rw [List.set_append_right _ _ oM, Nat.add_sub_cancel_left, List.set_append_right _ _ oM, Nat.add_sub_cancel_left] at H6
      have hpn : (rec .ready none).pending = none := by rw [← hrec]
      refine ⟨none, _, hen.trans (congrArg (fun z => Result.ok z (W2.putObj (D + 1) (.loop { rec .ready none with state := .exhausted }))) hpn), ?_⟩
      · show Q .normal { tmps := (mk n σ).tmps, defers := markD D ++ (mk n σ).defers } _
        rw [mk_defers, List.append_nil]
        refine hdone D vis x _ hI hA ?_; have hp := (List.perm_append_comm (l₁ := FX ++ Lv x) (l₂ := [Ch.obj D (.deferred (some []))]))
        refine (H6.sub ?_).permL hp
        rw [List.append_assoc]
        exact List.Sublist.append_left (List.Sublist.append_left (.cons_cons _ (.cons _ (.refl _))) _) _
end
end Go.Proofs.YtmiabahejnjhiaaGreatDoor
namespace Go.Proofs.YtmiabahejnjhiaaGreatDoor
open Go Go.MapKept
set_option maxRecDepth 100000
def kA (x : Id32) : Value := .agg (x.1.map V8).toArray
theorem chkA_u8s (e : Bool) (l : List UInt8) (hl : l.length = 32) (w : World) (n : Nat) : (Instr.checkKey e (n + 2) 24 (.agg (l.map V8).toArray)).run Tryz.prog w = .ok () w := by
  obtain ⟨i, hi⟩ : ∃ i, Tryz.prog.info? 5 = some i := info_of_underlying (by kernel_rfl : Tryz.prog.underlying 5 = some (.int .u8))
  have hs : Tryz.prog.cellsOf 5 = 1 := by kernel_rfl
  rw [show n + 2 = (n + 1) + 1 from rfl, Instr.checkKey]
  simp only [Sem.run_bind, run_underlying (by kernel_rfl : Tryz.prog.underlying 24 = some (.array 32 5)), Result.andThen_ok]
  simp only [Std.Legacy.Range.forIn_eq_forIn_range', Std.Legacy.Range.size, Nat.sub_zero, Nat.add_one_sub_one, Nat.div_one]
  have each : ∀ j ∈ List.range' 0 32, j < 32 := by intro j hj; simpa using hj
  generalize List.range' 0 32 = is at each
  induction is with
  | nil => simp
  | cons j is ih =>
    have hj := each j (by simp)
    have p1 : (part 5 (l.map V8).toArray (j * Tryz.prog.cellsOf 5)).run Tryz.prog w = .ok (V8 (l.getD j 0)) w := by
      rw [hs, Nat.mul_one]
      exact part_cell (by kernel_rfl) (by rw [List.getElem?_toArray, Sl.get l j oM])
    have p2 : (Instr.checkKey e (n + 1) 5 (V8 (l.getD j 0))).run Tryz.prog w = .ok () w := run_checkKey (d := .int .u8) (by kernel_rfl) (by simp [IsKey]) e n
    simp only [List.forIn_cons, Sem.run_bind, run_sizeOf w hi, Result.andThen_ok, p1, p2, Sem.run_pure]
    exact ih (fun y hy => each y (by simp [hy]))
theorem eqA (p q : Id32) (w : World) : (Op.equal 24 (kA p) (kA q)).run Tryz.prog w = .ok (decide (p = q)) w := by
  have h := eqI_u8s (P := Tryz.prog) (t := 24) (m := 32) (by kernel_rfl) (e := 5) (by kernel_rfl) (by kernel_rfl) 9998 p.1 q.1 p.2 q.2 (w := w)
  have e : decide (p.1 = q.1) = decide (p = q) := by
    rw [Bool.eq_iff_iff]
    simp only [decide_eq_true_eq]
    exact ⟨fun h => Subtype.ext h, fun h => by rw [h]⟩
  rw [← e]
  exact h
theorem sameA (p : Id32) : Instr.sameBits 10000 (kA p) (kA p) = true := by
  show Instr.sameBits (9999 + 1) (.agg _) (.agg _) = true
  simp only [Instr.sameBits, beq_self_eq_true, Bool.true_and, List.all_eq_true]
  intro x hx
  obtain ⟨i, hi, e⟩ := List.getElem_of_mem hx
  rw [List.getElem_zip] at e
  rw [← e]
  have hm := List.getElem_mem (l := p.1.map V8) (n := i) (by simpa using hi)
  simp only at hm ⊢
  generalize (p.1.map V8)[i]'(by simpa using hi) = v at hm
  obtain ⟨u, _, rfl⟩ := List.mem_map.1 hm; exact sameBits_self (d := .int .u8) (by simp [IsKey]) _
theorem keyA : KeyOf Tryz.prog 24 kA := KeyOf.ask (by kernel_rfl) (fun e p w => chkA_u8s e p.1 p.2 w 9998) eqA sameA
end Go.Proofs.YtmiabahejnjhiaaGreatDoor
namespace Go.Proofs.YtmiabahejnjhiaaGreatDoor
open Go
set_option maxRecDepth 100000
theorem keysItObj {ι α : Type} {w0 w1 : World} {S : List Nat} {bb b l c : Nat} {enc : α → Value} {M : List (Id32 × Value × Nat)} {F : Id32 → Option α} (hM : MOk M c) (hF : MIs enc M F) (Lv : ι → List Ch) (I : List Id32 → ι → Prop) (x0 : ι) (h0 : I [] x0) (H0 : Hp w0 w1 S (Ch.blk bb ([.map (some b)]) 198 :: Ch.obj b (mobj kA M c) :: Lv x0)) (hY : ∀ (it : Nat) (vis : List Id32) (x : ι) (k : Id32) (a : α) (W : World), I vis x → F k = some a → k ∉ vis → (∀ j ∈ vis, (F j).isSome = true) → vis.Nodup → Hp w0 W S (Ch.obj it (itO b M c (vis ++ [k])) :: Ch.blk bb ([.map (some b)]) 198 :: Ch.obj b (mobj kA M c) :: Lv x) → YieldAt Fence.wide 0 Tryz.prog l #[kA k] W fun e W' => e = .returned (.bool true) ∧ ∃ x', I (vis ++ [k]) x' ∧ Hp w0 W' S (Ch.obj it (itO b M c (vis ++ [k])) :: Ch.blk bb ([.map (some b)]) 198 :: Ch.obj b (mobj kA M c) :: Lv x')) :
    Ret Tryz.prog 182 [.func (.yield l) #[] #[], .pointer (some ⟨bb, 0, none⟩)] w1 fun _ w' => ∃ vis x, I vis x ∧ vis.Nodup ∧ (∀ k, k ∈ vis ↔ (F k).isSome = true) ∧ Hp w0 w' S (Ch.blk bb ([.map (some b)]) 198 :: Ch.obj b (mobj kA M c) :: Lv x) := by
  refine ret_mk Tryz.func182 rfl Tryz.ntmps182 (by simp) ?_
  have H := H0
  refine rG ?_; refine lV (r_ld H (i := 0) rfl rfl ct198 rfl) ?_; refine l_op (o_range (kv := kA) H (i := 1) rfl Tryz.underlying198 rfl (fun b1 w H hb1 => ?_)); replace H := H.rot
  replace H : Hp _ w _ (Ch.obj b1 (itO b M c ([])) :: Ch.blk bb ([.map (some b)]) 198 :: Ch.obj b (mobj kA M c) :: Lv x0) := H
  refine eN ?_
  refine qB ?_; repeat refine c_seq ?_
  refine c_loop2 (fun (vis : List Id32) (x : ι) => [(0, .func (.yield l) #[] #[]), (5, .pointer (some ⟨b1, 0, none⟩))])
    (fun (vis : List Id32) (x : ι) w => (vis.Nodup ∧ (∀ k ∈ vis, (F k).isSome = true) ∧ I vis x) ∧ Hp w0 w S (Ch.obj b1 (itO b M c vis) :: Ch.blk bb ([.map (some b)]) 198 :: Ch.obj b (mobj kA M c) :: Lv x))
    (fun (vis : List Id32) (x : ι) => M.length - vis.length) ([]) x0 ⟨rfl, rfl, trivial⟩ ⟨⟨List.nodup_nil, fun _ h => (by cases h), h0⟩, H⟩ ?_
  clear H
  rintro vis x τ w ⟨⟨hvn, hv, hI⟩, H⟩
  refine rG ?_; refine l_op (o_next (kv := kA) (enc := enc) H (i := 2) (j := 0) rfl rfl hM hF hv rfl (fun hall2 w H => ?_) (fun kk3 va4 hkf5 hkn6 w H => ?_))
  ·
   refine lV (r_ext rfl rfl) ?_; refine eN ?_
   refine qN ?_; refine c_exit ?_; refine eZ ?_; refine e_ret0 Tryz.results182 ?_
   refine ⟨_, rfl, ?_⟩
   exact ⟨vis, x, hI, hvn, fun k => ⟨hv k, hall2 k⟩, H.sub (.cons _ (.cons_cons _ (.cons_cons _ (List.Sublist.refl _))))⟩
  ·
   replace H : Hp _ w _ (Ch.obj b1 (itO b M c (vis ++ [kk3])) :: Ch.blk bb ([.map (some b)]) 198 :: Ch.obj b (mobj kA M c) :: Lv x) := H
   refine lV (r_ext rfl rfl) ?_; refine eN ?_
   refine qY ?_; refine c_skip ?_; refine qB ?_; refine rG ?_; refine lV (r_entry (kv := kA) (enc := enc) H (i := 2) (j := 0) rfl rfl hM hF hkf5 rfl) ?_; refine lV (r_ext rfl rfl) ?_; refine l_op (o_alloc H zc24 (fun b7 w H hb7 => ?_)); replace H := H.rot
   replace H : Hp _ w _ (Ch.blk b7 ((List.replicate 32 (0 : UInt8)).map V8) 24 :: Ch.obj b1 (itO b M c (vis ++ [kk3])) :: Ch.blk bb ([.map (some b)]) 198 :: Ch.obj b (mobj kA M c) :: Lv x) := H
   refine l_op (o_stA (l' := kk3.1) H (i := 0) rfl rfl rfl cs24 (show (List.replicate 32 (0 : UInt8)).length = 32 from (List.length_replicate ..)) (show (kk3.1).length = 32 from kk3.2) (fun w H => ?_)); replace H : Hp _ w _ (Ch.blk b7 ((kk3.1).map V8) 24 :: Ch.obj b1 (itO b M c (vis ++ [kk3])) :: Ch.blk bb ([.map (some b)]) 198 :: Ch.obj b (mobj kA M c) :: Lv x) := H
   refine eN ?_
   repeat refine c_seq ?_
   have hvs := vis_snoc hvn hv hkf5 hkn6
   have hvl := vis_le hF hvs.1 hvs.2
   rw [List.length_append, List.length_singleton] at hvl
   refine (wpIn_wide (n := 1)).1 ?_; refine wpIn_region_lit ?_; refine y_op (o_val r_mv ?_); refine y_op (o_val (r_ldAA (l := kk3.1) H (i := 0) rfl rfl rt24 (show (kk3.1).length = 32 from kk3.2)) ?_); have H1 := H.sub (.cons _ (.cons_cons _ (.cons_cons _ (.cons_cons _ (List.Sublist.refl _)))))
   have hy := hY _ vis x kk3 va4 _ hI hkf5 hkn6 hv hvn H1
   refine y_yield (v := kA kk3) (b := true) rfl (fun f e => by cases e) rfl hy ?_; rintro w ⟨x', hI', H2⟩
   clear H H1 hy; have H := H2; clear H2
   refine y_op (o_val (r_not rfl) ?_); refine y_end ?_; refine qN ?_; refine c_skip ?_; refine round_end (vis ++ [kk3], x') ?_ ?_ ?_
   · exact ⟨rfl, rfl, trivial⟩
   · refine ⟨?_, ?_⟩
     · try dsimp only
       exact ⟨hvs.1, hvs.2, hI'⟩
     · exact H
   · show M.length - (vis ++ [kk3]).length < M.length - vis.length; rw [List.length_append, List.length_singleton]; omega
theorem keysItInt {ι α : Type} {w0 w1 : World} {S : List Nat} {bb b l c : Nat} {enc : α → Value} {M : List (Id32 × Value × Nat)} {F : Id32 → Option α} (hM : MOk M c) (hF : MIs enc M F) (Lv : ι → List Ch) (I : List Id32 → ι → Prop) (x0 : ι) (h0 : I [] x0) (H0 : Hp w0 w1 S (Ch.blk bb ([.map (some b)]) 161 :: Ch.obj b (mobj kA M c) :: Lv x0)) (hY : ∀ (it : Nat) (vis : List Id32) (x : ι) (k : Id32) (a : α) (W : World), I vis x → F k = some a → k ∉ vis → (∀ j ∈ vis, (F j).isSome = true) → vis.Nodup → Hp w0 W S (Ch.obj it (itO b M c (vis ++ [k])) :: Ch.blk bb ([.map (some b)]) 161 :: Ch.obj b (mobj kA M c) :: Lv x) → YieldAt Fence.wide 0 Tryz.prog l #[kA k] W fun e W' => e = .returned (.bool true) ∧ ∃ x', I (vis ++ [k]) x' ∧ Hp w0 W' S (Ch.obj it (itO b M c (vis ++ [k])) :: Ch.blk bb ([.map (some b)]) 161 :: Ch.obj b (mobj kA M c) :: Lv x')) :
    Ret Tryz.prog 156 [.func (.yield l) #[] #[], .pointer (some ⟨bb, 0, none⟩)] w1 fun _ w' => ∃ vis x, I vis x ∧ vis.Nodup ∧ (∀ k, k ∈ vis ↔ (F k).isSome = true) ∧ Hp w0 w' S (Ch.blk bb ([.map (some b)]) 161 :: Ch.obj b (mobj kA M c) :: Lv x) := by
  refine ret_mk Tryz.func156 rfl Tryz.ntmps156 (by simp) ?_
  have H := H0
  refine rG ?_; refine lV (r_ld H (i := 0) rfl rfl ct161 rfl) ?_; refine l_op (o_range (kv := kA) H (i := 1) rfl Tryz.underlying161 rfl (fun b1 w H hb1 => ?_)); replace H := H.rot
  replace H : Hp _ w _ (Ch.obj b1 (itO b M c ([])) :: Ch.blk bb ([.map (some b)]) 161 :: Ch.obj b (mobj kA M c) :: Lv x0) := H
  refine eN ?_
  refine qB ?_; repeat refine c_seq ?_
  refine c_loop2 (fun (vis : List Id32) (x : ι) => [(0, .func (.yield l) #[] #[]), (5, .pointer (some ⟨b1, 0, none⟩))])
    (fun (vis : List Id32) (x : ι) w => (vis.Nodup ∧ (∀ k ∈ vis, (F k).isSome = true) ∧ I vis x) ∧ Hp w0 w S (Ch.obj b1 (itO b M c vis) :: Ch.blk bb ([.map (some b)]) 161 :: Ch.obj b (mobj kA M c) :: Lv x))
    (fun (vis : List Id32) (x : ι) => M.length - vis.length) ([]) x0 ⟨rfl, rfl, trivial⟩ ⟨⟨List.nodup_nil, fun _ h => (by cases h), h0⟩, H⟩ ?_
  clear H
  rintro vis x τ w ⟨⟨hvn, hv, hI⟩, H⟩
  refine rG ?_; refine l_op (o_next (kv := kA) (enc := enc) H (i := 2) (j := 0) rfl rfl hM hF hv rfl (fun hall2 w H => ?_) (fun kk3 va4 hkf5 hkn6 w H => ?_))
  ·
   refine lV (r_ext rfl rfl) ?_; refine eN ?_
   refine qN ?_; refine c_exit ?_; refine eZ ?_; refine e_ret0 Tryz.results156 ?_
   refine ⟨_, rfl, ?_⟩
   exact ⟨vis, x, hI, hvn, fun k => ⟨hv k, hall2 k⟩, H.sub (.cons _ (.cons_cons _ (.cons_cons _ (List.Sublist.refl _))))⟩
  ·
   replace H : Hp _ w _ (Ch.obj b1 (itO b M c (vis ++ [kk3])) :: Ch.blk bb ([.map (some b)]) 161 :: Ch.obj b (mobj kA M c) :: Lv x) := H
   refine lV (r_ext rfl rfl) ?_; refine eN ?_
   refine qY ?_; refine c_skip ?_; refine qB ?_; refine rG ?_; refine lV (r_entry (kv := kA) (enc := enc) H (i := 2) (j := 0) rfl rfl hM hF hkf5 rfl) ?_; refine lV (r_ext rfl rfl) ?_; refine l_op (o_alloc H zc24 (fun b7 w H hb7 => ?_)); replace H := H.rot
   replace H : Hp _ w _ (Ch.blk b7 ((List.replicate 32 (0 : UInt8)).map V8) 24 :: Ch.obj b1 (itO b M c (vis ++ [kk3])) :: Ch.blk bb ([.map (some b)]) 161 :: Ch.obj b (mobj kA M c) :: Lv x) := H
   refine l_op (o_stA (l' := kk3.1) H (i := 0) rfl rfl rfl cs24 (show (List.replicate 32 (0 : UInt8)).length = 32 from (List.length_replicate ..)) (show (kk3.1).length = 32 from kk3.2) (fun w H => ?_)); replace H : Hp _ w _ (Ch.blk b7 ((kk3.1).map V8) 24 :: Ch.obj b1 (itO b M c (vis ++ [kk3])) :: Ch.blk bb ([.map (some b)]) 161 :: Ch.obj b (mobj kA M c) :: Lv x) := H
   refine eN ?_
   repeat refine c_seq ?_
   have hvs := vis_snoc hvn hv hkf5 hkn6
   have hvl := vis_le hF hvs.1 hvs.2
   rw [List.length_append, List.length_singleton] at hvl
   refine (wpIn_wide (n := 1)).1 ?_; refine wpIn_region_lit ?_; refine y_op (o_val r_mv ?_); refine y_op (o_val (r_ldAA (l := kk3.1) H (i := 0) rfl rfl rt24 (show (kk3.1).length = 32 from kk3.2)) ?_); have H1 := H.sub (.cons _ (.cons_cons _ (.cons_cons _ (.cons_cons _ (List.Sublist.refl _)))))
   have hy := hY _ vis x kk3 va4 _ hI hkf5 hkn6 hv hvn H1
   refine y_yield (v := kA kk3) (b := true) rfl (fun f e => by cases e) rfl hy ?_; rintro w ⟨x', hI', H2⟩
   clear H H1 hy; have H := H2; clear H2
   refine y_op (o_val (r_not rfl) ?_); refine y_end ?_; refine qN ?_; refine c_skip ?_; refine round_end (vis ++ [kk3], x') ?_ ?_ ?_
   · exact ⟨rfl, rfl, trivial⟩
   · refine ⟨?_, ?_⟩
     · try dsimp only
       exact ⟨hvs.1, hvs.2, hI'⟩
     · exact H
   · show M.length - (vis ++ [kk3]).length < M.length - vis.length; rw [List.length_append, List.length_singleton]; omega
end Go.Proofs.YtmiabahejnjhiaaGreatDoor
