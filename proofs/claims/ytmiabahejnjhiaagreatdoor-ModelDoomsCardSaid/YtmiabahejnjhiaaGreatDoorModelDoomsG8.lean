/- Lemmas for the statement ModelDooms, part 8: rules of operations, walks through functions, plain laws. -/
import Derived.Test.YtmiabahejnjhiaaGreatDoorModelDoomsG7
namespace Go.Proofs.YtmiabahejnjhiaaGreatDoor
open Go
set_option maxRecDepth 100000
theorem rootsN_ret (w0 : World) (wb tb tc : Nat) (ws : Option Nat) (op : Opr) (ser : UInt64) (nm : List UInt8) (key : Id32) (q nx : Int) (bls : Gl Bl) (dms : Gl Dm) (hO : Own w0 [.blk wb (wrkE (⟨ws, op, (some tb), ser⟩ : Wrk)) 75, .own (some tb) 1 tc (([((⟨nm, key, q, nx, bls, ⟨none, 0, 0, []⟩, dms⟩ : Tn))]).flatMap tnE) 53 38]) :
    Ret Tryz.prog 103 [.pointer (some ⟨wb, 0, none⟩)] w0 fun v w' => v = .slice none 0 0 ∧ Hp w0 w' (keys hO.l) hO.l := by
  refine ret_mk Tryz.func103 rfl Tryz.ntmps103 (by simp) ?_
  have H := hO.start
  refine rG ?_; refine aZ ?_; refine eN ?_
  refine rG ?_; refine aZ ?_; refine eN ?_
  refine rG ?_; refine mV ?_; refine lV (r_nilc rfl) ?_; refine lV (r_fa rfl fo75_2) ?_; refine lV (r_l1 (v := .pointer (some ⟨tb, 0, none⟩)) H (i := 0) rfl rfl ct73 (wrkE_c2 _)) ?_; refine lV (r_nilc rfl) ?_; refine lV (r_fa rfl fo53_5) ?_; refine lV (r_g1 (v := .slice none 0 0) (s := (⟨hd (some tb), 1, tc, [((⟨nm, key, q, nx, bls, ⟨none, 0, 0, []⟩, dms⟩ : Tn))]⟩ : Gl Tn)) (j := 0) (H.glOwn (i := 1) rfl (by decide) (fun c _ => tnE_len c)) rfl rfl ct50 rfl (by decide) (tnE_c5 _)) ?_; refine lV (r_lens el50 rfl) ?_; refine mV ?_; refine eN ?_
  refine qB ?_; repeat refine c_seq ?_
  refine wp_loop_rounds 2 ?_; refine c_round ?_; refine rG ?_; refine lV (r_bin (a := 0) (b := 0) rfl rfl (fun _ => b_lssB false (decide_eq_false (by decide)))) ?_; refine eN ?_
  refine qN ?_; refine c_exit ?_; refine rG ?_; refine mV ?_; refine aZ ?_; refine eN ?_
  refine cR ?_
  refine e_ret1 (v := .slice none 0 0) Tryz.results103 rfl ?_
  refine ⟨_, rfl, ?_⟩
  exact ⟨rfl, H.sub (.cons_cons _ (.cons_cons _ (List.nil_sublist _)))⟩
theorem roots1_ret (w0 : World) (wb tb tc : Nat) (ws : Option Nat) (op : Opr) (ser : UInt64) (nm : List UInt8) (key : Id32) (q nx : Int) (bls : Gl Bl) (dms : Gl Dm) (sa : Option Nat) (sc : Nat) (of : Id32) (D : Int) (hO : Own w0 [.blk wb (wrkE (⟨ws, op, (some tb), ser⟩ : Wrk)) 75, .own (some tb) 1 tc (([((⟨nm, key, q, nx, bls, ⟨hd sa, 1, sc, [((⟨1, (⟨of, 0, ([] : List UInt8)⟩ : Mf), D⟩ : Sn))]⟩, dms⟩ : Tn))]).flatMap tnE) 53 38, .own sa 1 sc (([((⟨1, (⟨of, 0, ([] : List UInt8)⟩ : Mf), D⟩ : Sn))]).flatMap snE) 95 36]) :
    Ret Tryz.prog 103 [.pointer (some ⟨wb, 0, none⟩)] w0 fun v w' => ∃ a k, v = .slice (hd a) 1 k ∧ Hp w0 w' (keys hO.l) [.blk wb (wrkE (⟨ws, op, (some tb), ser⟩ : Wrk)) 75, .own (some tb) 1 tc (([((⟨nm, key, q, nx, bls, ⟨hd sa, 1, sc, [((⟨1, (⟨of, 0, ([] : List UInt8)⟩ : Mf), D⟩ : Sn))]⟩, dms⟩ : Tn))]).flatMap tnE) 53 38, .own sa 1 sc (([((⟨1, (⟨of, 0, ([] : List UInt8)⟩ : Mf), D⟩ : Sn))]).flatMap snE) 95 36, .own a 1 k (([of]).flatMap idE) 24 32] := by
  refine ret_mk Tryz.func103 rfl Tryz.ntmps103 (by simp) ?_
  have H := hO.start
  refine rG ?_; refine aZ ?_; refine eN ?_
  refine rG ?_; refine aZ ?_; refine eN ?_
  refine rG ?_; refine mV ?_; refine lV (r_nilc rfl) ?_; refine lV (r_fa rfl fo75_2) ?_; refine lV (r_l1 (v := .pointer (some ⟨tb, 0, none⟩)) H (i := 0) rfl rfl ct73 (wrkE_c2 _)) ?_; refine lV (r_nilc rfl) ?_; refine lV (r_fa rfl fo53_5) ?_; refine lV (r_g1 (v := .slice (hd sa) 1 sc) (s := (⟨hd (some tb), 1, tc, [((⟨nm, key, q, nx, bls, ⟨hd sa, 1, sc, [((⟨1, (⟨of, 0, ([] : List UInt8)⟩ : Mf), D⟩ : Sn))]⟩, dms⟩ : Tn))]⟩ : Gl Tn)) (j := 0) (H.glOwn (i := 1) rfl (by decide) (fun c _ => tnE_len c)) rfl rfl ct50 rfl (by decide) (tnE_c5 _)) ?_; refine lV (r_lens el50 rfl) ?_; refine mV ?_; refine eN ?_
  refine qB ?_; repeat refine c_seq ?_
  refine wp_loop_rounds 3 ?_; refine c_round ?_; refine rG ?_; refine lV (r_bin (a := 0) (b := 1) rfl rfl (fun _ => b_lssB true (decide_eq_true (by decide)))) ?_; refine eN ?_
  refine qY ?_; refine c_skip ?_; refine qB ?_; refine rG ?_; have ah5 := H.ownAddr (i := 2) rfl oM
  obtain ⟨ab4, ah5⟩ := ah5
  refine lV (r_isN 0 rfl rfl el50 ah5 oM (by (try simp only [Sl.cut]); omega)) ?_; refine lV (r_ldRow (s := (⟨hd sa, 1, sc, [((⟨1, (⟨of, 0, ([] : List UInt8)⟩ : Mf), D⟩ : Sn))]⟩ : Gl Sn)) (k := 0) (H.glOwn (i := 2) rfl (by decide) (fun c _ => snE_len c)) ah5 rfl rt95 (by decide) rfl) ?_; refine l_op (o_alloc H zc95 (fun b9 w H hb9 => ?_)); replace H : Hp _ w _ ([.blk wb (wrkE (⟨ws, op, (some tb), ser⟩ : Wrk)) 75, .own (some tb) 1 tc (([((⟨nm, key, q, nx, bls, ⟨hd sa, 1, sc, [((⟨1, (⟨of, 0, ([] : List UInt8)⟩ : Mf), D⟩ : Sn))]⟩, dms⟩ : Tn))]).flatMap tnE) 53 38, .own sa 1 sc (([((⟨1, (⟨of, 0, ([] : List UInt8)⟩ : Mf), D⟩ : Sn))]).flatMap snE) 95 36, .blk b9 (snE (⟨0, (⟨zId, 0, ([] : List UInt8)⟩ : Mf), 0⟩ : Sn)) 95]) := H
  refine l_op (o_stW (C' := snE (⟨1, (⟨of, 0, ([] : List UInt8)⟩ : Mf), D⟩ : Sn)) H (i := 3) rfl rfl rfl cs95 (snE_all _) (snE_len _) (snE_len _) (fun w H => ?_)); replace H : Hp _ w _ ([_, _, _, .blk b9 (snE (⟨1, (⟨of, 0, ([] : List UInt8)⟩ : Mf), D⟩ : Sn)) 95]) := H
  refine eN ?_
  refine rG ?_; refine mV ?_; refine lV (r_fa rfl fo95_1) ?_; refine lV (r_fa rfl fo56_0) ?_; refine lV (r_lk H (i := 3) rfl rfl rt24 ((snE_c1 _).comp (mfE_c0 _))) ?_; refine l_op (o_bslG1 (enc := idE) (of) H sl140 zc24 (by rfl) (by decide) (by decide) rfl (idE_len _) (fun b10 w H hb10 => ?_)); replace H : Hp _ w _ ([_, _, _, _, .own (some b10) 1 1 (([of]).flatMap idE) 24 32]) := H
  replace H : Hp _ _ _ ([_, _, _, _, _, .own none 0 0 ((([] : List Id32)).flatMap idE) 24 32]) := H.nilEnd 24 32
  refine l_op (o_appG (enc := idE) (s := ⟨hd (some b10), 1, 1, [of]⟩) (l' := [of]) (len' := 1) rfl (Nat.zero_add _) H (i := 5) rfl sl140 Tryz.underlying140 rfl rfl (H.glOwn (i := 4) rfl (by decide) (fun c _ => idE_len c)) (by decide) (fun c _ => idE_all c) oM (by decide) (fun a11 c12 w H => ?_)); replace H : Hp _ w _ ([_, _, _, _, _, .own a11 1 c12 (([of]).flatMap idE) 24 32]) := H
  refine aZ ?_; refine eN ?_
  refine rG ?_; refine lV (r_bin (a := 0) (b := 1) (v := VI 1) rfl rfl (fun _ => b_add oM oM)) ?_; refine mV ?_; refine eN ?_
  try dsimp only [Exit.then, Exit.inBlock]
  refine c_round ?_; refine rG ?_; refine lV (r_bin (a := 1) (b := 1) rfl rfl (fun _ => b_lssB false (decide_eq_false (by decide)))) ?_; refine eN ?_
  refine qN ?_; refine c_exit ?_; refine rG ?_; refine mV ?_; refine aZ ?_; refine eN ?_
  refine cR ?_
  refine e_ret1 (v := .slice (hd a11) 1 c12) Tryz.results103 rfl ?_
  refine ⟨_, rfl, ?_⟩
  exact ⟨_, _, rfl, (H.permL ((perm_front (j := 0) rfl).trans (.cons _ ((perm_front (j := 0) rfl).trans (.cons _ ((perm_front (j := 0) rfl).trans (.cons _ ((perm_front (j := 2) rfl).trans (.cons _ (.refl _)))))))))).sub (.cons_cons _ (.cons_cons _ (.cons_cons _ (.cons_cons _ (List.nil_sublist _)))))⟩
theorem reach_put {F : Id32 → Option Int} {i : Nat} (h : ∀ k, 0 ≤ (F k).getD 0 ∧ (F k).getD 0 ≤ i) (e : Id32) : ∀ k, 0 ≤ (fput F e ((F e).getD 0 + 1) k).getD 0 ∧ (fput F e ((F e).getD 0 + 1) k).getD 0 ≤ (i + 1 : Nat) := by
  intro k
  have h1 := h k
  have h2 := h e
  rw [fput]
  split
  · show 0 ≤ (F e).getD 0 + 1 ∧ (F e).getD 0 + 1 ≤ _
    omega
  · omega
theorem sweep0_ret (w0 : World) (ws : Option Nat) (ser : UInt64) (wb tb tc : Nat) (key of of0 : Id32) (n : Int) (b s : Sl) (ba : Option Nat) (bc : Nat) (da : Option Nat) (dc : Nat) (sa : Option Nat) (sc : Nat) (now D : Int) (hD : D ≠ 0 ∧ D ≤ now) (hO : Own w0 [.blk wb (wrkE (⟨ws, (⟨15, ([97] : List UInt8), of0, n, 0, (0 : UInt8), b, s, now, zId⟩ : Opr), (some tb), ser⟩ : Wrk)) 75, .own (some tb) 1 tc (([((⟨([97] : List UInt8), key, 1000, 2, ⟨hd ba, 1, bc, [((⟨of, ⟨hd da, 3, dc, [68, 49, 0]⟩⟩ : Bl))]⟩, ⟨hd sa, 1, sc, [((⟨1, (⟨of, 0, ([] : List UInt8)⟩ : Mf), D⟩ : Sn))]⟩, ⟨none, 0, 0, []⟩⟩ : Tn))]).flatMap tnE) 53 38, .own ba 1 bc (([((⟨of, ⟨hd da, 3, dc, [68, 49, 0]⟩⟩ : Bl))]).flatMap blE) 92 33, .own da 3 dc (([68, 49, 0]).map V8) 5 1, .own sa 1 sc (([((⟨1, (⟨of, 0, ([] : List UInt8)⟩ : Mf), D⟩ : Sn))]).flatMap snE) 95 36]) :
    Ret Tryz.prog 63 [.pointer (some ⟨wb, 0, none⟩)] w0 fun v w' => ∃ x : Option Nat × Nat × List Sn × Sl, v = .agg (ansE (⟨200, x.2.2.2⟩ : Ans)).toArray ∧ Hp w0 w' (keys hO.l) [.blk wb (wrkE (⟨ws, (⟨15, ([97] : List UInt8), of0, n, 0, (0 : UInt8), b, s, now, zId⟩ : Opr), (some tb), ser⟩ : Wrk)) 75, .own (some tb) 1 tc (([⟨[97], key, 1000, 2, ⟨hd ba, 1, bc, [⟨of, ⟨hd da, 3, dc, [68, 49, 0]⟩⟩]⟩, ⟨hd x.1, 0, x.2.1, x.2.2.1⟩, ⟨none, 0, 0, []⟩⟩] : List Tn).flatMap tnE) 53 38, .own ba 1 bc (([((⟨of, ⟨hd da, 3, dc, [68, 49, 0]⟩⟩ : Bl))]).flatMap blE) 92 33, .own da 3 dc (([68, 49, 0]).map V8) 5 1, .own x.1 0 x.2.1 (x.2.2.1.flatMap snE) 95 36] := by
  refine ret_mk Tryz.func63 rfl Tryz.ntmps63 (by simp) ?_
  have H := hO.start
  refine rG ?_; refine l_op (o_alloc H zc43 (fun b1 w H hb1 => ?_)); replace H : Hp _ w _ ([.blk wb (wrkE (⟨ws, (⟨15, ([97] : List UInt8), of0, n, 0, (0 : UInt8), b, s, now, zId⟩ : Opr), (some tb), ser⟩ : Wrk)) 75, .own (some tb) 1 tc (([((⟨([97] : List UInt8), key, 1000, 2, ⟨hd ba, 1, bc, [((⟨of, ⟨hd da, 3, dc, [68, 49, 0]⟩⟩ : Bl))]⟩, ⟨hd sa, 1, sc, [((⟨1, (⟨of, 0, ([] : List UInt8)⟩ : Mf), D⟩ : Sn))]⟩, ⟨none, 0, 0, []⟩⟩ : Tn))]).flatMap tnE) 53 38, .own ba 1 bc (([((⟨of, ⟨hd da, 3, dc, [68, 49, 0]⟩⟩ : Bl))]).flatMap blE) 92 33, .own da 3 dc (([68, 49, 0]).map V8) 5 1, .own sa 1 sc (([((⟨1, (⟨of, 0, ([] : List UInt8)⟩ : Mf), D⟩ : Sn))]).flatMap snE) 95 36, .blk b1 (ansE (⟨0, ⟨none, 0, 0, []⟩⟩ : Ans)) 43]) := H
  refine eN ?_
  refine rG ?_; refine aZ ?_; refine eN ?_
  refine rG ?_; refine aZ ?_; refine eN ?_
  refine rG ?_; refine mV ?_; refine lV (r_nilc rfl) ?_; refine lV (r_fa rfl fo75_2) ?_; refine lV (r_l1 (v := .pointer (some ⟨tb, 0, none⟩)) H (i := 0) rfl rfl ct73 (wrkE_c2 _)) ?_; refine lV (r_nilc rfl) ?_; refine lV (r_fa rfl fo53_5) ?_; refine lV (r_g1 (v := .slice (hd sa) 1 sc) (s := (⟨hd (some tb), 1, tc, [((⟨([97] : List UInt8), key, 1000, 2, ⟨hd ba, 1, bc, [((⟨of, ⟨hd da, 3, dc, [68, 49, 0]⟩⟩ : Bl))]⟩, ⟨hd sa, 1, sc, [((⟨1, (⟨of, 0, ([] : List UInt8)⟩ : Mf), D⟩ : Sn))]⟩, ⟨none, 0, 0, []⟩⟩ : Tn))]⟩ : Gl Tn)) (j := 0) (H.glOwn (i := 1) rfl (by decide) (fun c _ => tnE_len c)) rfl rfl ct50 rfl (by decide) (tnE_c5 _)) ?_; refine lV (r_lens el50 rfl) ?_; refine mV ?_; refine eN ?_
  refine qB ?_; repeat refine c_seq ?_
  refine wp_loop_rounds 3 ?_; refine c_round ?_; refine rG ?_; refine lV (r_bin (a := 0) (b := 1) rfl rfl (fun _ => b_lssB true (decide_eq_true (by decide)))) ?_; refine eN ?_
  refine qY ?_; refine c_skip ?_; refine qB ?_; refine rG ?_; have ah6 := H.ownAddr (i := 4) rfl oM
  obtain ⟨ab5, ah6⟩ := ah6
  refine lV (r_isN 0 rfl rfl el50 ah6 oM (by (try simp only [Sl.cut]); omega)) ?_; refine lV (r_ldRow (s := (⟨hd sa, 1, sc, [((⟨1, (⟨of, 0, ([] : List UInt8)⟩ : Mf), D⟩ : Sn))]⟩ : Gl Sn)) (k := 0) (H.glOwn (i := 4) rfl (by decide) (fun c _ => snE_len c)) ah6 rfl rt95 (by decide) rfl) ?_; refine l_op (o_alloc H zc95 (fun b10 w H hb10 => ?_)); replace H : Hp _ w _ ([_, _, _, _, _, _, .blk b10 (snE (⟨0, (⟨zId, 0, ([] : List UInt8)⟩ : Mf), 0⟩ : Sn)) 95]) := H
  refine l_op (o_stW (C' := snE (⟨1, (⟨of, 0, ([] : List UInt8)⟩ : Mf), D⟩ : Sn)) H (i := 6) rfl rfl rfl cs95 (snE_all _) (snE_len _) (snE_len _) (fun w H => ?_)); replace H : Hp _ w _ ([_, _, _, _, _, _, .blk b10 (snE (⟨1, (⟨of, 0, ([] : List UInt8)⟩ : Mf), D⟩ : Sn)) 95]) := H
  refine eN ?_
  repeat refine c_seq ?_
  refine heldH H mixed fun H => ?_
  have HS := H
  refine tK 0 rfl (fun w HS => r_mv) HS ?_; refine tK 1 rfl (fun w HS => r_bin (a := 0) (b := 4) rfl rfl (fun _ => b_lssB true (decide_eq_true (by decide)))) HS ?_; refine tK 2 rfl (fun w HS => r_mv) HS ?_; refine tG 3 rfl (yK rfl rfl rfl) (fun w HS => r_fa rfl fo95_2) HS ?_; refine tG 4 rfl (yK rfl rfl rfl) (fun w HS => r_l1 (v := VI D) HS (i := 6) rfl rfl ct2 (snE_c2 _)) HS ?_; refine tG 5 rfl (yK rfl rfl rfl) (fun w HS => r_bin (a := D) (b := 0) rfl rfl (fun _ => b_neqB true (decide_eq_true hD.1))) HS ?_; refine tK 6 rfl (fun w HS => r_pick rfl) HS ?_; refine tK 7 rfl (fun w HS => r_mv) HS ?_; refine tG 8 rfl (yK rfl rfl rfl) (fun w HS => r_fa rfl fo95_2) HS ?_; refine tG 9 rfl (yK rfl rfl rfl) (fun w HS => r_l1 (v := VI D) HS (i := 6) rfl rfl ct2 (snE_c2 _)) HS ?_; refine tG 10 rfl (yK rfl rfl rfl) (fun w HS => r_mv) HS ?_; refine tG 11 rfl (yK rfl rfl rfl) (fun w HS => r_nilc rfl) HS ?_; refine tG 12 rfl (yK rfl rfl rfl) (fun w HS => r_fa rfl fo75_1) HS ?_; refine tG 13 rfl (yK rfl rfl rfl) (fun w HS => r_fa rfl fo47_8) HS ?_; refine tG 14 rfl (yK rfl rfl rfl) (fun w HS => r_l1 (v := VI now) HS (i := 0) rfl rfl ct2 ((wrkE_c1 _).comp (oprE_c8 _))) HS ?_; refine tG 15 rfl (yK rfl rfl rfl) (fun w HS => r_bin (a := D) (b := now) rfl rfl (fun _ => b_leqB true (decide_eq_true hD.2))) HS ?_; refine tK 16 rfl (fun w HS => r_pick rfl) HS ?_; refine t_done (by kernel_rfl) ?_
  clear HS
  refine qY ?_; refine rG ?_; refine mV ?_; refine lV (r_bin (a := 0) (b := 1) (v := VI 1) rfl rfl (fun _ => b_add oM oM)) ?_; refine aZ ?_; refine eN ?_
  refine rG ?_; refine lV (r_bin (a := 0) (b := 1) (v := VI 1) rfl rfl (fun _ => b_add oM oM)) ?_; refine mV ?_; refine eN ?_
  try dsimp only [Exit.then, Exit.inBlock]
  refine c_round ?_; refine rG ?_; refine lV (r_bin (a := 1) (b := 1) rfl rfl (fun _ => b_lssB false (decide_eq_false (by decide)))) ?_; refine eN ?_
  refine qN ?_; refine c_exit ?_; refine rG ?_; refine mV ?_; refine lV (r_nilc rfl) ?_; refine lV (r_fa rfl fo75_2) ?_; refine lV (r_l1 (v := .pointer (some ⟨tb, 0, none⟩)) H (i := 0) rfl rfl ct73 (wrkE_c2 _)) ?_; refine mV ?_; refine lV (r_nilc rfl) ?_; refine lV (r_fa rfl fo53_5) ?_; refine l_op (o_stGVP (enc := tnE) (c' := ((⟨([97] : List UInt8), key, 1000, 2, ⟨hd ba, 1, bc, [((⟨of, ⟨hd da, 3, dc, [68, 49, 0]⟩⟩ : Bl))]⟩, ⟨none, 0, 0, []⟩, ⟨none, 0, 0, []⟩⟩ : Tn))) (V := ([.slice none 0 0] : List Value)) (k := 0) H (i := 1) rfl (fun c _ => tnE_len c) rfl rfl rfl (by rfl) cs50 (by simp [Value.oneCell']) (show [((⟨([97] : List UInt8), key, 1000, 2, ⟨hd ba, 1, bc, [((⟨of, ⟨hd da, 3, dc, [68, 49, 0]⟩⟩ : Bl))]⟩, ⟨hd sa, 1, sc, [((⟨1, (⟨of, 0, ([] : List UInt8)⟩ : Mf), D⟩ : Sn))]⟩, ⟨none, 0, 0, []⟩⟩ : Tn))][0]? = some ((⟨([97] : List UInt8), key, 1000, 2, ⟨hd ba, 1, bc, [((⟨of, ⟨hd da, 3, dc, [68, 49, 0]⟩⟩ : Bl))]⟩, ⟨hd sa, 1, sc, [((⟨1, (⟨of, 0, ([] : List UInt8)⟩ : Mf), D⟩ : Sn))]⟩, ⟨none, 0, 0, []⟩⟩ : Tn)) from rfl) (tnE_p5 _ (⟨none, 0, 0, []⟩)) (fun w H => ?_)); replace H : Hp _ w _ ([_, .own (some tb) 1 tc (([((⟨([97] : List UInt8), key, 1000, 2, ⟨hd ba, 1, bc, [((⟨of, ⟨hd da, 3, dc, [68, 49, 0]⟩⟩ : Bl))]⟩, ⟨none, 0, 0, []⟩, ⟨none, 0, 0, []⟩⟩ : Tn))]).flatMap tnE) 53 38, _, _, _, _, _]) := H
  refine eN ?_
  refine rG ?_; refine l_op (o_mmake kA H (fun b11 w H hb11 => ?_)); replace H : Hp _ w _ ([_, _, _, _, _, _, _, .obj b11 (mobj kA ([] : List (Id32 × Value × Nat)) 0)]) := H
  refine aZ ?_; refine eN ?_
  refine rG ?_; refine mV ?_; refine l_op (o_callR Tryz.func90 rfl rfl rfl (objects_ret _ _ _ _ _ _ _ _ _ _ _ _ _ _ _ _ _ _ (H.ownP (.refl _) rfl)) ?_); rintro _ w ⟨a12, c13, rfl, Hc⟩
  replace H := H.callP (.refl _) rfl Hc ((perm_front (j := 5) rfl).trans (.cons _ ((perm_front (j := 5) rfl).trans (.cons _ ((perm_front (j := 5) rfl).trans (.cons _ (.refl _)))))))
  clear Hc
  replace H : Hp _ w _ ([_, _, _, _, _, _, _, _, .own a12 1 c13 (([((⟨of, ⟨hd da, 3, dc, [68, 49, 0]⟩⟩ : Ob))]).flatMap obE) 191 33]) := H
  refine mV ?_; refine l_op (o_callR Tryz.func103 rfl rfl rfl (rootsN_ret _ _ _ _ _ _ _ _ _ _ _ _ _ (H.ownP (.refl _) rfl)) ?_); rintro _ w ⟨rfl, Hc⟩
  replace H := H.callP (.refl _) rfl Hc ((perm_front (j := 7) rfl).trans (.cons _ ((perm_front (j := 7) rfl).trans (.cons _ (.refl _)))))
  clear Hc
  replace H : Hp _ w _ [_, _, _, _, _, _, _, _, _] := H
  refine l_op (o_callR Tryz.func106 rfl rfl rfl (markN_ret _ _ _ _ _ _ (H.glOwn (i := 8) rfl (by decide) (fun c _ => obE_len c))) ?_); rintro _ w ⟨a14, k15, R16, hR17, rfl, Hc⟩
  replace H : Hp _ w _ ([_, _, _, _, _, _, _, _, _, .own a14 R16.length k15 ((R16).flatMap idE) 24 32]) := H.call Hc
  clear Hc
  refine lV (r_lens el140 rfl) ?_; refine mV ?_; refine eN ?_
  refine qB ?_; repeat refine c_seq ?_
  refine c_loop4 (fun (i : Nat) (M : List (Id32 × Value × Nat)) (c : Nat) (F : Id32 → Option Int) => [(0, .pointer (some ⟨wb, 0, none⟩)), (2, .pointer (some ⟨b1, 0, none⟩)), (3, VI 1), (7, .map (some b11)), (62, .slice (hd a14) R16.length k15), (63, VI (R16.length : Int)), (64, VI (i : Int))])
    (fun (i : Nat) (M : List (Id32 × Value × Nat)) (c : Nat) (F : Id32 → Option Int) w => (i ≤ R16.length ∧ MIs VI M F ∧ MOk M c ∧ (∀ k, 0 ≤ (F k).getD 0 ∧ (F k).getD 0 ≤ i)) ∧ Hp w0 w (keys hO.l) ([.blk wb (wrkE (⟨ws, (⟨15, ([97] : List UInt8), of0, n, 0, (0 : UInt8), b, s, now, zId⟩ : Opr), (some tb), ser⟩ : Wrk)) 75, .own (some tb) 1 tc (([((⟨([97] : List UInt8), key, 1000, 2, ⟨hd ba, 1, bc, [((⟨of, ⟨hd da, 3, dc, [68, 49, 0]⟩⟩ : Bl))]⟩, ⟨none, 0, 0, []⟩, ⟨none, 0, 0, []⟩⟩ : Tn))]).flatMap tnE) 53 38, .own ba 1 bc (([((⟨of, ⟨hd da, 3, dc, [68, 49, 0]⟩⟩ : Bl))]).flatMap blE) 92 33, .own da 3 dc (([68, 49, 0]).map V8) 5 1, .own sa 1 sc (([((⟨1, (⟨of, 0, ([] : List UInt8)⟩ : Mf), D⟩ : Sn))]).flatMap snE) 95 36, .blk b1 (ansE (⟨0, ⟨none, 0, 0, []⟩⟩ : Ans)) 43, .blk b10 (snE (⟨1, (⟨of, 0, ([] : List UInt8)⟩ : Mf), D⟩ : Sn)) 95, .obj b11 (mobj kA M c), .own a12 1 c13 (([((⟨of, ⟨hd da, 3, dc, [68, 49, 0]⟩⟩ : Ob))]).flatMap obE) 191 33, .own a14 R16.length k15 ((R16).flatMap idE) 24 32]))
    (fun (i : Nat) (M : List (Id32 × Value × Nat)) (c : Nat) (F : Id32 → Option Int) => R16.length - i) 0 ([]) 0 (fun _ => none) ⟨rfl, rfl, rfl, rfl, rfl, rfl, rfl, trivial⟩ ⟨⟨Nat.zero_le _, MIs.nil, MOk.nil, fun _ => ⟨Int.le_refl _, Int.le_refl _⟩⟩, H⟩ ?_
  clear H
  rintro i M c F τ w ⟨⟨hi, hF, hM, hB⟩, H⟩
  refine rG ?_; refine lV (r_bin (a := (i : Int)) (b := (R16.length : Int)) rfl rfl (fun _ => b_lss)) ?_; refine eN ?_
  by_cases hc18 : (i : Int) < (R16.length : Int)
  ·
   repeat refine c_seq ?_
   refine c_yes (by exact bT hc18) ?_; refine c_skip ?_; refine qB ?_; refine rG ?_; have ah20 := H.ownAddr (i := 9) rfl oM
   obtain ⟨ab19, ah20⟩ := ah20
   refine lV (r_isN i rfl rfl el140 ah20 oM (by (try simp only [Sl.cut]); omega)) ?_; have he22 : ∃ c, (R16)[i]? = some c := ⟨_, List.getElem?_eq_getElem (by have := ((H.glOwn (i := 9) rfl (by decide) (fun c _ => idE_len c))).ln; (try dsimp only at this ⊢); omega)⟩
   obtain ⟨e21, he22⟩ := he22
   have hez23 := ((H.glOwn (i := 9) rfl (by decide) (fun c _ => idE_len c))).sz e21 (List.mem_of_getElem? he22)
   refine lV (r_ldRow (s := (⟨hd a14, R16.length, k15, R16⟩ : Gl Id32)) (k := i) (H.glOwn (i := 9) rfl (by decide) (fun c _ => idE_len c)) ah20 rfl rt24 (by decide) he22) ?_; refine l_op (o_alloc H zc24 (fun b24 w H hb24 => ?_)); replace H : Hp _ w _ ([_, _, _, _, _, _, _, _, _, _, .blk b24 ((List.replicate 32 (0 : UInt8)).map V8) 24]) := H
   refine l_op (o_stA (l' := e21.1) H (i := 10) rfl rfl rfl cs24 (show (List.replicate 32 (0 : UInt8)).length = 32 from (List.length_replicate ..)) (show (e21.1).length = 32 from e21.2) (fun w H => ?_)); replace H : Hp _ w _ ([_, _, _, _, _, _, _, _, _, _, .blk b24 ((e21.1).map V8) 24]) := H
   refine eN ?_
   have hBe := hB e21
   repeat refine c_seq ?_
   refine c_join (fun τ w => ∃ σ, τ = ups σ [(0, .pointer (some ⟨wb, 0, none⟩)), (2, .pointer (some ⟨b1, 0, none⟩)), (3, VI 1), (7, .map (some b11)), (62, .slice (hd a14) R16.length k15), (63, VI (R16.length : Int)), (64, VI (i : Int))] ∧ Hp w0 w (keys hO.l) ([.blk wb (wrkE (⟨ws, (⟨15, ([97] : List UInt8), of0, n, 0, (0 : UInt8), b, s, now, zId⟩ : Opr), (some tb), ser⟩ : Wrk)) 75, .own (some tb) 1 tc (([((⟨([97] : List UInt8), key, 1000, 2, ⟨hd ba, 1, bc, [((⟨of, ⟨hd da, 3, dc, [68, 49, 0]⟩⟩ : Bl))]⟩, ⟨none, 0, 0, []⟩, ⟨none, 0, 0, []⟩⟩ : Tn))]).flatMap tnE) 53 38, .own ba 1 bc (([((⟨of, ⟨hd da, 3, dc, [68, 49, 0]⟩⟩ : Bl))]).flatMap blE) 92 33, .own da 3 dc (([68, 49, 0]).map V8) 5 1, .own sa 1 sc (([((⟨1, (⟨of, 0, ([] : List UInt8)⟩ : Mf), D⟩ : Sn))]).flatMap snE) 95 36, .blk b1 (ansE (⟨0, ⟨none, 0, 0, []⟩⟩ : Ans)) 43, .blk b10 (snE (⟨1, (⟨of, 0, ([] : List UInt8)⟩ : Mf), D⟩ : Sn)) 95, .obj b11 (mobj kA (mput e21 (VI (((F e21).getD (0 : Int)) + 1)) 0 (mput e21 ((mget M e21).getD (VI (0 : Int))) c M)) (mclk M e21 c)), .own a12 1 c13 (([((⟨of, ⟨hd da, 3, dc, [68, 49, 0]⟩⟩ : Ob))]).flatMap obE) 191 33, .own a14 R16.length k15 ((R16).flatMap idE) 24 32, .blk b24 ((e21.1).map V8) 24])) ?_ ?_; refine heldS H (H.sub (.cons_cons _ (.cons_cons _ (.cons_cons _ (.cons_cons _ (.cons_cons _ (.cons_cons _ (.cons_cons _ (.cons _ (.cons_cons _ (.cons_cons _ (.cons_cons _ (List.nil_sublist _))))))))))))) mixed fun H HS => ?_
   refine tK 0 rfl (fun w HS => r_mv) HS ?_; refine tK 1 rfl (fun w HS => r_ldAA (l := e21.1) HS (i := 9) rfl rfl rt24 (show (e21.1).length = 32 from e21.2)) HS ?_; refine t_all [2, 4] (by kernel_rfl) (by simp) (all_cons (w_op 2 rfl ?_) (all_cons (w_op 4 rfl ?_) (all_nil)))
   ·
    refine (o_val (r_lookF (k := e21) (0 : Int) hF H (i := 7) rfl Tryz.underlying161 keyA zv_i rfl rfl) ?_)
    replace HS := H.sub (.cons_cons _ (.cons_cons _ (.cons_cons _ (.cons_cons _ (.cons_cons _ (.cons_cons _ (.cons_cons _ (.cons _ (.cons_cons _ (.cons_cons _ (.cons_cons _ (List.nil_sublist _))))))))))))
    refine ⟨HS, ?_⟩
    refine tK 3 rfl (fun w HS => r_bin (a := ((F e21).getD (0 : Int))) (b := 1) rfl rfl (fun _ => b_add oM oM)) HS ?_; refine tU 4 rfl (o_ment (kv := kA) (k := e21) (z := VI (0 : Int)) H (i := 7) rfl Tryz.underlying161 keyA zv_i rfl rfl (fun w H => ?_)); replace H : Hp _ w _ ([_, _, _, _, _, _, _, .obj b11 (mobj kA (mput e21 ((mget M e21).getD (VI (0 : Int))) c M) (mclk M e21 c)), _, _, _]) := H
    replace HS := H.sub (.cons_cons _ (.cons_cons _ (.cons_cons _ (.cons_cons _ (.cons_cons _ (.cons_cons _ (.cons_cons _ (.cons _ (.cons_cons _ (.cons_cons _ (.cons_cons _ (List.nil_sublist _))))))))))))
    refine ⟨HS, ?_⟩
    refine tK 5 rfl (fun w HS => r_ext rfl rfl) HS ?_; refine tU 6 rfl (o_mset (kv := kA) (k := e21) (v := VI (((F e21).getD (0 : Int)) + 1)) (c' := 0) H (i := 7) rfl (hM.put e21 ((mget M e21).getD (VI (0 : Int)))) mborn_put.2 rfl rfl rfl (fun w H => ?_)); replace H : Hp _ w _ ([_, _, _, _, _, _, _, .obj b11 (mobj kA (mput e21 (VI (((F e21).getD (0 : Int)) + 1)) 0 (mput e21 ((mget M e21).getD (VI (0 : Int))) c M)) (mclk M e21 c)), _, _, _]) := H
    replace HS := H.sub (.cons_cons _ (.cons_cons _ (.cons_cons _ (.cons_cons _ (.cons_cons _ (.cons_cons _ (.cons_cons _ (.cons _ (.cons_cons _ (.cons_cons _ (.cons_cons _ (List.nil_sublist _))))))))))))
    refine ⟨HS, ?_⟩
    refine t_done (by kernel_rfl) ?_
    clear HS
    exact nrm_mk ⟨_, join_fit ⟨rfl, rfl, rfl, rfl, rfl, rfl, rfl, trivial⟩, H⟩
   ·
    refine (o_ment (kv := kA) (k := e21) (z := VI (0 : Int)) H (i := 7) rfl Tryz.underlying161 keyA zv_i rfl rfl (fun w H => ?_))
    replace H : Hp _ w _ ([_, _, _, _, _, _, _, .obj b11 (mobj kA (mput e21 ((mget M e21).getD (VI (0 : Int))) c M) (mclk M e21 c)), _, _, _]) := H
    replace HS := H.sub (.cons_cons _ (.cons_cons _ (.cons_cons _ (.cons_cons _ (.cons_cons _ (.cons_cons _ (.cons_cons _ (.cons _ (.cons_cons _ (.cons_cons _ (.cons_cons _ (List.nil_sublist _))))))))))))
    refine ⟨HS, ?_⟩
    refine tK 5 rfl (fun w HS => r_ext rfl rfl) HS ?_; refine tU 2 rfl (o_val (r_lookE (k := e21) (0 : Int) hF H (i := 7) rfl Tryz.underlying161 keyA zv_i rfl rfl) ?_); replace HS := H.sub (.cons_cons _ (.cons_cons _ (.cons_cons _ (.cons_cons _ (.cons_cons _ (.cons_cons _ (.cons_cons _ (.cons _ (.cons_cons _ (.cons_cons _ (.cons_cons _ (List.nil_sublist _))))))))))))
    refine ⟨HS, ?_⟩
    refine tK 3 rfl (fun w HS => r_bin (a := ((F e21).getD (0 : Int))) (b := 1) rfl rfl (fun _ => b_add oM oM)) HS ?_; refine tU 6 rfl (o_mset (kv := kA) (k := e21) (v := VI (((F e21).getD (0 : Int)) + 1)) (c' := 0) H (i := 7) rfl (hM.put e21 ((mget M e21).getD (VI (0 : Int)))) mborn_put.2 rfl rfl rfl (fun w H => ?_)); replace H : Hp _ w _ ([_, _, _, _, _, _, _, .obj b11 (mobj kA (mput e21 (VI (((F e21).getD (0 : Int)) + 1)) 0 (mput e21 ((mget M e21).getD (VI (0 : Int))) c M)) (mclk M e21 c)), _, _, _]) := H
    replace HS := H.sub (.cons_cons _ (.cons_cons _ (.cons_cons _ (.cons_cons _ (.cons_cons _ (.cons_cons _ (.cons_cons _ (.cons _ (.cons_cons _ (.cons_cons _ (.cons_cons _ (List.nil_sublist _))))))))))))
    refine ⟨HS, ?_⟩
    refine t_done (by kernel_rfl) ?_
    clear HS
    exact nrm_mk ⟨_, join_fit ⟨rfl, rfl, rfl, rfl, rfl, rfl, rfl, trivial⟩, H⟩
   clear H
   rintro _ w ⟨τ, rfl, H⟩
   refine rG ?_; refine lV (r_bin (a := (i : Int)) (b := 1) rfl rfl (fun _ => b_add oM oM)) ?_; refine mV ?_; refine eN ?_
   refine round_end (i + 1, mput e21 (VI (((F e21).getD (0 : Int)) + 1)) 0 (mput e21 ((mget M e21).getD (VI (0 : Int))) c M), mclk M e21 c, fput F e21 (((F e21).getD (0 : Int)) + 1)) ?_ ?_ ?_
   · exact ⟨rfl, rfl, rfl, rfl, rfl, rfl, show VI ((i : Int) + 1) = VI ((i + 1 : Nat) : Int) from congrArg VI oM, trivial⟩
   · refine ⟨?_, ?_⟩
     · try dsimp only
       exact ⟨by omega, (MIs.ent hF e21 (((F e21).getD (0 : Int)) + 1)), (MOk.ent (hM.put e21 ((mget M e21).getD (VI (0 : Int))))), reach_put hB e21⟩
     · exact H.sub (.cons_cons _ (.cons_cons _ (.cons_cons _ (.cons_cons _ (.cons_cons _ (.cons_cons _ (.cons_cons _ (.cons_cons _ (.cons_cons _ (.cons_cons _ (List.nil_sublist _)))))))))))
   · show R16.length - (i + 1) < R16.length - i; omega
  ·
   repeat refine c_seq ?_
   refine c_no (by exact bF hc18) ?_; refine c_exit ?_; refine rG ?_; refine mV ?_; refine lV (r_nilc rfl) ?_; refine lV (r_fa rfl fo75_2) ?_; refine lV (r_l1 (v := .pointer (some ⟨tb, 0, none⟩)) H (i := 0) rfl rfl ct73 (wrkE_c2 _)) ?_; refine lV (r_nilc rfl) ?_; refine lV (r_fa rfl fo53_6) ?_; refine lV (r_g1 (v := .slice none 0 0) (s := (⟨hd (some tb), 1, tc, [((⟨([97] : List UInt8), key, 1000, 2, ⟨hd ba, 1, bc, [((⟨of, ⟨hd da, 3, dc, [68, 49, 0]⟩⟩ : Bl))]⟩, ⟨none, 0, 0, []⟩, ⟨none, 0, 0, []⟩⟩ : Tn))]⟩ : Gl Tn)) (j := 0) (H.glOwn (i := 1) rfl (by decide) (fun c _ => tnE_len c)) rfl rfl ct51 rfl (by decide) (tnE_c6 _)) ?_; refine l_op (o_callR Tryz.func37 rfl rfl rfl (cln37_ret _) ?_); rintro _ w ⟨rfl, Hc⟩
   replace H : Hp _ w _ ([_, _, _, _, _, _, _, _, _, _]) := H.call Hc
   clear Hc
   refine lV (r_lens el51 rfl) ?_; refine mV ?_; refine eN ?_
   refine qB ?_; repeat refine c_seq ?_
   refine wp_loop_rounds 3 ?_; refine c_round ?_; refine rG ?_; refine lV (r_bin (a := 0) (b := 0) rfl rfl (fun _ => b_lssB false (decide_eq_false (by decide)))) ?_; refine eN ?_
   refine qN ?_; refine c_exit ?_; refine rG ?_; refine mV ?_; refine l_op (o_callR Tryz.func91 rfl rfl rfl (numb1_ret _ (200) 1 oM) ?_); rintro _ w ⟨bd28, rfl, Hc⟩
   replace H : Hp _ w _ ([_, _, _, _, _, _, _, _, _, _]) := H.call Hc
   clear Hc
   refine l_op (o_stW (C' := ansE (⟨200, bd28⟩ : Ans)) H (i := 5) rfl rfl rfl cs43 (ansE_all _) (ansE_len _) (ansE_len _) (fun w H => ?_)); replace H : Hp _ w _ ([_, _, _, _, _, .blk b1 (ansE (⟨200, bd28⟩ : Ans)) 43, _, _, _, _]) := H
   refine eN ?_
   refine cR ?_
   refine e_retc Tryz.results63 H (i := 5) rfl rfl rt43 (ansE_len _).symm ?_
   refine ⟨_, rfl, ?_⟩
   exact ⟨(none, 0, [], _), rfl, ((H.permL (.refl _)).sub (.cons_cons _ (.cons_cons _ (.cons_cons _ (.cons_cons _ (List.nil_sublist _)))))).nilEnd 95 36⟩
theorem sweep1_ret (w0 : World) (ws : Option Nat) (ser : UInt64) (wb tb tc : Nat) (key of of0 : Id32) (n : Int) (b s : Sl) (ba : Option Nat) (bc : Nat) (da : Option Nat) (dc : Nat) (sa : Option Nat) (sc : Nat) (now D : Int) (hD : D = 0 ∨ now < D) (hO : Own w0 [.blk wb (wrkE (⟨ws, (⟨15, ([97] : List UInt8), of0, n, 0, (0 : UInt8), b, s, now, zId⟩ : Opr), (some tb), ser⟩ : Wrk)) 75, .own (some tb) 1 tc (([((⟨([97] : List UInt8), key, 1000, 2, ⟨hd ba, 1, bc, [((⟨of, ⟨hd da, 3, dc, [68, 49, 0]⟩⟩ : Bl))]⟩, ⟨hd sa, 1, sc, [((⟨1, (⟨of, 0, ([] : List UInt8)⟩ : Mf), D⟩ : Sn))]⟩, ⟨none, 0, 0, []⟩⟩ : Tn))]).flatMap tnE) 53 38, .own ba 1 bc (([((⟨of, ⟨hd da, 3, dc, [68, 49, 0]⟩⟩ : Bl))]).flatMap blE) 92 33, .own da 3 dc (([68, 49, 0]).map V8) 5 1, .own sa 1 sc (([((⟨1, (⟨of, 0, ([] : List UInt8)⟩ : Mf), D⟩ : Sn))]).flatMap snE) 95 36]) :
    Ret Tryz.prog 63 [.pointer (some ⟨wb, 0, none⟩)] w0 fun v w' => ∃ x : Option Nat × Nat × List Sn × Sl, v = .agg (ansE (⟨200, x.2.2.2⟩ : Ans)).toArray ∧ Hp w0 w' (keys hO.l) [.blk wb (wrkE (⟨ws, (⟨15, ([97] : List UInt8), of0, n, 0, (0 : UInt8), b, s, now, zId⟩ : Opr), (some tb), ser⟩ : Wrk)) 75, .own (some tb) 1 tc (([⟨[97], key, 1000, 2, ⟨hd ba, 1, bc, [⟨of, ⟨hd da, 3, dc, [68, 49, 0]⟩⟩]⟩, ⟨hd x.1, 1, x.2.1, x.2.2.1⟩, ⟨none, 0, 0, []⟩⟩] : List Tn).flatMap tnE) 53 38, .own ba 1 bc (([((⟨of, ⟨hd da, 3, dc, [68, 49, 0]⟩⟩ : Bl))]).flatMap blE) 92 33, .own da 3 dc (([68, 49, 0]).map V8) 5 1, .own x.1 1 x.2.1 (x.2.2.1.flatMap snE) 95 36] := by
  refine ret_mk Tryz.func63 rfl Tryz.ntmps63 (by simp) ?_
  have H := hO.start
  refine rG ?_; refine l_op (o_alloc H zc43 (fun b1 w H hb1 => ?_)); replace H : Hp _ w _ ([.blk wb (wrkE (⟨ws, (⟨15, ([97] : List UInt8), of0, n, 0, (0 : UInt8), b, s, now, zId⟩ : Opr), (some tb), ser⟩ : Wrk)) 75, .own (some tb) 1 tc (([((⟨([97] : List UInt8), key, 1000, 2, ⟨hd ba, 1, bc, [((⟨of, ⟨hd da, 3, dc, [68, 49, 0]⟩⟩ : Bl))]⟩, ⟨hd sa, 1, sc, [((⟨1, (⟨of, 0, ([] : List UInt8)⟩ : Mf), D⟩ : Sn))]⟩, ⟨none, 0, 0, []⟩⟩ : Tn))]).flatMap tnE) 53 38, .own ba 1 bc (([((⟨of, ⟨hd da, 3, dc, [68, 49, 0]⟩⟩ : Bl))]).flatMap blE) 92 33, .own da 3 dc (([68, 49, 0]).map V8) 5 1, .own sa 1 sc (([((⟨1, (⟨of, 0, ([] : List UInt8)⟩ : Mf), D⟩ : Sn))]).flatMap snE) 95 36, .blk b1 (ansE (⟨0, ⟨none, 0, 0, []⟩⟩ : Ans)) 43]) := H
  refine eN ?_
  refine rG ?_; refine aZ ?_; refine eN ?_
  refine rG ?_; refine aZ ?_; refine eN ?_
  refine rG ?_; refine mV ?_; refine lV (r_nilc rfl) ?_; refine lV (r_fa rfl fo75_2) ?_; refine lV (r_l1 (v := .pointer (some ⟨tb, 0, none⟩)) H (i := 0) rfl rfl ct73 (wrkE_c2 _)) ?_; refine lV (r_nilc rfl) ?_; refine lV (r_fa rfl fo53_5) ?_; refine lV (r_g1 (v := .slice (hd sa) 1 sc) (s := (⟨hd (some tb), 1, tc, [((⟨([97] : List UInt8), key, 1000, 2, ⟨hd ba, 1, bc, [((⟨of, ⟨hd da, 3, dc, [68, 49, 0]⟩⟩ : Bl))]⟩, ⟨hd sa, 1, sc, [((⟨1, (⟨of, 0, ([] : List UInt8)⟩ : Mf), D⟩ : Sn))]⟩, ⟨none, 0, 0, []⟩⟩ : Tn))]⟩ : Gl Tn)) (j := 0) (H.glOwn (i := 1) rfl (by decide) (fun c _ => tnE_len c)) rfl rfl ct50 rfl (by decide) (tnE_c5 _)) ?_; refine lV (r_lens el50 rfl) ?_; refine mV ?_; refine eN ?_
  refine qB ?_; repeat refine c_seq ?_
  refine wp_loop_rounds 3 ?_; refine c_round ?_; refine rG ?_; refine lV (r_bin (a := 0) (b := 1) rfl rfl (fun _ => b_lssB true (decide_eq_true (by decide)))) ?_; refine eN ?_
  refine qY ?_; refine c_skip ?_; refine qB ?_; refine rG ?_; have ah6 := H.ownAddr (i := 4) rfl oM
  obtain ⟨ab5, ah6⟩ := ah6
  refine lV (r_isN 0 rfl rfl el50 ah6 oM (by (try simp only [Sl.cut]); omega)) ?_; refine lV (r_ldRow (s := (⟨hd sa, 1, sc, [((⟨1, (⟨of, 0, ([] : List UInt8)⟩ : Mf), D⟩ : Sn))]⟩ : Gl Sn)) (k := 0) (H.glOwn (i := 4) rfl (by decide) (fun c _ => snE_len c)) ah6 rfl rt95 (by decide) rfl) ?_; refine l_op (o_alloc H zc95 (fun b10 w H hb10 => ?_)); replace H : Hp _ w _ ([_, _, _, _, _, _, .blk b10 (snE (⟨0, (⟨zId, 0, ([] : List UInt8)⟩ : Mf), 0⟩ : Sn)) 95]) := H
  refine l_op (o_stW (C' := snE (⟨1, (⟨of, 0, ([] : List UInt8)⟩ : Mf), D⟩ : Sn)) H (i := 6) rfl rfl rfl cs95 (snE_all _) (snE_len _) (snE_len _) (fun w H => ?_)); replace H : Hp _ w _ ([_, _, _, _, _, _, .blk b10 (snE (⟨1, (⟨of, 0, ([] : List UInt8)⟩ : Mf), D⟩ : Sn)) 95]) := H
  refine eN ?_
  repeat refine c_seq ?_
  refine c_join (fun τ w => ∃ σ, τ = ups σ [(0, .pointer (some ⟨wb, 0, none⟩)), (2, .pointer (some ⟨b1, 0, none⟩)), (3, VI 0), (4, .slice none 0 0), (6, .pointer (some ⟨b10, 0, none⟩)), (20, .slice (hd sa) 1 sc), (21, VI 1), (22, VI 0), (42, .bool false)] ∧ Hp w0 w (keys hO.l) ([.blk wb (wrkE (⟨ws, (⟨15, ([97] : List UInt8), of0, n, 0, (0 : UInt8), b, s, now, zId⟩ : Opr), (some tb), ser⟩ : Wrk)) 75, .own (some tb) 1 tc (([((⟨([97] : List UInt8), key, 1000, 2, ⟨hd ba, 1, bc, [((⟨of, ⟨hd da, 3, dc, [68, 49, 0]⟩⟩ : Bl))]⟩, ⟨hd sa, 1, sc, [((⟨1, (⟨of, 0, ([] : List UInt8)⟩ : Mf), D⟩ : Sn))]⟩, ⟨none, 0, 0, []⟩⟩ : Tn))]).flatMap tnE) 53 38, .own ba 1 bc (([((⟨of, ⟨hd da, 3, dc, [68, 49, 0]⟩⟩ : Bl))]).flatMap blE) 92 33, .own da 3 dc (([68, 49, 0]).map V8) 5 1, .own sa 1 sc (([((⟨1, (⟨of, 0, ([] : List UInt8)⟩ : Mf), D⟩ : Sn))]).flatMap snE) 95 36, .blk b1 (ansE (⟨0, ⟨none, 0, 0, []⟩⟩ : Ans)) 43, .blk b10 (snE (⟨1, (⟨of, 0, ([] : List UInt8)⟩ : Mf), D⟩ : Sn)) 95])) ?_ ?_; refine heldH H mixed fun H => ?_
  have HS := H
  refine tK 0 rfl (fun w HS => r_mv) HS ?_; refine tK 1 rfl (fun w HS => r_bin (a := 0) (b := 4) rfl rfl (fun _ => b_lssB true (decide_eq_true (by decide)))) HS ?_; refine tK 2 rfl (fun w HS => r_mv) HS ?_; refine tG 3 rfl (yK rfl rfl rfl) (fun w HS => r_fa rfl fo95_2) HS ?_; refine tG 4 rfl (yK rfl rfl rfl) (fun w HS => r_l1 (v := VI D) HS (i := 6) rfl rfl ct2 (snE_c2 _)) HS ?_; refine tG 5 rfl (yK rfl rfl rfl) (fun w HS => r_bin (a := D) (b := 0) rfl rfl (fun _ => b_neq)) HS ?_; refine tK 6 rfl (fun w HS => r_pick rfl) HS ?_; refine tK 7 rfl (fun w HS => r_mv) HS ?_
  by_cases hc11 : D ≠ 0
  ·
   refine tG 8 rfl (yK rfl rfl (by exact bT hc11)) (fun w HS => r_fa rfl fo95_2) HS ?_; refine tG 9 rfl (yK rfl rfl (by exact bT hc11)) (fun w HS => r_l1 (v := VI D) HS (i := 6) rfl rfl ct2 (snE_c2 _)) HS ?_; refine tG 10 rfl (yK rfl rfl (by exact bT hc11)) (fun w HS => r_mv) HS ?_; refine tG 11 rfl (yK rfl rfl (by exact bT hc11)) (fun w HS => r_nilc rfl) HS ?_; refine tG 12 rfl (yK rfl rfl (by exact bT hc11)) (fun w HS => r_fa rfl fo75_1) HS ?_; refine tG 13 rfl (yK rfl rfl (by exact bT hc11)) (fun w HS => r_fa rfl fo47_8) HS ?_; refine tG 14 rfl (yK rfl rfl (by exact bT hc11)) (fun w HS => r_l1 (v := VI now) HS (i := 0) rfl rfl ct2 ((wrkE_c1 _).comp (oprE_c8 _))) HS ?_; refine tG 15 rfl (yK rfl rfl (by exact bT hc11)) (fun w HS => r_bin (a := D) (b := now) rfl rfl (fun _ => b_leqB false (decide_eq_false oM))) HS ?_; refine tK 16 rfl (fun w HS => r_pick (b := true) (bT hc11)) HS ?_; refine t_done (by kernel_rfl) ?_
   clear HS
   exact nrm_mk ⟨_, join_fit ⟨rfl, rfl, rfl, rfl, rfl, rfl, rfl, rfl, rfl, trivial⟩, H⟩
  ·
   refine tN 8 rfl (yK rfl rfl (by exact bF hc11)) rfl HS ?_; refine tN 9 rfl (yK rfl rfl (by exact bF hc11)) rfl HS ?_; refine tN 10 rfl (yK rfl rfl (by exact bF hc11)) rfl HS ?_; refine tN 11 rfl (yK rfl rfl (by exact bF hc11)) rfl HS ?_; refine tN 12 rfl (yK rfl rfl (by exact bF hc11)) rfl HS ?_; refine tN 13 rfl (yK rfl rfl (by exact bF hc11)) rfl HS ?_; refine tN 14 rfl (yK rfl rfl (by exact bF hc11)) rfl HS ?_; refine tN 15 rfl (yK rfl rfl (by exact bF hc11)) rfl HS ?_; refine tK 16 rfl (fun w HS => r_pick (b := false) (bF hc11)) HS ?_; refine t_done (by kernel_rfl) ?_
   clear HS
   exact nrm_mk ⟨_, join_fit ⟨rfl, rfl, rfl, rfl, rfl, rfl, rfl, rfl, rfl, trivial⟩, H⟩
  clear H
  rintro _ w ⟨τ, rfl, H⟩
  refine qN ?_; refine rG ?_; refine mV ?_; refine lV (r_ldA (C := snE (⟨1, (⟨of, 0, ([] : List UInt8)⟩ : Mf), D⟩ : Sn)) H (i := 6) rfl rfl rt95 (snE_len _)) ?_; refine l_op (o_bslG1 (enc := snE) ((⟨1, (⟨of, 0, ([] : List UInt8)⟩ : Mf), D⟩ : Sn)) H sl50 zc95 (by rfl) (by decide) (by decide) rfl (snE_len _) (fun b12 w H hb12 => ?_)); replace H : Hp _ w _ ([_, _, _, _, _, _, _, .own (some b12) 1 1 (([(⟨1, (⟨of, 0, ([] : List UInt8)⟩ : Mf), D⟩ : Sn)]).flatMap snE) 95 36]) := H
  replace H : Hp _ _ _ ([_, _, _, _, _, _, _, _, .own none 0 0 ((([] : List Sn)).flatMap snE) 95 36]) := H.nilEnd 95 36
  refine l_op (o_appG (enc := snE) (s := ⟨hd (some b12), 1, 1, [(⟨1, (⟨of, 0, ([] : List UInt8)⟩ : Mf), D⟩ : Sn)]⟩) (l' := [(⟨1, (⟨of, 0, ([] : List UInt8)⟩ : Mf), D⟩ : Sn)]) (len' := 1) rfl (Nat.zero_add _) H (i := 8) rfl sl50 Tryz.underlying50 rfl rfl (H.glOwn (i := 7) rfl (by decide) (fun c _ => snE_len c)) (by decide) (fun c _ => snE_all c) oM (by decide) (fun a13 c14 w H => ?_)); replace H : Hp _ w _ ([_, _, _, _, _, _, _, _, .own a13 1 c14 (([(⟨1, (⟨of, 0, ([] : List UInt8)⟩ : Mf), D⟩ : Sn)]).flatMap snE) 95 36]) := H
  refine aZ ?_; refine eN ?_
  refine rG ?_; refine lV (r_bin (a := 0) (b := 1) (v := VI 1) rfl rfl (fun _ => b_add oM oM)) ?_; refine mV ?_; refine eN ?_
  try dsimp only [Exit.then, Exit.inBlock]
  refine c_round ?_; refine rG ?_; refine lV (r_bin (a := 1) (b := 1) rfl rfl (fun _ => b_lssB false (decide_eq_false (by decide)))) ?_; refine eN ?_
  refine qN ?_; refine c_exit ?_; refine rG ?_; refine mV ?_; refine lV (r_nilc rfl) ?_; refine lV (r_fa rfl fo75_2) ?_; refine lV (r_l1 (v := .pointer (some ⟨tb, 0, none⟩)) H (i := 0) rfl rfl ct73 (wrkE_c2 _)) ?_; refine mV ?_; refine lV (r_nilc rfl) ?_; refine lV (r_fa rfl fo53_5) ?_; refine l_op (o_stGVP (enc := tnE) (c' := ((⟨([97] : List UInt8), key, 1000, 2, ⟨hd ba, 1, bc, [((⟨of, ⟨hd da, 3, dc, [68, 49, 0]⟩⟩ : Bl))]⟩, ⟨hd a13, 1, c14, [(⟨1, (⟨of, 0, ([] : List UInt8)⟩ : Mf), D⟩ : Sn)]⟩, ⟨none, 0, 0, []⟩⟩ : Tn))) (V := ([.slice (hd a13) 1 c14] : List Value)) (k := 0) H (i := 1) rfl (fun c _ => tnE_len c) rfl rfl rfl (by rfl) cs50 (by simp [Value.oneCell']) (show [((⟨([97] : List UInt8), key, 1000, 2, ⟨hd ba, 1, bc, [((⟨of, ⟨hd da, 3, dc, [68, 49, 0]⟩⟩ : Bl))]⟩, ⟨hd sa, 1, sc, [((⟨1, (⟨of, 0, ([] : List UInt8)⟩ : Mf), D⟩ : Sn))]⟩, ⟨none, 0, 0, []⟩⟩ : Tn))][0]? = some ((⟨([97] : List UInt8), key, 1000, 2, ⟨hd ba, 1, bc, [((⟨of, ⟨hd da, 3, dc, [68, 49, 0]⟩⟩ : Bl))]⟩, ⟨hd sa, 1, sc, [((⟨1, (⟨of, 0, ([] : List UInt8)⟩ : Mf), D⟩ : Sn))]⟩, ⟨none, 0, 0, []⟩⟩ : Tn)) from rfl) (tnE_p5 _ (⟨hd a13, 1, c14, [(⟨1, (⟨of, 0, ([] : List UInt8)⟩ : Mf), D⟩ : Sn)]⟩)) (fun w H => ?_)); replace H : Hp _ w _ ([_, .own (some tb) 1 tc (([((⟨([97] : List UInt8), key, 1000, 2, ⟨hd ba, 1, bc, [((⟨of, ⟨hd da, 3, dc, [68, 49, 0]⟩⟩ : Bl))]⟩, ⟨hd a13, 1, c14, [(⟨1, (⟨of, 0, ([] : List UInt8)⟩ : Mf), D⟩ : Sn)]⟩, ⟨none, 0, 0, []⟩⟩ : Tn))]).flatMap tnE) 53 38, _, _, _, _, _, .own (some b12) 1 1 (([((⟨1, (⟨of, 0, ([] : List UInt8)⟩ : Mf), D⟩ : Sn))]).flatMap snE) 95 36, .own a13 1 c14 (([((⟨1, (⟨of, 0, ([] : List UInt8)⟩ : Mf), D⟩ : Sn))]).flatMap snE) 95 36]) := H
  refine eN ?_
  refine rG ?_; refine l_op (o_mmake kA H (fun b15 w H hb15 => ?_)); replace H : Hp _ w _ ([_, _, _, _, _, _, _, _, _, .obj b15 (mobj kA ([] : List (Id32 × Value × Nat)) 0)]) := H
  refine aZ ?_; refine eN ?_
  refine rG ?_; refine mV ?_; refine l_op (o_callR Tryz.func90 rfl rfl rfl (objects_ret _ _ _ _ _ _ _ _ _ _ _ _ _ _ _ _ _ _ (H.ownP (.refl _) rfl)) ?_); rintro _ w ⟨a16, c17, rfl, Hc⟩
  replace H := H.callP (.refl _) rfl Hc ((perm_front (j := 7) rfl).trans (.cons _ ((perm_front (j := 7) rfl).trans (.cons _ ((perm_front (j := 7) rfl).trans (.cons _ (.refl _)))))))
  clear Hc
  replace H : Hp _ w _ ([_, _, _, _, _, _, _, _, _, _, .own a16 1 c17 (([((⟨of, ⟨hd da, 3, dc, [68, 49, 0]⟩⟩ : Ob))]).flatMap obE) 191 33]) := H
  refine mV ?_; refine l_op (o_callR Tryz.func103 rfl rfl rfl (roots1_ret _ _ _ _ _ _ _ _ _ _ _ _ _ _ _ _ _ (H.ownP ((perm_front (j := 0) rfl).trans (.cons _ ((perm_front (j := 0) rfl).trans (.cons _ ((perm_front (j := 6) rfl).trans (.cons _ (.refl _))))))) rfl)) ?_); rintro _ w ⟨a18, c19, rfl, Hc⟩
  replace H := H.callP ((perm_front (j := 0) rfl).trans (.cons _ ((perm_front (j := 0) rfl).trans (.cons _ ((perm_front (j := 6) rfl).trans (.cons _ (.refl _))))))) rfl Hc ((perm_front (j := 8) rfl).trans (.cons _ ((perm_front (j := 8) rfl).trans (.cons _ ((perm_front (j := 0) rfl).trans (.cons _ ((perm_front (j := 0) rfl).trans (.cons _ ((perm_front (j := 0) rfl).trans (.cons _ ((perm_front (j := 0) rfl).trans (.cons _ ((perm_front (j := 0) rfl).trans (.cons _ ((perm_front (j := 0) rfl).trans (.cons _ ((perm_front (j := 2) rfl).trans (.cons _ (.refl _)))))))))))))))))))
  clear Hc
  replace H : Hp _ w _ ([_, _, _, _, _, _, _, _, _, _, _, .own a18 1 c19 (([of]).flatMap idE) 24 32]) := H
  refine l_op (o_callR Tryz.func106 rfl rfl rfl (mark1_ret _ _ _ _ _ _ _ _ (H.glOwn (i := 10) rfl (by decide) (fun c _ => obE_len c)) (H.glOwn (i := 11) rfl (by decide) (fun c _ => idE_len c)) (H.slOwn (i := 3) rfl)) ?_); rintro _ w ⟨a20, k21, R22, hR23, rfl, Hc⟩
  replace H : Hp _ w _ ([_, _, _, _, _, _, _, _, _, _, _, _, .own a20 R22.length k21 ((R22).flatMap idE) 24 32]) := H.call Hc
  clear Hc
  refine lV (r_lens el140 rfl) ?_; refine mV ?_; refine eN ?_
  refine qB ?_; repeat refine c_seq ?_
  refine c_loop4 (fun (i : Nat) (M : List (Id32 × Value × Nat)) (c : Nat) (F : Id32 → Option Int) => [(0, .pointer (some ⟨wb, 0, none⟩)), (2, .pointer (some ⟨b1, 0, none⟩)), (3, VI 0), (7, .map (some b15)), (62, .slice (hd a20) R22.length k21), (63, VI (R22.length : Int)), (64, VI (i : Int))])
    (fun (i : Nat) (M : List (Id32 × Value × Nat)) (c : Nat) (F : Id32 → Option Int) w => (i ≤ R22.length ∧ MIs VI M F ∧ MOk M c ∧ (∀ k, 0 ≤ (F k).getD 0 ∧ (F k).getD 0 ≤ i)) ∧ Hp w0 w (keys hO.l) ([.blk wb (wrkE (⟨ws, (⟨15, ([97] : List UInt8), of0, n, 0, (0 : UInt8), b, s, now, zId⟩ : Opr), (some tb), ser⟩ : Wrk)) 75, .own (some tb) 1 tc (([((⟨([97] : List UInt8), key, 1000, 2, ⟨hd ba, 1, bc, [((⟨of, ⟨hd da, 3, dc, [68, 49, 0]⟩⟩ : Bl))]⟩, ⟨hd a13, 1, c14, [(⟨1, (⟨of, 0, ([] : List UInt8)⟩ : Mf), D⟩ : Sn)]⟩, ⟨none, 0, 0, []⟩⟩ : Tn))]).flatMap tnE) 53 38, .own ba 1 bc (([((⟨of, ⟨hd da, 3, dc, [68, 49, 0]⟩⟩ : Bl))]).flatMap blE) 92 33, .own da 3 dc (([68, 49, 0]).map V8) 5 1, .own sa 1 sc (([((⟨1, (⟨of, 0, ([] : List UInt8)⟩ : Mf), D⟩ : Sn))]).flatMap snE) 95 36, .blk b1 (ansE (⟨0, ⟨none, 0, 0, []⟩⟩ : Ans)) 43, .blk b10 (snE (⟨1, (⟨of, 0, ([] : List UInt8)⟩ : Mf), D⟩ : Sn)) 95, .own (some b12) 1 1 (([((⟨1, (⟨of, 0, ([] : List UInt8)⟩ : Mf), D⟩ : Sn))]).flatMap snE) 95 36, .own a13 1 c14 (([((⟨1, (⟨of, 0, ([] : List UInt8)⟩ : Mf), D⟩ : Sn))]).flatMap snE) 95 36, .obj b15 (mobj kA M c), .own a16 1 c17 (([((⟨of, ⟨hd da, 3, dc, [68, 49, 0]⟩⟩ : Ob))]).flatMap obE) 191 33, .own a18 1 c19 (([of]).flatMap idE) 24 32, .own a20 R22.length k21 ((R22).flatMap idE) 24 32]))
    (fun (i : Nat) (M : List (Id32 × Value × Nat)) (c : Nat) (F : Id32 → Option Int) => R22.length - i) 0 ([]) 0 (fun _ => none) ⟨rfl, rfl, rfl, rfl, rfl, rfl, rfl, trivial⟩ ⟨⟨Nat.zero_le _, MIs.nil, MOk.nil, fun _ => ⟨Int.le_refl _, Int.le_refl _⟩⟩, H⟩ ?_
  clear H
  rintro i M c F τ w ⟨⟨hi, hF, hM, hB⟩, H⟩
  refine rG ?_; refine lV (r_bin (a := (i : Int)) (b := (R22.length : Int)) rfl rfl (fun _ => b_lss)) ?_; refine eN ?_
  by_cases hc24 : (i : Int) < (R22.length : Int)
  ·
   repeat refine c_seq ?_
   refine c_yes (by exact bT hc24) ?_; refine c_skip ?_; refine qB ?_; refine rG ?_; have ah26 := H.ownAddr (i := 12) rfl oM
   obtain ⟨ab25, ah26⟩ := ah26
   refine lV (r_isN i rfl rfl el140 ah26 oM (by (try simp only [Sl.cut]); omega)) ?_; have he28 : ∃ c, (R22)[i]? = some c := ⟨_, List.getElem?_eq_getElem (by have := ((H.glOwn (i := 12) rfl (by decide) (fun c _ => idE_len c))).ln; (try dsimp only at this ⊢); omega)⟩
   obtain ⟨e27, he28⟩ := he28
   have hez29 := ((H.glOwn (i := 12) rfl (by decide) (fun c _ => idE_len c))).sz e27 (List.mem_of_getElem? he28)
   refine lV (r_ldRow (s := (⟨hd a20, R22.length, k21, R22⟩ : Gl Id32)) (k := i) (H.glOwn (i := 12) rfl (by decide) (fun c _ => idE_len c)) ah26 rfl rt24 (by decide) he28) ?_; refine l_op (o_alloc H zc24 (fun b30 w H hb30 => ?_)); replace H : Hp _ w _ ([_, _, _, _, _, _, _, _, _, _, _, _, _, .blk b30 ((List.replicate 32 (0 : UInt8)).map V8) 24]) := H
   refine l_op (o_stA (l' := e27.1) H (i := 13) rfl rfl rfl cs24 (show (List.replicate 32 (0 : UInt8)).length = 32 from (List.length_replicate ..)) (show (e27.1).length = 32 from e27.2) (fun w H => ?_)); replace H : Hp _ w _ ([_, _, _, _, _, _, _, _, _, _, _, _, _, .blk b30 ((e27.1).map V8) 24]) := H
   refine eN ?_
   have hBe := hB e27
   repeat refine c_seq ?_
   refine c_join (fun τ w => ∃ σ, τ = ups σ [(0, .pointer (some ⟨wb, 0, none⟩)), (2, .pointer (some ⟨b1, 0, none⟩)), (3, VI 0), (7, .map (some b15)), (62, .slice (hd a20) R22.length k21), (63, VI (R22.length : Int)), (64, VI (i : Int))] ∧ Hp w0 w (keys hO.l) ([.blk wb (wrkE (⟨ws, (⟨15, ([97] : List UInt8), of0, n, 0, (0 : UInt8), b, s, now, zId⟩ : Opr), (some tb), ser⟩ : Wrk)) 75, .own (some tb) 1 tc (([((⟨([97] : List UInt8), key, 1000, 2, ⟨hd ba, 1, bc, [((⟨of, ⟨hd da, 3, dc, [68, 49, 0]⟩⟩ : Bl))]⟩, ⟨hd a13, 1, c14, [(⟨1, (⟨of, 0, ([] : List UInt8)⟩ : Mf), D⟩ : Sn)]⟩, ⟨none, 0, 0, []⟩⟩ : Tn))]).flatMap tnE) 53 38, .own ba 1 bc (([((⟨of, ⟨hd da, 3, dc, [68, 49, 0]⟩⟩ : Bl))]).flatMap blE) 92 33, .own da 3 dc (([68, 49, 0]).map V8) 5 1, .own sa 1 sc (([((⟨1, (⟨of, 0, ([] : List UInt8)⟩ : Mf), D⟩ : Sn))]).flatMap snE) 95 36, .blk b1 (ansE (⟨0, ⟨none, 0, 0, []⟩⟩ : Ans)) 43, .blk b10 (snE (⟨1, (⟨of, 0, ([] : List UInt8)⟩ : Mf), D⟩ : Sn)) 95, .own (some b12) 1 1 (([((⟨1, (⟨of, 0, ([] : List UInt8)⟩ : Mf), D⟩ : Sn))]).flatMap snE) 95 36, .own a13 1 c14 (([((⟨1, (⟨of, 0, ([] : List UInt8)⟩ : Mf), D⟩ : Sn))]).flatMap snE) 95 36, .obj b15 (mobj kA (mput e27 (VI (((F e27).getD (0 : Int)) + 1)) 0 (mput e27 ((mget M e27).getD (VI (0 : Int))) c M)) (mclk M e27 c)), .own a16 1 c17 (([((⟨of, ⟨hd da, 3, dc, [68, 49, 0]⟩⟩ : Ob))]).flatMap obE) 191 33, .own a18 1 c19 (([of]).flatMap idE) 24 32, .own a20 R22.length k21 ((R22).flatMap idE) 24 32, .blk b30 ((e27.1).map V8) 24])) ?_ ?_; refine heldS H (H.sub (.cons_cons _ (.cons_cons _ (.cons_cons _ (.cons_cons _ (.cons_cons _ (.cons_cons _ (.cons_cons _ (.cons_cons _ (.cons_cons _ (.cons _ (.cons_cons _ (.cons_cons _ (.cons_cons _ (.cons_cons _ (List.nil_sublist _)))))))))))))))) mixed fun H HS => ?_
   refine tK 0 rfl (fun w HS => r_mv) HS ?_; refine tK 1 rfl (fun w HS => r_ldAA (l := e27.1) HS (i := 12) rfl rfl rt24 (show (e27.1).length = 32 from e27.2)) HS ?_; refine t_all [2, 4] (by kernel_rfl) (by simp) (all_cons (w_op 2 rfl ?_) (all_cons (w_op 4 rfl ?_) (all_nil)))
   ·
    refine (o_val (r_lookF (k := e27) (0 : Int) hF H (i := 9) rfl Tryz.underlying161 keyA zv_i rfl rfl) ?_)
    replace HS := H.sub (.cons_cons _ (.cons_cons _ (.cons_cons _ (.cons_cons _ (.cons_cons _ (.cons_cons _ (.cons_cons _ (.cons_cons _ (.cons_cons _ (.cons _ (.cons_cons _ (.cons_cons _ (.cons_cons _ (.cons_cons _ (List.nil_sublist _)))))))))))))))
    refine ⟨HS, ?_⟩
    refine tK 3 rfl (fun w HS => r_bin (a := ((F e27).getD (0 : Int))) (b := 1) rfl rfl (fun _ => b_add oM oM)) HS ?_; refine tU 4 rfl (o_ment (kv := kA) (k := e27) (z := VI (0 : Int)) H (i := 9) rfl Tryz.underlying161 keyA zv_i rfl rfl (fun w H => ?_)); replace H : Hp _ w _ ([_, _, _, _, _, _, _, _, _, .obj b15 (mobj kA (mput e27 ((mget M e27).getD (VI (0 : Int))) c M) (mclk M e27 c)), _, _, _, _]) := H
    replace HS := H.sub (.cons_cons _ (.cons_cons _ (.cons_cons _ (.cons_cons _ (.cons_cons _ (.cons_cons _ (.cons_cons _ (.cons_cons _ (.cons_cons _ (.cons _ (.cons_cons _ (.cons_cons _ (.cons_cons _ (.cons_cons _ (List.nil_sublist _)))))))))))))))
    refine ⟨HS, ?_⟩
    refine tK 5 rfl (fun w HS => r_ext rfl rfl) HS ?_; refine tU 6 rfl (o_mset (kv := kA) (k := e27) (v := VI (((F e27).getD (0 : Int)) + 1)) (c' := 0) H (i := 9) rfl (hM.put e27 ((mget M e27).getD (VI (0 : Int)))) mborn_put.2 rfl rfl rfl (fun w H => ?_)); replace H : Hp _ w _ ([_, _, _, _, _, _, _, _, _, .obj b15 (mobj kA (mput e27 (VI (((F e27).getD (0 : Int)) + 1)) 0 (mput e27 ((mget M e27).getD (VI (0 : Int))) c M)) (mclk M e27 c)), _, _, _, _]) := H
    replace HS := H.sub (.cons_cons _ (.cons_cons _ (.cons_cons _ (.cons_cons _ (.cons_cons _ (.cons_cons _ (.cons_cons _ (.cons_cons _ (.cons_cons _ (.cons _ (.cons_cons _ (.cons_cons _ (.cons_cons _ (.cons_cons _ (List.nil_sublist _)))))))))))))))
    refine ⟨HS, ?_⟩
    refine t_done (by kernel_rfl) ?_
    clear HS
    exact nrm_mk ⟨_, join_fit ⟨rfl, rfl, rfl, rfl, rfl, rfl, rfl, trivial⟩, H⟩
   ·
    refine (o_ment (kv := kA) (k := e27) (z := VI (0 : Int)) H (i := 9) rfl Tryz.underlying161 keyA zv_i rfl rfl (fun w H => ?_))
    replace H : Hp _ w _ ([_, _, _, _, _, _, _, _, _, .obj b15 (mobj kA (mput e27 ((mget M e27).getD (VI (0 : Int))) c M) (mclk M e27 c)), _, _, _, _]) := H
    replace HS := H.sub (.cons_cons _ (.cons_cons _ (.cons_cons _ (.cons_cons _ (.cons_cons _ (.cons_cons _ (.cons_cons _ (.cons_cons _ (.cons_cons _ (.cons _ (.cons_cons _ (.cons_cons _ (.cons_cons _ (.cons_cons _ (List.nil_sublist _)))))))))))))))
    refine ⟨HS, ?_⟩
    refine tK 5 rfl (fun w HS => r_ext rfl rfl) HS ?_; refine tU 2 rfl (o_val (r_lookE (k := e27) (0 : Int) hF H (i := 9) rfl Tryz.underlying161 keyA zv_i rfl rfl) ?_); replace HS := H.sub (.cons_cons _ (.cons_cons _ (.cons_cons _ (.cons_cons _ (.cons_cons _ (.cons_cons _ (.cons_cons _ (.cons_cons _ (.cons_cons _ (.cons _ (.cons_cons _ (.cons_cons _ (.cons_cons _ (.cons_cons _ (List.nil_sublist _)))))))))))))))
    refine ⟨HS, ?_⟩
    refine tK 3 rfl (fun w HS => r_bin (a := ((F e27).getD (0 : Int))) (b := 1) rfl rfl (fun _ => b_add oM oM)) HS ?_; refine tU 6 rfl (o_mset (kv := kA) (k := e27) (v := VI (((F e27).getD (0 : Int)) + 1)) (c' := 0) H (i := 9) rfl (hM.put e27 ((mget M e27).getD (VI (0 : Int)))) mborn_put.2 rfl rfl rfl (fun w H => ?_)); replace H : Hp _ w _ ([_, _, _, _, _, _, _, _, _, .obj b15 (mobj kA (mput e27 (VI (((F e27).getD (0 : Int)) + 1)) 0 (mput e27 ((mget M e27).getD (VI (0 : Int))) c M)) (mclk M e27 c)), _, _, _, _]) := H
    replace HS := H.sub (.cons_cons _ (.cons_cons _ (.cons_cons _ (.cons_cons _ (.cons_cons _ (.cons_cons _ (.cons_cons _ (.cons_cons _ (.cons_cons _ (.cons _ (.cons_cons _ (.cons_cons _ (.cons_cons _ (.cons_cons _ (List.nil_sublist _)))))))))))))))
    refine ⟨HS, ?_⟩
    refine t_done (by kernel_rfl) ?_
    clear HS
    exact nrm_mk ⟨_, join_fit ⟨rfl, rfl, rfl, rfl, rfl, rfl, rfl, trivial⟩, H⟩
   clear H
   rintro _ w ⟨τ, rfl, H⟩
   refine rG ?_; refine lV (r_bin (a := (i : Int)) (b := 1) rfl rfl (fun _ => b_add oM oM)) ?_; refine mV ?_; refine eN ?_
   refine round_end (i + 1, mput e27 (VI (((F e27).getD (0 : Int)) + 1)) 0 (mput e27 ((mget M e27).getD (VI (0 : Int))) c M), mclk M e27 c, fput F e27 (((F e27).getD (0 : Int)) + 1)) ?_ ?_ ?_
   · exact ⟨rfl, rfl, rfl, rfl, rfl, rfl, show VI ((i : Int) + 1) = VI ((i + 1 : Nat) : Int) from congrArg VI oM, trivial⟩
   · refine ⟨?_, ?_⟩
     · try dsimp only
       exact ⟨by omega, (MIs.ent hF e27 (((F e27).getD (0 : Int)) + 1)), (MOk.ent (hM.put e27 ((mget M e27).getD (VI (0 : Int))))), reach_put hB e27⟩
     · exact H.sub (.cons_cons _ (.cons_cons _ (.cons_cons _ (.cons_cons _ (.cons_cons _ (.cons_cons _ (.cons_cons _ (.cons_cons _ (.cons_cons _ (.cons_cons _ (.cons_cons _ (.cons_cons _ (.cons_cons _ (List.nil_sublist _))))))))))))))
   · show R22.length - (i + 1) < R22.length - i; omega
  ·
   repeat refine c_seq ?_
   refine c_no (by exact bF hc24) ?_; refine c_exit ?_; refine rG ?_; refine mV ?_; refine lV (r_nilc rfl) ?_; refine lV (r_fa rfl fo75_2) ?_; refine lV (r_l1 (v := .pointer (some ⟨tb, 0, none⟩)) H (i := 0) rfl rfl ct73 (wrkE_c2 _)) ?_; refine lV (r_nilc rfl) ?_; refine lV (r_fa rfl fo53_6) ?_; refine lV (r_g1 (v := .slice none 0 0) (s := (⟨hd (some tb), 1, tc, [((⟨([97] : List UInt8), key, 1000, 2, ⟨hd ba, 1, bc, [((⟨of, ⟨hd da, 3, dc, [68, 49, 0]⟩⟩ : Bl))]⟩, ⟨hd a13, 1, c14, [(⟨1, (⟨of, 0, ([] : List UInt8)⟩ : Mf), D⟩ : Sn)]⟩, ⟨none, 0, 0, []⟩⟩ : Tn))]⟩ : Gl Tn)) (j := 0) (H.glOwn (i := 1) rfl (by decide) (fun c _ => tnE_len c)) rfl rfl ct51 rfl (by decide) (tnE_c6 _)) ?_; refine l_op (o_callR Tryz.func37 rfl rfl rfl (cln37_ret _) ?_); rintro _ w ⟨rfl, Hc⟩
   replace H : Hp _ w _ ([_, _, _, _, _, _, _, _, _, _, _, _, _]) := H.call Hc
   clear Hc
   refine lV (r_lens el51 rfl) ?_; refine mV ?_; refine eN ?_
   refine qB ?_; repeat refine c_seq ?_
   refine wp_loop_rounds 3 ?_; refine c_round ?_; refine rG ?_; refine lV (r_bin (a := 0) (b := 0) rfl rfl (fun _ => b_lssB false (decide_eq_false (by decide)))) ?_; refine eN ?_
   refine qN ?_; refine c_exit ?_; refine rG ?_; refine mV ?_; refine l_op (o_callR Tryz.func91 rfl rfl rfl (numb1_ret _ (200) 0 oM) ?_); rintro _ w ⟨bd34, rfl, Hc⟩
   replace H : Hp _ w _ ([_, _, _, _, _, _, _, _, _, _, _, _, _]) := H.call Hc
   clear Hc
   refine l_op (o_stW (C' := ansE (⟨200, bd34⟩ : Ans)) H (i := 5) rfl rfl rfl cs43 (ansE_all _) (ansE_len _) (ansE_len _) (fun w H => ?_)); replace H : Hp _ w _ ([_, _, _, _, _, .blk b1 (ansE (⟨200, bd34⟩ : Ans)) 43, _, _, _, _, _, _, _]) := H
   refine eN ?_
   refine cR ?_
   refine e_retc Tryz.results63 H (i := 5) rfl rfl rt43 (ansE_len _).symm ?_
   refine ⟨_, rfl, ?_⟩
   exact ⟨(_, _, _, _), rfl, (H.permL ((perm_front (j := 0) rfl).trans (.cons _ ((perm_front (j := 0) rfl).trans (.cons _ ((perm_front (j := 0) rfl).trans (.cons _ ((perm_front (j := 0) rfl).trans (.cons _ ((perm_front (j := 4) rfl).trans (.cons _ (.refl _)))))))))))).sub (.cons_cons _ (.cons_cons _ (.cons_cons _ (.cons_cons _ (.cons_cons _ (List.nil_sublist _))))))⟩
end Go.Proofs.YtmiabahejnjhiaaGreatDoor
namespace Go.Proofs.YtmiabahejnjhiaaGreatDoor
open Go
set_option maxRecDepth 100000
theorem doG1_ret {X : Type} (A : X → Ans) (L1 : X → List Ch) (w0 : World) (wb : Nat) (ws tp : Option Nat) (ser : UInt64) (op : Opr) (Lr : List Ch) (hO : Own w0 (Ch.blk wb (wrkE (⟨ws, (⟨1, op.tenant, op.of, op.number, op.until_, op.rights, op.body, op.token, op.now, op.draw⟩ : Opr), tp, ser⟩ : Wrk)) 75 :: Lr)) (hX : ∀ w1 L', Hp w0 w1 (keys hO.l) (L' ++ (Ch.blk wb (wrkE (⟨ws, (⟨1, op.tenant, op.of, op.number, op.until_, op.rights, op.body, op.token, op.now, op.draw⟩ : Opr), tp, ser⟩ : Wrk)) 75 :: Lr)) → Ret Tryz.prog 51 [.pointer (some ⟨wb, 0, none⟩)] w1 fun v w' => ∃ x, v = .agg (ansE (A x)).toArray ∧ Hp w1 w' (keys hO.l) (L1 x)) :
    Ret Tryz.prog 21 [.pointer (some ⟨wb, 0, none⟩)] w0 fun v w' => ∃ x, v = .agg (ansE (A x)).toArray ∧ Hp w0 w' (keys hO.l) (L1 x) := by
  refine ret_mk Tryz.func21 rfl Tryz.ntmps21 (by simp) ?_
  have H := hO.start
  refine rG ?_; refine l_op (o_alloc H zc43 (fun b1 w H hb1 => ?_)); replace H := H.rot
  replace H : Hp _ w _ (Ch.blk b1 (ansE (⟨0, ⟨none, 0, 0, []⟩⟩ : Ans)) 43 :: Ch.blk wb (wrkE (⟨ws, (⟨1, op.tenant, op.of, op.number, op.until_, op.rights, op.body, op.token, op.now, op.draw⟩ : Opr), tp, ser⟩ : Wrk)) 75 :: Lr) := H
  refine eN ?_
  refine rG ?_; refine mV ?_; refine lV (r_nilc rfl) ?_; refine lV (r_fa rfl fo75_1) ?_; refine lV (r_fa rfl fo47_0) ?_; refine lV (r_l1 (v := VI 1) H (i := 1) rfl rfl ct3 ((wrkE_c1 _).comp (oprE_c0 _))) ?_; refine eN ?_
  refine qB ?_; refine rG ?_; refine lV (r_bin (a := 1) (b := 1) rfl rfl (fun _ => b_eqlB true (decide_eq_true (by decide)))) ?_; refine aZ ?_; refine eN ?_
  refine qY ?_; refine rG ?_; refine mV ?_; refine l_op (o_callR Tryz.func51 rfl rfl rfl (hX _ [Ch.blk b1 (ansE (⟨0, ⟨none, 0, 0, []⟩⟩ : Ans)) 43] H) ?_); rintro _ w ⟨x2, rfl, Hc⟩
  replace H := H.callT (L1' := []) (T' := (L1 x2)) (L := [.blk b1 (ansE (⟨0, ⟨none, 0, 0, []⟩⟩ : Ans)) 43, .blk wb (wrkE (⟨ws, (⟨1, op.tenant, op.of, op.number, op.until_, op.rights, op.body, op.token, op.now, op.draw⟩ : Opr), tp, ser⟩ : Wrk)) 75]) (L1 := [.blk wb (wrkE (⟨ws, (⟨1, op.tenant, op.of, op.number, op.until_, op.rights, op.body, op.token, op.now, op.draw⟩ : Opr), tp, ser⟩ : Wrk)) 75]) (Lr := ([.blk b1 (ansE (⟨0, ⟨none, 0, 0, []⟩⟩ : Ans)) 43] : List Ch)) (T := Lr) ((perm_front (j := 1) rfl).trans (.cons _ (.refl _))) Hc (.refl _)
  clear Hc
  replace H : Hp _ w _ (Ch.blk b1 (ansE (⟨0, ⟨none, 0, 0, []⟩⟩ : Ans)) 43 :: (L1 x2)) := H
  refine l_op (o_stW (C' := ansE (⟨(A x2).status, ((A x2).body)⟩ : Ans)) H (i := 0) rfl rfl rfl cs43 (ansE_all _) (ansE_len _) (ansE_len _) (fun w H => ?_)); replace H : Hp _ w _ (Ch.blk b1 (ansE (⟨(A x2).status, ((A x2).body)⟩ : Ans)) 43 :: (L1 x2)) := H
  refine eN ?_
  refine cR ?_
  refine e_retc Tryz.results21 H (i := 0) rfl rfl rt43 (ansE_len _).symm ?_
  refine ⟨_, rfl, ?_⟩
  exact ⟨_, rfl, H.sub (.cons _ (.refl _))⟩
theorem doG3_ret {X : Type} (A : X → Ans) (L1 : X → List Ch) (w0 : World) (wb : Nat) (ws tp : Option Nat) (ser : UInt64) (op : Opr) (Lr : List Ch) (hO : Own w0 (Ch.blk wb (wrkE (⟨ws, (⟨3, op.tenant, op.of, op.number, op.until_, op.rights, op.body, op.token, op.now, op.draw⟩ : Opr), tp, ser⟩ : Wrk)) 75 :: Lr)) (hX : ∀ w1 L', Hp w0 w1 (keys hO.l) (L' ++ (Ch.blk wb (wrkE (⟨ws, (⟨3, op.tenant, op.of, op.number, op.until_, op.rights, op.body, op.token, op.now, op.draw⟩ : Opr), tp, ser⟩ : Wrk)) 75 :: Lr)) → Ret Tryz.prog 53 [.pointer (some ⟨wb, 0, none⟩)] w1 fun v w' => ∃ x, v = .agg (ansE (A x)).toArray ∧ Hp w1 w' (keys hO.l) (L1 x)) :
    Ret Tryz.prog 21 [.pointer (some ⟨wb, 0, none⟩)] w0 fun v w' => ∃ x, v = .agg (ansE (A x)).toArray ∧ Hp w0 w' (keys hO.l) (L1 x) := by
  refine ret_mk Tryz.func21 rfl Tryz.ntmps21 (by simp) ?_
  have H := hO.start
  refine rG ?_; refine l_op (o_alloc H zc43 (fun b1 w H hb1 => ?_)); replace H := H.rot
  replace H : Hp _ w _ (Ch.blk b1 (ansE (⟨0, ⟨none, 0, 0, []⟩⟩ : Ans)) 43 :: Ch.blk wb (wrkE (⟨ws, (⟨3, op.tenant, op.of, op.number, op.until_, op.rights, op.body, op.token, op.now, op.draw⟩ : Opr), tp, ser⟩ : Wrk)) 75 :: Lr) := H
  refine eN ?_
  refine rG ?_; refine mV ?_; refine lV (r_nilc rfl) ?_; refine lV (r_fa rfl fo75_1) ?_; refine lV (r_fa rfl fo47_0) ?_; refine lV (r_l1 (v := VI 3) H (i := 1) rfl rfl ct3 ((wrkE_c1 _).comp (oprE_c0 _))) ?_; refine eN ?_
  refine qB ?_; refine rG ?_; refine lV (r_bin (a := 3) (b := 1) rfl rfl (fun _ => b_eqlB false (decide_eq_false (by decide)))) ?_; refine aZ ?_; refine eN ?_
  refine qN ?_; refine rG ?_; refine lV (r_bin (a := 3) (b := 2) rfl rfl (fun _ => b_eqlB false (decide_eq_false (by decide)))) ?_; refine aZ ?_; refine eN ?_
  refine qN ?_; refine rG ?_; refine lV (r_bin (a := 3) (b := 3) rfl rfl (fun _ => b_eqlB true (decide_eq_true (by decide)))) ?_; refine aZ ?_; refine eN ?_
  refine qY ?_; refine rG ?_; refine mV ?_; refine l_op (o_callR Tryz.func53 rfl rfl rfl (hX _ [Ch.blk b1 (ansE (⟨0, ⟨none, 0, 0, []⟩⟩ : Ans)) 43] H) ?_); rintro _ w ⟨x2, rfl, Hc⟩
  replace H := H.callT (L1' := []) (T' := (L1 x2)) (L := [.blk b1 (ansE (⟨0, ⟨none, 0, 0, []⟩⟩ : Ans)) 43, .blk wb (wrkE (⟨ws, (⟨3, op.tenant, op.of, op.number, op.until_, op.rights, op.body, op.token, op.now, op.draw⟩ : Opr), tp, ser⟩ : Wrk)) 75]) (L1 := [.blk wb (wrkE (⟨ws, (⟨3, op.tenant, op.of, op.number, op.until_, op.rights, op.body, op.token, op.now, op.draw⟩ : Opr), tp, ser⟩ : Wrk)) 75]) (Lr := ([.blk b1 (ansE (⟨0, ⟨none, 0, 0, []⟩⟩ : Ans)) 43] : List Ch)) (T := Lr) ((perm_front (j := 1) rfl).trans (.cons _ (.refl _))) Hc (.refl _)
  clear Hc
  replace H : Hp _ w _ (Ch.blk b1 (ansE (⟨0, ⟨none, 0, 0, []⟩⟩ : Ans)) 43 :: (L1 x2)) := H
  refine l_op (o_stW (C' := ansE (⟨(A x2).status, ((A x2).body)⟩ : Ans)) H (i := 0) rfl rfl rfl cs43 (ansE_all _) (ansE_len _) (ansE_len _) (fun w H => ?_)); replace H : Hp _ w _ (Ch.blk b1 (ansE (⟨(A x2).status, ((A x2).body)⟩ : Ans)) 43 :: (L1 x2)) := H
  refine eN ?_
  refine cR ?_
  refine e_retc Tryz.results21 H (i := 0) rfl rfl rt43 (ansE_len _).symm ?_
  refine ⟨_, rfl, ?_⟩
  exact ⟨_, rfl, H.sub (.cons _ (.refl _))⟩
theorem doG7_ret {X : Type} (A : X → Ans) (L1 : X → List Ch) (w0 : World) (wb : Nat) (ws tp : Option Nat) (ser : UInt64) (op : Opr) (Lr : List Ch) (hO : Own w0 (Ch.blk wb (wrkE (⟨ws, (⟨7, op.tenant, op.of, op.number, op.until_, op.rights, op.body, op.token, op.now, op.draw⟩ : Opr), tp, ser⟩ : Wrk)) 75 :: Lr)) (hX : ∀ w1 L', Hp w0 w1 (keys hO.l) (L' ++ (Ch.blk wb (wrkE (⟨ws, (⟨7, op.tenant, op.of, op.number, op.until_, op.rights, op.body, op.token, op.now, op.draw⟩ : Opr), tp, ser⟩ : Wrk)) 75 :: Lr)) → Ret Tryz.prog 55 [.pointer (some ⟨wb, 0, none⟩)] w1 fun v w' => ∃ x, v = .agg (ansE (A x)).toArray ∧ Hp w1 w' (keys hO.l) (L1 x)) :
    Ret Tryz.prog 21 [.pointer (some ⟨wb, 0, none⟩)] w0 fun v w' => ∃ x, v = .agg (ansE (A x)).toArray ∧ Hp w0 w' (keys hO.l) (L1 x) := by
  refine ret_mk Tryz.func21 rfl Tryz.ntmps21 (by simp) ?_
  have H := hO.start
  refine rG ?_; refine l_op (o_alloc H zc43 (fun b1 w H hb1 => ?_)); replace H := H.rot
  replace H : Hp _ w _ (Ch.blk b1 (ansE (⟨0, ⟨none, 0, 0, []⟩⟩ : Ans)) 43 :: Ch.blk wb (wrkE (⟨ws, (⟨7, op.tenant, op.of, op.number, op.until_, op.rights, op.body, op.token, op.now, op.draw⟩ : Opr), tp, ser⟩ : Wrk)) 75 :: Lr) := H
  refine eN ?_
  refine rG ?_; refine mV ?_; refine lV (r_nilc rfl) ?_; refine lV (r_fa rfl fo75_1) ?_; refine lV (r_fa rfl fo47_0) ?_; refine lV (r_l1 (v := VI 7) H (i := 1) rfl rfl ct3 ((wrkE_c1 _).comp (oprE_c0 _))) ?_; refine eN ?_
  refine qB ?_; refine rG ?_; refine lV (r_bin (a := 7) (b := 1) rfl rfl (fun _ => b_eqlB false (decide_eq_false (by decide)))) ?_; refine aZ ?_; refine eN ?_
  refine qN ?_; refine rG ?_; refine lV (r_bin (a := 7) (b := 2) rfl rfl (fun _ => b_eqlB false (decide_eq_false (by decide)))) ?_; refine aZ ?_; refine eN ?_
  refine qN ?_; refine rG ?_; refine lV (r_bin (a := 7) (b := 3) rfl rfl (fun _ => b_eqlB false (decide_eq_false (by decide)))) ?_; refine aZ ?_; refine eN ?_
  refine qN ?_; refine rG ?_; refine lV (r_bin (a := 7) (b := 4) rfl rfl (fun _ => b_eqlB false (decide_eq_false (by decide)))) ?_; refine aZ ?_; refine eN ?_
  refine qN ?_; refine rG ?_; refine lV (r_bin (a := 7) (b := 5) rfl rfl (fun _ => b_eqlB false (decide_eq_false (by decide)))) ?_; refine aZ ?_; refine eN ?_
  refine qN ?_; refine rG ?_; refine lV (r_bin (a := 7) (b := 6) rfl rfl (fun _ => b_eqlB false (decide_eq_false (by decide)))) ?_; refine aZ ?_; refine eN ?_
  refine qN ?_; refine rG ?_; refine lV (r_bin (a := 7) (b := 7) rfl rfl (fun _ => b_eqlB true (decide_eq_true (by decide)))) ?_; refine aZ ?_; refine eN ?_
  refine qY ?_; refine c_skip ?_; refine qY ?_; refine rG ?_; refine mV ?_; refine l_op (o_callR Tryz.func55 rfl rfl rfl (hX _ [Ch.blk b1 (ansE (⟨0, ⟨none, 0, 0, []⟩⟩ : Ans)) 43] H) ?_); rintro _ w ⟨x2, rfl, Hc⟩
  replace H := H.callT (L1' := []) (T' := (L1 x2)) (L := [.blk b1 (ansE (⟨0, ⟨none, 0, 0, []⟩⟩ : Ans)) 43, .blk wb (wrkE (⟨ws, (⟨7, op.tenant, op.of, op.number, op.until_, op.rights, op.body, op.token, op.now, op.draw⟩ : Opr), tp, ser⟩ : Wrk)) 75]) (L1 := [.blk wb (wrkE (⟨ws, (⟨7, op.tenant, op.of, op.number, op.until_, op.rights, op.body, op.token, op.now, op.draw⟩ : Opr), tp, ser⟩ : Wrk)) 75]) (Lr := ([.blk b1 (ansE (⟨0, ⟨none, 0, 0, []⟩⟩ : Ans)) 43] : List Ch)) (T := Lr) ((perm_front (j := 1) rfl).trans (.cons _ (.refl _))) Hc (.refl _)
  clear Hc
  replace H : Hp _ w _ (Ch.blk b1 (ansE (⟨0, ⟨none, 0, 0, []⟩⟩ : Ans)) 43 :: (L1 x2)) := H
  refine l_op (o_stW (C' := ansE (⟨(A x2).status, ((A x2).body)⟩ : Ans)) H (i := 0) rfl rfl rfl cs43 (ansE_all _) (ansE_len _) (ansE_len _) (fun w H => ?_)); replace H : Hp _ w _ (Ch.blk b1 (ansE (⟨(A x2).status, ((A x2).body)⟩ : Ans)) 43 :: (L1 x2)) := H
  refine eN ?_
  refine cR ?_
  refine e_retc Tryz.results21 H (i := 0) rfl rfl rt43 (ansE_len _).symm ?_
  refine ⟨_, rfl, ?_⟩
  exact ⟨_, rfl, H.sub (.cons _ (.refl _))⟩
theorem doG8_ret {X : Type} (A : X → Ans) (L1 : X → List Ch) (w0 : World) (wb : Nat) (ws tp : Option Nat) (ser : UInt64) (op : Opr) (Lr : List Ch) (hO : Own w0 (Ch.blk wb (wrkE (⟨ws, (⟨8, op.tenant, op.of, op.number, op.until_, op.rights, op.body, op.token, op.now, op.draw⟩ : Opr), tp, ser⟩ : Wrk)) 75 :: Lr)) (hX : ∀ w1 L', Hp w0 w1 (keys hO.l) (L' ++ (Ch.blk wb (wrkE (⟨ws, (⟨8, op.tenant, op.of, op.number, op.until_, op.rights, op.body, op.token, op.now, op.draw⟩ : Opr), tp, ser⟩ : Wrk)) 75 :: Lr)) → Ret Tryz.prog 55 [.pointer (some ⟨wb, 0, none⟩)] w1 fun v w' => ∃ x, v = .agg (ansE (A x)).toArray ∧ Hp w1 w' (keys hO.l) (L1 x)) :
    Ret Tryz.prog 21 [.pointer (some ⟨wb, 0, none⟩)] w0 fun v w' => ∃ x, v = .agg (ansE (A x)).toArray ∧ Hp w0 w' (keys hO.l) (L1 x) := by
  refine ret_mk Tryz.func21 rfl Tryz.ntmps21 (by simp) ?_
  have H := hO.start
  refine rG ?_; refine l_op (o_alloc H zc43 (fun b1 w H hb1 => ?_)); replace H := H.rot
  replace H : Hp _ w _ (Ch.blk b1 (ansE (⟨0, ⟨none, 0, 0, []⟩⟩ : Ans)) 43 :: Ch.blk wb (wrkE (⟨ws, (⟨8, op.tenant, op.of, op.number, op.until_, op.rights, op.body, op.token, op.now, op.draw⟩ : Opr), tp, ser⟩ : Wrk)) 75 :: Lr) := H
  refine eN ?_
  refine rG ?_; refine mV ?_; refine lV (r_nilc rfl) ?_; refine lV (r_fa rfl fo75_1) ?_; refine lV (r_fa rfl fo47_0) ?_; refine lV (r_l1 (v := VI 8) H (i := 1) rfl rfl ct3 ((wrkE_c1 _).comp (oprE_c0 _))) ?_; refine eN ?_
  refine qB ?_; refine rG ?_; refine lV (r_bin (a := 8) (b := 1) rfl rfl (fun _ => b_eqlB false (decide_eq_false (by decide)))) ?_; refine aZ ?_; refine eN ?_
  refine qN ?_; refine rG ?_; refine lV (r_bin (a := 8) (b := 2) rfl rfl (fun _ => b_eqlB false (decide_eq_false (by decide)))) ?_; refine aZ ?_; refine eN ?_
  refine qN ?_; refine rG ?_; refine lV (r_bin (a := 8) (b := 3) rfl rfl (fun _ => b_eqlB false (decide_eq_false (by decide)))) ?_; refine aZ ?_; refine eN ?_
  refine qN ?_; refine rG ?_; refine lV (r_bin (a := 8) (b := 4) rfl rfl (fun _ => b_eqlB false (decide_eq_false (by decide)))) ?_; refine aZ ?_; refine eN ?_
  refine qN ?_; refine rG ?_; refine lV (r_bin (a := 8) (b := 5) rfl rfl (fun _ => b_eqlB false (decide_eq_false (by decide)))) ?_; refine aZ ?_; refine eN ?_
  refine qN ?_; refine rG ?_; refine lV (r_bin (a := 8) (b := 6) rfl rfl (fun _ => b_eqlB false (decide_eq_false (by decide)))) ?_; refine aZ ?_; refine eN ?_
  refine qN ?_; refine rG ?_; refine lV (r_bin (a := 8) (b := 7) rfl rfl (fun _ => b_eqlB false (decide_eq_false (by decide)))) ?_; refine aZ ?_; refine eN ?_
  refine qN ?_; refine rG ?_; refine lV (r_bin (a := 8) (b := 8) rfl rfl (fun _ => b_eqlB true (decide_eq_true (by decide)))) ?_; refine aZ ?_; refine eN ?_
  refine qY ?_; refine rG ?_; refine mV ?_; refine l_op (o_callR Tryz.func55 rfl rfl rfl (hX _ [Ch.blk b1 (ansE (⟨0, ⟨none, 0, 0, []⟩⟩ : Ans)) 43] H) ?_); rintro _ w ⟨x2, rfl, Hc⟩
  replace H := H.callT (L1' := []) (T' := (L1 x2)) (L := [.blk b1 (ansE (⟨0, ⟨none, 0, 0, []⟩⟩ : Ans)) 43, .blk wb (wrkE (⟨ws, (⟨8, op.tenant, op.of, op.number, op.until_, op.rights, op.body, op.token, op.now, op.draw⟩ : Opr), tp, ser⟩ : Wrk)) 75]) (L1 := [.blk wb (wrkE (⟨ws, (⟨8, op.tenant, op.of, op.number, op.until_, op.rights, op.body, op.token, op.now, op.draw⟩ : Opr), tp, ser⟩ : Wrk)) 75]) (Lr := ([.blk b1 (ansE (⟨0, ⟨none, 0, 0, []⟩⟩ : Ans)) 43] : List Ch)) (T := Lr) ((perm_front (j := 1) rfl).trans (.cons _ (.refl _))) Hc (.refl _)
  clear Hc
  replace H : Hp _ w _ (Ch.blk b1 (ansE (⟨0, ⟨none, 0, 0, []⟩⟩ : Ans)) 43 :: (L1 x2)) := H
  refine l_op (o_stW (C' := ansE (⟨(A x2).status, ((A x2).body)⟩ : Ans)) H (i := 0) rfl rfl rfl cs43 (ansE_all _) (ansE_len _) (ansE_len _) (fun w H => ?_)); replace H : Hp _ w _ (Ch.blk b1 (ansE (⟨(A x2).status, ((A x2).body)⟩ : Ans)) 43 :: (L1 x2)) := H
  refine eN ?_
  refine cR ?_
  refine e_retc Tryz.results21 H (i := 0) rfl rfl rt43 (ansE_len _).symm ?_
  refine ⟨_, rfl, ?_⟩
  exact ⟨_, rfl, H.sub (.cons _ (.refl _))⟩
theorem doG15_ret {X : Type} (A : X → Ans) (L1 : X → List Ch) (w0 : World) (wb : Nat) (ws tp : Option Nat) (ser : UInt64) (op : Opr) (Lr : List Ch) (hO : Own w0 (Ch.blk wb (wrkE (⟨ws, (⟨15, op.tenant, op.of, op.number, op.until_, op.rights, op.body, op.token, op.now, op.draw⟩ : Opr), tp, ser⟩ : Wrk)) 75 :: Lr)) (hX : ∀ w1 L', Hp w0 w1 (keys hO.l) (L' ++ (Ch.blk wb (wrkE (⟨ws, (⟨15, op.tenant, op.of, op.number, op.until_, op.rights, op.body, op.token, op.now, op.draw⟩ : Opr), tp, ser⟩ : Wrk)) 75 :: Lr)) → Ret Tryz.prog 63 [.pointer (some ⟨wb, 0, none⟩)] w1 fun v w' => ∃ x, v = .agg (ansE (A x)).toArray ∧ Hp w1 w' (keys hO.l) (L1 x)) :
    Ret Tryz.prog 21 [.pointer (some ⟨wb, 0, none⟩)] w0 fun v w' => ∃ x, v = .agg (ansE (A x)).toArray ∧ Hp w0 w' (keys hO.l) (L1 x) := by
  refine ret_mk Tryz.func21 rfl Tryz.ntmps21 (by simp) ?_
  have H := hO.start
  refine rG ?_; refine l_op (o_alloc H zc43 (fun b1 w H hb1 => ?_)); replace H := H.rot
  replace H : Hp _ w _ (Ch.blk b1 (ansE (⟨0, ⟨none, 0, 0, []⟩⟩ : Ans)) 43 :: Ch.blk wb (wrkE (⟨ws, (⟨15, op.tenant, op.of, op.number, op.until_, op.rights, op.body, op.token, op.now, op.draw⟩ : Opr), tp, ser⟩ : Wrk)) 75 :: Lr) := H
  refine eN ?_
  refine rG ?_; refine mV ?_; refine lV (r_nilc rfl) ?_; refine lV (r_fa rfl fo75_1) ?_; refine lV (r_fa rfl fo47_0) ?_; refine lV (r_l1 (v := VI 15) H (i := 1) rfl rfl ct3 ((wrkE_c1 _).comp (oprE_c0 _))) ?_; refine eN ?_
  refine qB ?_; refine rG ?_; refine lV (r_bin (a := 15) (b := 1) rfl rfl (fun _ => b_eqlB false (decide_eq_false (by decide)))) ?_; refine aZ ?_; refine eN ?_
  refine qN ?_; refine rG ?_; refine lV (r_bin (a := 15) (b := 2) rfl rfl (fun _ => b_eqlB false (decide_eq_false (by decide)))) ?_; refine aZ ?_; refine eN ?_
  refine qN ?_; refine rG ?_; refine lV (r_bin (a := 15) (b := 3) rfl rfl (fun _ => b_eqlB false (decide_eq_false (by decide)))) ?_; refine aZ ?_; refine eN ?_
  refine qN ?_; refine rG ?_; refine lV (r_bin (a := 15) (b := 4) rfl rfl (fun _ => b_eqlB false (decide_eq_false (by decide)))) ?_; refine aZ ?_; refine eN ?_
  refine qN ?_; refine rG ?_; refine lV (r_bin (a := 15) (b := 5) rfl rfl (fun _ => b_eqlB false (decide_eq_false (by decide)))) ?_; refine aZ ?_; refine eN ?_
  refine qN ?_; refine rG ?_; refine lV (r_bin (a := 15) (b := 6) rfl rfl (fun _ => b_eqlB false (decide_eq_false (by decide)))) ?_; refine aZ ?_; refine eN ?_
  refine qN ?_; refine rG ?_; refine lV (r_bin (a := 15) (b := 7) rfl rfl (fun _ => b_eqlB false (decide_eq_false (by decide)))) ?_; refine aZ ?_; refine eN ?_
  refine qN ?_; refine rG ?_; refine lV (r_bin (a := 15) (b := 8) rfl rfl (fun _ => b_eqlB false (decide_eq_false (by decide)))) ?_; refine aZ ?_; refine eN ?_
  refine qN ?_; refine rG ?_; refine lV (r_bin (a := 15) (b := 9) rfl rfl (fun _ => b_eqlB false (decide_eq_false (by decide)))) ?_; refine aZ ?_; refine eN ?_
  refine qN ?_; refine rG ?_; refine lV (r_bin (a := 15) (b := 10) rfl rfl (fun _ => b_eqlB false (decide_eq_false (by decide)))) ?_; refine aZ ?_; refine eN ?_
  refine qN ?_; refine rG ?_; refine lV (r_bin (a := 15) (b := 11) rfl rfl (fun _ => b_eqlB false (decide_eq_false (by decide)))) ?_; refine aZ ?_; refine eN ?_
  refine qN ?_; refine rG ?_; refine lV (r_bin (a := 15) (b := 12) rfl rfl (fun _ => b_eqlB false (decide_eq_false (by decide)))) ?_; refine aZ ?_; refine eN ?_
  refine qN ?_; refine rG ?_; refine lV (r_bin (a := 15) (b := 13) rfl rfl (fun _ => b_eqlB false (decide_eq_false (by decide)))) ?_; refine aZ ?_; refine eN ?_
  refine qN ?_; refine rG ?_; refine lV (r_bin (a := 15) (b := 14) rfl rfl (fun _ => b_eqlB false (decide_eq_false (by decide)))) ?_; refine aZ ?_; refine eN ?_
  refine qN ?_; refine rG ?_; refine lV (r_bin (a := 15) (b := 15) rfl rfl (fun _ => b_eqlB true (decide_eq_true (by decide)))) ?_; refine aZ ?_; refine eN ?_
  refine qY ?_; refine rG ?_; refine mV ?_; refine l_op (o_callR Tryz.func63 rfl rfl rfl (hX _ [Ch.blk b1 (ansE (⟨0, ⟨none, 0, 0, []⟩⟩ : Ans)) 43] H) ?_); rintro _ w ⟨x2, rfl, Hc⟩
  replace H := H.callT (L1' := []) (T' := (L1 x2)) (L := [.blk b1 (ansE (⟨0, ⟨none, 0, 0, []⟩⟩ : Ans)) 43, .blk wb (wrkE (⟨ws, (⟨15, op.tenant, op.of, op.number, op.until_, op.rights, op.body, op.token, op.now, op.draw⟩ : Opr), tp, ser⟩ : Wrk)) 75]) (L1 := [.blk wb (wrkE (⟨ws, (⟨15, op.tenant, op.of, op.number, op.until_, op.rights, op.body, op.token, op.now, op.draw⟩ : Opr), tp, ser⟩ : Wrk)) 75]) (Lr := ([.blk b1 (ansE (⟨0, ⟨none, 0, 0, []⟩⟩ : Ans)) 43] : List Ch)) (T := Lr) ((perm_front (j := 1) rfl).trans (.cons _ (.refl _))) Hc (.refl _)
  clear Hc
  replace H : Hp _ w _ (Ch.blk b1 (ansE (⟨0, ⟨none, 0, 0, []⟩⟩ : Ans)) 43 :: (L1 x2)) := H
  refine l_op (o_stW (C' := ansE (⟨(A x2).status, ((A x2).body)⟩ : Ans)) H (i := 0) rfl rfl rfl cs43 (ansE_all _) (ansE_len _) (ansE_len _) (fun w H => ?_)); replace H : Hp _ w _ (Ch.blk b1 (ansE (⟨(A x2).status, ((A x2).body)⟩ : Ans)) 43 :: (L1 x2)) := H
  refine eN ?_
  refine cR ?_
  refine e_retc Tryz.results21 H (i := 0) rfl rfl rt43 (ansE_len _).symm ?_
  refine ⟨_, rfl, ?_⟩
  exact ⟨_, rfl, H.sub (.cons _ (.refl _))⟩
end Go.Proofs.YtmiabahejnjhiaaGreatDoor
namespace Go.Proofs.YtmiabahejnjhiaaGreatDoor
open Go
set_option maxRecDepth 100000
theorem pm6 (w n t b d s : Ch) : [w, n, t, b, d, s].Perm ([w, t, b, d, s] ++ [n]) := .cons _ (List.perm_append_comm (l₁ := [n]) (l₂ := [t, b, d, s]))
theorem pm5 (w n t b d s : Ch) : ([n] ++ [w, t, b, d, s]).Perm [w, n, t, b, d, s] := .swap ..
theorem pm2 (w n t b d s : Ch) : [w, n, t, b, d, s].Perm ([w, t] ++ [n, b, d, s]) := .cons _ (.swap ..)
theorem shB_nm {key of : Id32} {nx : Int} {sn : List Sn} : ∀ y, ShB key of nx sn y → y.T.name = [97] := by rintro y ⟨_, _, _, _, _, _, _, _, rfl⟩; rfl
theorem stepB_ret (w0 : World) (tb tc bc dc sc : Nat) (ba da sa : Option Nat) (r : Id32) (dl : Int) (h key of : Id32) (a : Option Nat) (k n : Nat) (LG : List Ent) (hn : n ≤ 9) (hlg : (⟨hd a, n, k, LG⟩ : Gl Ent).ok entE 38 w0) (hln : (hd a).isNone = false) (nx : Int) (sn : List Sn) (hnm : sn.length ≤ 16) (hts : (⟨hd (some tb), 1, tc, [(⟨[97], key, 1000, nx, ⟨hd ba, 1, bc, [⟨of, ⟨hd da, 3, dc, [68, 49, 0]⟩⟩]⟩, ⟨hd sa, sn.length, sc, sn⟩, ⟨none, 0, 0, []⟩⟩ : Tn)]⟩ : Gl Tn).ok tnE 38 w0) (hbl : (⟨hd ba, 1, bc, [(⟨of, ⟨hd da, 3, dc, [68, 49, 0]⟩⟩ : Bl)]⟩ : Gl Bl).ok blE 33 w0) (hda : (⟨hd da, 3, dc, [68, 49, 0]⟩ : Sl).ok w0) (hsn : (⟨hd sa, sn.length, sc, sn⟩ : Gl Sn).ok snE 36 w0) (P : Sh → Prop) (d : Int) (hdd : d = 1 ∨ d = 3 ∨ d = 7 ∨ d = 8 ∨ d = 10 ∨ d = 15) (st : Int) (hst : st = 200 ∨ st = 201) (of2 : Id32) (m : Int) (b : Sl) (now : Int) (hmay : 0 ≤ m ∧ b.len ≤ 4096 ∧ 0 ≤ now) (hnow : 0 ≤ now ∧ now < 9223372036854775807) (s : Sl) (hs : s.ok w0) (hsl : s.l = tokB (tagR r) ∧ s.len ≤ 4096) (hdo : DoC w0 r dl h d st of2 m b s now (ShB key of nx sn) P) :
    Ret Tryz.prog 9 [.agg (staE (⟨r, dl, 0, ⟨hd (some tb), 1, tc, [(⟨[97], key, 1000, nx, ⟨hd ba, 1, bc, [⟨of, ⟨hd da, 3, dc, [68, 49, 0]⟩⟩]⟩, ⟨hd sa, sn.length, sc, sn⟩, ⟨none, 0, 0, []⟩⟩ : Tn)]⟩, ⟨none, 0, 0, []⟩, ⟨hd a, n, k, LG⟩, h⟩ : Sta)).toArray, .agg (oprE (⟨d, [97], of2, m, 0, 0, b, s, now, zId⟩ : Opr)).toArray] w0 fun v w' => OutY w0 w' r dl (n + 1) st P v :=
  stepA_ret w0 _ _ hlg (by show n ≤ 4000; omega) (ShB key of nx sn) P shB_nm r dl h (fun w1 H => twinB_ret w1 (some tb) ba da sa tc bc dc sc r dl h key of _ (hlg.up H) hln (by show n ≤ 4096; omega) nx sn hnm (hts.up H) (hbl.up H) (hda.up H (fun _ => apart_nil _)) (hsn.up H)) d hdd st hst of2 m b s now hmay hnow hs hsl hdo
theorem stepPut_ret (w0 : World) (ta : Option Nat) (tc : Nat) (r : Id32) (dl : Int) (h key of : Id32) (a : Option Nat) (k n : Nat) (LG : List Ent) (hn : n ≤ 9) (hlg : (⟨hd a, n, k, LG⟩ : Gl Ent).ok entE 38 w0) (hln : (hd a).isNone = false) (hts : (⟨hd ta, 1, tc, [(⟨[97], key, 1000, 1, ⟨none, 0, 0, []⟩, ⟨none, 0, 0, []⟩, ⟨none, 0, 0, []⟩⟩ : Tn)]⟩ : Gl Tn).ok tnE 38 w0) (s : Sl) (hs : s.ok w0) (hsl : s.l = tokB (tagR r) ∧ s.len ≤ 4096) (xa : Option Addr) (xc : Nat) (hb : (⟨xa, 3, xc, [68, 49, 0]⟩ : Sl).ok w0) (hof : of.1 = hmac key.1 (framed [[68, 49, 0]])) :
    Ret Tryz.prog 9 [.agg (staE (⟨r, dl, 0, ⟨hd ta, 1, tc, [(⟨[97], key, 1000, 1, ⟨none, 0, 0, []⟩, ⟨none, 0, 0, []⟩, ⟨none, 0, 0, []⟩⟩ : Tn)]⟩, ⟨none, 0, 0, []⟩, ⟨hd a, n, k, LG⟩, h⟩ : Sta)).toArray, .agg (oprE (⟨1, [97], of, 0, 0, 0, ⟨xa, 3, xc, [68, 49, 0]⟩, s, 0, zId⟩ : Opr)).toArray] w0 fun v w' => OutY w0 w' r dl (n + 1) 201 (ShB key of 1 []) v :=
  stepA_ret w0 _ _ hlg (by show n ≤ 4000; omega) (ShA key) _ (fun y hy => by rw [hy]) r dl h (fun w1 H => twinA_ret w1 ta tc r dl h key _ (hlg.up H) hln (by show n ≤ 4096; omega) (hts.up H)) 1 (.inl rfl) 201 (.inr rfl) of 0 _ s 0 ⟨Int.le_refl _, by show 3 ≤ 4096; decide, Int.le_refl _⟩ ⟨Int.le_refl _, by decide⟩ hs hsl fun w1 wb nb y lg hq hH => by
    obtain ⟨tb, tc, T, ba, bn, bc, bl, da, dn, dc, dl2, sa, sn, sc, sl⟩ := y
    cases hq
    have h2 := hH.subP (pm2 ..) rfl
    have hap := hb.apP hH (pm2 ..) rfl
    refine (doG1_ret _ _ w1 wb (some nb) (some tb) 0 (⟨1, [97], of, 0, 0, 0, ⟨xa, 3, xc, [68, 49, 0]⟩, s, 0, zId⟩ : Opr) _ h2.owns fun w2 L' h4 => wput_ret w2 (some nb) 0 wb tb tc key of s xa xc ((hb.up hH (fun _ => apart_nil _)).up h4 hap) hap hof (h4.sub (List.sublist_append_right ..)).owns).mono fun v w' ⟨x, hv, H⟩ => ?_
    refine ⟨⟨tb, tc, _, x.1, 1, x.2.1, _, x.2.2.1, 3, x.2.2.2, [68, 49, 0], none, 0, 0, []⟩, _, ⟨tb, tc, x.1, x.2.1, x.2.2.1, x.2.2.2, none, 0, rfl⟩, hv, ?_⟩
    have h3 := hH.owns.start.callP (pm2 ..) rfl H (.refl _)
    exact (((h3.sub (.cons_cons _ (.cons _ (.cons _ (.cons _ (.refl _)))))).permL (.swap ..)).nilEnd 95 36)
theorem stepCom_ret (w0 : World) (tb tc bc dc sc : Nat) (ba da sa : Option Nat) (r : Id32) (dl : Int) (h key of : Id32) (a : Option Nat) (k n : Nat) (LG : List Ent) (hn : n ≤ 9) (hlg : (⟨hd a, n, k, LG⟩ : Gl Ent).ok entE 38 w0) (hln : (hd a).isNone = false) (hts : (⟨hd (some tb), 1, tc, [(⟨[97], key, 1000, 1, ⟨hd ba, 1, bc, [⟨of, ⟨hd da, 3, dc, [68, 49, 0]⟩⟩]⟩, ⟨hd sa, ([] : List Sn).length, sc, ([] : List Sn)⟩, ⟨none, 0, 0, []⟩⟩ : Tn)]⟩ : Gl Tn).ok tnE 38 w0) (hbl : (⟨hd ba, 1, bc, [(⟨of, ⟨hd da, 3, dc, [68, 49, 0]⟩⟩ : Bl)]⟩ : Gl Bl).ok blE 33 w0) (hda : (⟨hd da, 3, dc, [68, 49, 0]⟩ : Sl).ok w0) (hsn : (⟨hd sa, ([] : List Sn).length, sc, ([] : List Sn)⟩ : Gl Sn).ok snE 36 w0) (s : Sl) (hs : s.ok w0) (hsl : s.l = tokB (tagR r) ∧ s.len ≤ 4096) (ya : Option Addr) (yc : Nat) (hb : (⟨ya, 43, yc, m0B of⟩ : Sl).ok w0) :
    Ret Tryz.prog 9 [.agg (staE (⟨r, dl, 0, ⟨hd (some tb), 1, tc, [(⟨[97], key, 1000, 1, ⟨hd ba, 1, bc, [⟨of, ⟨hd da, 3, dc, [68, 49, 0]⟩⟩]⟩, ⟨hd sa, ([] : List Sn).length, sc, ([] : List Sn)⟩, ⟨none, 0, 0, []⟩⟩ : Tn)]⟩, ⟨none, 0, 0, []⟩, ⟨hd a, n, k, LG⟩, h⟩ : Sta)).toArray, .agg (oprE (⟨3, [97], zId, 0, 0, 0, ⟨ya, 43, yc, m0B of⟩, s, 0, zId⟩ : Opr)).toArray] w0 fun v w' => OutY w0 w' r dl (n + 1) 201 (ShB key of 2 [(⟨1, (⟨of, 0, []⟩ : Mf), 0⟩ : Sn)]) v :=
  stepB_ret w0 tb tc bc dc sc ba da sa r dl h key of a k n LG hn hlg hln 1 [] (by decide) hts hbl hda hsn _ 3 (.inr (.inl rfl)) 201 (.inr rfl) zId 0 _ 0 ⟨Int.le_refl _, by show 43 ≤ 4096; decide, Int.le_refl _⟩ ⟨Int.le_refl _, by decide⟩ s hs hsl fun w1 wb nb y lg hq hH => by
    obtain ⟨tb, tc, ba, bc, da, dc, sa, sc, rfl⟩ := hq
    have hap := hb.apP hH (pm6 ..) rfl
    refine (doG3_ret _ _ w1 wb (some nb) (some tb) 0 (⟨3, [97], zId, 0, 0, 0, ⟨ya, 43, yc, m0B of⟩, s, 0, zId⟩ : Opr) _ (hH.subP (pm6 ..) rfl).owns fun w2 L' h4 => commit_ret w2 (some nb) 0 wb tb tc key of zId s ya yc ba bc da dc sa sc ((hb.up hH (fun _ => apart_nil _)).up h4 hap) hap (h4.sub (List.sublist_append_right ..)).owns).mono fun v w' ⟨x, hv, H⟩ => ?_
    exact ⟨_, _, ⟨tb, tc, ba, bc, da, dc, x.1, x.2.1, rfl⟩, hv, hH.owns.start.callP (pm6 ..) rfl H (pm5 ..)⟩
theorem stepDoom_ret (w0 : World) (tb tc bc dc sc : Nat) (ba da sa : Option Nat) (r : Id32) (dl : Int) (h key of : Id32) (a : Option Nat) (k n : Nat) (LG : List Ent) (hn : n ≤ 9) (hlg : (⟨hd a, n, k, LG⟩ : Gl Ent).ok entE 38 w0) (hln : (hd a).isNone = false) (hts : (⟨hd (some tb), 1, tc, [(⟨[97], key, 1000, 2, ⟨hd ba, 1, bc, [⟨of, ⟨hd da, 3, dc, [68, 49, 0]⟩⟩]⟩, ⟨hd sa, ([(⟨1, (⟨of, 0, []⟩ : Mf), 0⟩ : Sn)]).length, sc, [(⟨1, (⟨of, 0, []⟩ : Mf), 0⟩ : Sn)]⟩, ⟨none, 0, 0, []⟩⟩ : Tn)]⟩ : Gl Tn).ok tnE 38 w0) (hbl : (⟨hd ba, 1, bc, [(⟨of, ⟨hd da, 3, dc, [68, 49, 0]⟩⟩ : Bl)]⟩ : Gl Bl).ok blE 33 w0) (hda : (⟨hd da, 3, dc, [68, 49, 0]⟩ : Sl).ok w0) (hsn : (⟨hd sa, ([(⟨1, (⟨of, 0, []⟩ : Mf), 0⟩ : Sn)]).length, sc, [(⟨1, (⟨of, 0, []⟩ : Mf), 0⟩ : Sn)]⟩ : Gl Sn).ok snE 36 w0) (s : Sl) (hs : s.ok w0) (hsl : s.l = tokB (tagR r) ∧ s.len ≤ 4096) (b : Sl) (hb : b.len = 0) (now : Int) (hdl : 0 ≤ dl ∧ dl ≤ 9223372036854775807) (hnow : 0 ≤ now ∧ now < 9223372036854775807) (ht : Tab w0) :
    Ret Tryz.prog 9 [.agg (staE (⟨r, dl, 0, ⟨hd (some tb), 1, tc, [(⟨[97], key, 1000, 2, ⟨hd ba, 1, bc, [⟨of, ⟨hd da, 3, dc, [68, 49, 0]⟩⟩]⟩, ⟨hd sa, ([(⟨1, (⟨of, 0, []⟩ : Mf), 0⟩ : Sn)]).length, sc, [(⟨1, (⟨of, 0, []⟩ : Mf), 0⟩ : Sn)]⟩, ⟨none, 0, 0, []⟩⟩ : Tn)]⟩, ⟨none, 0, 0, []⟩, ⟨hd a, n, k, LG⟩, h⟩ : Sta)).toArray, .agg (oprE (⟨7, [97], zId, 1, 0, 0, b, s, now, zId⟩ : Opr)).toArray] w0 fun v w' => OutY w0 w' r dl (n + 1) 200 (ShB key of 2 [(⟨1, (⟨of, 0, []⟩ : Mf), timeF dl now⟩ : Sn)]) v :=
  stepB_ret w0 tb tc bc dc sc ba da sa r dl h key of a k n LG hn hlg hln 2 _ (by show 1 ≤ 16; decide) hts hbl hda hsn _ 7 (.inr (.inr (.inl rfl))) 200 (.inl rfl) zId 1 b now ⟨by decide, by omega, hnow.1⟩ hnow s hs hsl fun w1 wb nb y lg hq hH => by
    obtain ⟨tb, tc, ba, bc, da, dc, sa, sc, rfl⟩ := hq
    have hK : ∀ g, Tryz.prog.globalNamed "internal/strconv.uint64pow10" = some g → g ∉ keys hH.owns.l := fun g hg hm => by
      have h1 := hH.lowK g hm
      have h2 := ht.low g hg
      omega
    refine (doG7_ret _ _ w1 wb (some nb) (some tb) 0 (⟨7, [97], zId, 1, 0, 0, b, s, now, zId⟩ : Opr) _ hH.owns fun w2 L' h4 => doom_ret w2 wb nb tb tc r dl h lg 0 key of zId b s ba bc da dc sa sc now hdl ⟨hnow.1, by omega⟩ ((ht.up0 hH).up h4 hK) hK (h4.sub (List.sublist_append_right ..)).owns).mono fun v w' ⟨bd, hv, H⟩ => ?_
    exact ⟨_, _, ⟨tb, tc, ba, bc, da, dc, sa, sc, rfl⟩, hv, H⟩
theorem stepSpare_ret (w0 : World) (tb tc bc dc sc : Nat) (ba da sa : Option Nat) (r : Id32) (dl : Int) (h key of : Id32) (a : Option Nat) (k n : Nat) (LG : List Ent) (hn : n ≤ 9) (hlg : (⟨hd a, n, k, LG⟩ : Gl Ent).ok entE 38 w0) (hln : (hd a).isNone = false) (D : Int) (hts : (⟨hd (some tb), 1, tc, [(⟨[97], key, 1000, 2, ⟨hd ba, 1, bc, [⟨of, ⟨hd da, 3, dc, [68, 49, 0]⟩⟩]⟩, ⟨hd sa, ([(⟨1, (⟨of, 0, []⟩ : Mf), D⟩ : Sn)]).length, sc, [(⟨1, (⟨of, 0, []⟩ : Mf), D⟩ : Sn)]⟩, ⟨none, 0, 0, []⟩⟩ : Tn)]⟩ : Gl Tn).ok tnE 38 w0) (hbl : (⟨hd ba, 1, bc, [(⟨of, ⟨hd da, 3, dc, [68, 49, 0]⟩⟩ : Bl)]⟩ : Gl Bl).ok blE 33 w0) (hda : (⟨hd da, 3, dc, [68, 49, 0]⟩ : Sl).ok w0) (hsn : (⟨hd sa, ([(⟨1, (⟨of, 0, []⟩ : Mf), D⟩ : Sn)]).length, sc, [(⟨1, (⟨of, 0, []⟩ : Mf), D⟩ : Sn)]⟩ : Gl Sn).ok snE 36 w0) (s : Sl) (hs : s.ok w0) (hsl : s.l = tokB (tagR r) ∧ s.len ≤ 4096) (b : Sl) (hb : b.len = 0) (now : Int) (hnow : 0 ≤ now ∧ now < 9223372036854775807) :
    Ret Tryz.prog 9 [.agg (staE (⟨r, dl, 0, ⟨hd (some tb), 1, tc, [(⟨[97], key, 1000, 2, ⟨hd ba, 1, bc, [⟨of, ⟨hd da, 3, dc, [68, 49, 0]⟩⟩]⟩, ⟨hd sa, ([(⟨1, (⟨of, 0, []⟩ : Mf), D⟩ : Sn)]).length, sc, [(⟨1, (⟨of, 0, []⟩ : Mf), D⟩ : Sn)]⟩, ⟨none, 0, 0, []⟩⟩ : Tn)]⟩, ⟨none, 0, 0, []⟩, ⟨hd a, n, k, LG⟩, h⟩ : Sta)).toArray, .agg (oprE (⟨8, [97], zId, 1, 0, 0, b, s, now, zId⟩ : Opr)).toArray] w0 fun v w' => OutY w0 w' r dl (n + 1) 200 (ShB key of 2 [(⟨1, (⟨of, 0, []⟩ : Mf), 0⟩ : Sn)]) v :=
  stepB_ret w0 tb tc bc dc sc ba da sa r dl h key of a k n LG hn hlg hln 2 _ (by show 1 ≤ 16; decide) hts hbl hda hsn _ 8 (.inr (.inr (.inr (.inl rfl)))) 200 (.inl rfl) zId 1 b now ⟨by decide, by omega, hnow.1⟩ hnow s hs hsl fun w1 wb nb y lg hq hH => by
    obtain ⟨tb, tc, ba, bc, da, dc, sa, sc, rfl⟩ := hq
    refine (doG8_ret _ _ w1 wb (some nb) (some tb) 0 (⟨8, [97], zId, 1, 0, 0, b, s, now, zId⟩ : Opr) _ hH.owns fun w2 L' h4 => spare_ret w2 wb nb tb tc r dl h lg 0 key of zId b s ba bc da dc sa sc now D (h4.sub (List.sublist_append_right ..)).owns).mono fun v w' ⟨_, hv, H⟩ => ?_
    exact ⟨_, _, ⟨tb, tc, ba, bc, da, dc, sa, sc, rfl⟩, hv, H⟩
/-- how many snapshots are left. -/
def kF (D now : Int) : Nat := if D ≠ 0 ∧ D ≤ now then 0 else 1
theorem stepSweep_ret (w0 : World) (tb tc bc dc sc : Nat) (ba da sa : Option Nat) (r : Id32) (dl : Int) (h key of : Id32) (a : Option Nat) (k n : Nat) (LG : List Ent) (hn : n ≤ 9) (hlg : (⟨hd a, n, k, LG⟩ : Gl Ent).ok entE 38 w0) (hln : (hd a).isNone = false) (D : Int) (hts : (⟨hd (some tb), 1, tc, [(⟨[97], key, 1000, 2, ⟨hd ba, 1, bc, [⟨of, ⟨hd da, 3, dc, [68, 49, 0]⟩⟩]⟩, ⟨hd sa, ([(⟨1, (⟨of, 0, []⟩ : Mf), D⟩ : Sn)]).length, sc, [(⟨1, (⟨of, 0, []⟩ : Mf), D⟩ : Sn)]⟩, ⟨none, 0, 0, []⟩⟩ : Tn)]⟩ : Gl Tn).ok tnE 38 w0) (hbl : (⟨hd ba, 1, bc, [(⟨of, ⟨hd da, 3, dc, [68, 49, 0]⟩⟩ : Bl)]⟩ : Gl Bl).ok blE 33 w0) (hda : (⟨hd da, 3, dc, [68, 49, 0]⟩ : Sl).ok w0) (hsn : (⟨hd sa, ([(⟨1, (⟨of, 0, []⟩ : Mf), D⟩ : Sn)]).length, sc, [(⟨1, (⟨of, 0, []⟩ : Mf), D⟩ : Sn)]⟩ : Gl Sn).ok snE 36 w0) (s : Sl) (hs : s.ok w0) (hsl : s.l = tokB (tagR r) ∧ s.len ≤ 4096) (b : Sl) (hb : b.len = 0) (now : Int) (hnow : 0 ≤ now ∧ now < 9223372036854775807) :
    Ret Tryz.prog 9 [.agg (staE (⟨r, dl, 0, ⟨hd (some tb), 1, tc, [(⟨[97], key, 1000, 2, ⟨hd ba, 1, bc, [⟨of, ⟨hd da, 3, dc, [68, 49, 0]⟩⟩]⟩, ⟨hd sa, ([(⟨1, (⟨of, 0, []⟩ : Mf), D⟩ : Sn)]).length, sc, [(⟨1, (⟨of, 0, []⟩ : Mf), D⟩ : Sn)]⟩, ⟨none, 0, 0, []⟩⟩ : Tn)]⟩, ⟨none, 0, 0, []⟩, ⟨hd a, n, k, LG⟩, h⟩ : Sta)).toArray, .agg (oprE (⟨15, [97], zId, 0, 0, 0, b, s, now, zId⟩ : Opr)).toArray] w0 fun v w' => OutY w0 w' r dl (n + 1) 200 (fun y => y.T.snaps.len = kF D now) v :=
  stepB_ret w0 tb tc bc dc sc ba da sa r dl h key of a k n LG hn hlg hln 2 _ (by show 1 ≤ 16; decide) hts hbl hda hsn _ 15 (.inr (.inr (.inr (.inr (.inr rfl))))) 200 (.inl rfl) zId 0 b now ⟨by decide, by omega, hnow.1⟩ hnow s hs hsl fun w1 wb nb y lg hq hH => by
    obtain ⟨tb, tc, ba, bc, da, dc, sa, sc, rfl⟩ := hq
    by_cases hD : D ≠ 0 ∧ D ≤ now
    · refine (doG15_ret _ _ w1 wb (some nb) (some tb) 0 (⟨15, [97], zId, 0, 0, 0, b, s, now, zId⟩ : Opr) _ (hH.subP (pm6 ..) rfl).owns fun w2 L' h4 => sweep0_ret w2 (some nb) 0 wb tb tc key of zId 0 b s ba bc da dc sa sc now D hD (h4.sub (List.sublist_append_right ..)).owns).mono fun v w' ⟨x, hv, H⟩ => ?_
      exact ⟨⟨tb, tc, ⟨[97], key, 1000, 2, ⟨hd ba, 1, bc, [⟨of, ⟨hd da, 3, dc, [68, 49, 0]⟩⟩]⟩, ⟨hd x.1, 0, x.2.1, x.2.2.1⟩, ⟨none, 0, 0, []⟩⟩, ba, 1, bc, [⟨of, ⟨hd da, 3, dc, [68, 49, 0]⟩⟩], da, 3, dc, [68, 49, 0], x.1, 0, x.2.1, x.2.2.1⟩, _, by rw [kF, if_pos hD], hv, hH.owns.start.callP (pm6 ..) rfl H (pm5 ..)⟩
    · refine (doG15_ret _ _ w1 wb (some nb) (some tb) 0 (⟨15, [97], zId, 0, 0, 0, b, s, now, zId⟩ : Opr) _ (hH.subP (pm6 ..) rfl).owns fun w2 L' h4 => sweep1_ret w2 (some nb) 0 wb tb tc key of zId 0 b s ba bc da dc sa sc now D oM (h4.sub (List.sublist_append_right ..)).owns).mono fun v w' ⟨x, hv, H⟩ => ?_
      exact ⟨⟨tb, tc, ⟨[97], key, 1000, 2, ⟨hd ba, 1, bc, [⟨of, ⟨hd da, 3, dc, [68, 49, 0]⟩⟩]⟩, ⟨hd x.1, 1, x.2.1, x.2.2.1⟩, ⟨none, 0, 0, []⟩⟩, ba, 1, bc, [⟨of, ⟨hd da, 3, dc, [68, 49, 0]⟩⟩], da, 3, dc, [68, 49, 0], x.1, 1, x.2.1, x.2.2.1⟩, _, by rw [kF, if_neg hD], hv, hH.owns.start.callP (pm6 ..) rfl H (pm5 ..)⟩
end Go.Proofs.YtmiabahejnjhiaaGreatDoor
namespace Go.Proofs.YtmiabahejnjhiaaGreatDoor
open Go
set_option maxRecDepth 100000
def rootP : Id32 := ⟨[7, 1, 2, 0, 0, 0, 0, 0, 0, 0, 0, 0, 0, 0, 0, 0, 0, 0, 0, 0, 0, 0, 0, 0, 0, 0, 0, 0, 0, 0, 0, 9], rfl⟩
/-- what the blob is named. -/
def ofP : Id32 := ⟨hmac (kT rootP).1 (framed [[68, 49, 0]]), hmac_len _ _⟩
theorem rootP_ret (w0 : World) :
    Ret Tryz.prog 6 [] w0 fun v w' => v = .agg (rootP.1.map V8).toArray ∧ Hp w0 w' [] [] := by
  refine ret_mk Tryz.func6 rfl Tryz.ntmps6 (by simp) ?_
  have H := Hp.refl w0 []
  refine rG ?_; refine l_op (o_alloc H zc24 (fun b1 w H hb1 => ?_)); replace H : Hp _ w _ ([.blk b1 ((List.replicate 32 (0 : UInt8)).map V8) 24]) := H
  refine eN ?_
  refine rG ?_; refine lV (r_bld' (cells := ((([(7 : UInt8), (1 : UInt8), (2 : UInt8), 0, 0, 0, 0, 0, 0, 0, 0, 0, 0, 0, 0, 0, 0, 0, 0, 0, 0, 0, 0, 0, 0, 0, 0, 0, 0, 0, 0, (9 : UInt8)] : List UInt8)).map V8).toArray) (pv := [(0, V8 (7 : UInt8)), (1, V8 (1 : UInt8)), (2, V8 (2 : UInt8)), (31, V8 (9 : UInt8))]) bd24 rfl rfl) ?_; refine l_op (o_stA (l' := ([(7 : UInt8), (1 : UInt8), (2 : UInt8), 0, 0, 0, 0, 0, 0, 0, 0, 0, 0, 0, 0, 0, 0, 0, 0, 0, 0, 0, 0, 0, 0, 0, 0, 0, 0, 0, 0, (9 : UInt8)] : List UInt8)) H (i := 0) rfl rfl rfl cs24 (show (List.replicate 32 (0 : UInt8)).length = 32 from (List.length_replicate ..)) (show (([(7 : UInt8), (1 : UInt8), (2 : UInt8), 0, 0, 0, 0, 0, 0, 0, 0, 0, 0, 0, 0, 0, 0, 0, 0, 0, 0, 0, 0, 0, 0, 0, 0, 0, 0, 0, 0, (9 : UInt8)] : List UInt8)).length = 32 from rfl) (fun w H => ?_)); replace H : Hp _ w _ ([.blk b1 ((([(7 : UInt8), (1 : UInt8), (2 : UInt8), 0, 0, 0, 0, 0, 0, 0, 0, 0, 0, 0, 0, 0, 0, 0, 0, 0, 0, 0, 0, 0, 0, 0, 0, 0, 0, 0, 0, (9 : UInt8)] : List UInt8)).map V8) 24]) := H
  refine eN ?_
  refine cR ?_
  refine e_retA (l := ([(7 : UInt8), (1 : UInt8), (2 : UInt8), 0, 0, 0, 0, 0, 0, 0, 0, 0, 0, 0, 0, 0, 0, 0, 0, 0, 0, 0, 0, 0, 0, 0, 0, 0, 0, 0, 0, (9 : UInt8)] : List UInt8)) Tryz.results6 H (i := 0) rfl rfl rt24 (show (([(7 : UInt8), (1 : UInt8), (2 : UInt8), 0, 0, 0, 0, 0, 0, 0, 0, 0, 0, 0, 0, 0, 0, 0, 0, 0, 0, 0, 0, 0, 0, 0, 0, 0, 0, 0, 0, (9 : UInt8)] : List UInt8)).length = 32 from rfl) ?_
  refine ⟨_, rfl, ?_⟩
  exact ⟨rfl, H.sub (List.nil_sublist _)⟩
theorem func2_ret (w0 : World) (b : Bool) :
    Ret Tryz.prog 12 [.bool b] w0 fun v w' => v = VI (if b = true then 1 else 0) ∧ Hp w0 w' [] [] := by
  refine ret_mk Tryz.func12 rfl Tryz.ntmps12 (by simp) ?_
  have H := Hp.refl w0 []
  refine rG ?_; refine aZ ?_; refine eN ?_
  refine rG ?_; refine mV ?_; refine eN ?_
  have hc10 := Bool.eq_false_or_eq_true (b)
  rcases hc10 with hc1 | hc1
  ·
   repeat refine c_seq ?_
   refine c_yes (by exact congrArg Value.bool hc1) ?_; refine rG ?_; refine aZ ?_; refine eN ?_
   refine cR ?_
   refine e_ret1 (v := VI 1) Tryz.results12 rfl ?_
   refine ⟨_, rfl, ?_⟩
   refine ⟨?_, H⟩
   rw [hc1]; rfl
  ·
   repeat refine c_seq ?_
   refine c_no (by exact congrArg Value.bool hc1) ?_; refine c_skip ?_; refine rG ?_; refine aZ ?_; refine eN ?_
   refine cR ?_
   refine e_ret1 (v := VI 0) Tryz.results12 rfl ?_
   refine ⟨_, rfl, ?_⟩
   refine ⟨?_, H⟩
   rw [hc1]; rfl
theorem dooms_law {dl now later : Int} (_h1 : 0 ≤ dl ∧ dl ≤ 9223372036854775807) (_h2 : 0 ≤ now ∧ now ≤ 9223372036854775807) (_h3 : 0 ≤ later) (d : Int) (hd : d = timeF dl now) : ((kF (timeF dl now) later : Nat) : Int) = if (decide (later < d)) = true then (1 : Int) else 0 := by
  subst hd
  have h4 : 1 ≤ timeF dl now := by
    unfold timeF
    split
    · omega
    · split <;> omega
  rw [kF]
  by_cases h : later < timeF dl now
  · rw [if_neg oM, if_pos (decide_eq_true h)]; rfl
  · rw [if_pos oM, if_neg (by simpa using h)]; rfl
theorem modelDooms_ret (w0 : World) (dl : Int) (hdl : -9223372036854775808 ≤ dl ∧ dl ≤ 9223372036854775807) (now : Int) (hnw : -9223372036854775808 ≤ now ∧ now ≤ 9223372036854775807) (later : Int) (hlt : -9223372036854775808 ≤ later ∧ later ≤ 9223372036854775807) (spared : Bool) (ht : Tab w0) :
    Ret Tryz.prog 3 [VI dl, VI now, VI later, .bool spared] w0 fun v w' => v = .bool true ∧ Hp w0 w' [] [] := by
  refine ret_mk Tryz.func3 rfl Tryz.ntmps3 (by simp) ?_
  have H := Hp.refl w0 []
  refine rG ?_; refine aZ ?_; refine eN ?_
  refine rG ?_; refine l_op (o_callR Tryz.func4 rfl rfl rfl (begun28_ret _) ?_); rintro _ w ⟨rfl, Hc⟩
  replace H : Hp _ w _ ([]) := H.call Hc
  clear Hc
  refine lV (r_not rfl) ?_; refine eN ?_
  refine qN ?_; refine c_skip ?_; refine rG ?_; refine mV ?_; refine lV (r_bin (a := dl) (b := 0) rfl rfl (fun _ => b_lss)) ?_; refine mV ?_
  by_cases hc1 : dl < 0
  ·
   refine l_no rfl rfl (by exact bT hc1) rfl ?_; refine l_no rfl rfl (by exact bT hc1) rfl ?_; refine lV (r_pick (b := true) (bT hc1)) ?_; refine mV ?_; refine l_no rfl rfl rfl rfl ?_; refine l_no rfl rfl rfl rfl ?_; refine l_no rfl rfl rfl rfl ?_; refine lV (r_pick rfl) ?_; refine mV ?_; refine l_no rfl rfl rfl rfl ?_; refine l_no rfl rfl rfl rfl ?_; refine lV (r_pick rfl) ?_; refine eN ?_
   refine qY ?_; refine rG ?_; refine aZ ?_; refine eN ?_
   refine cR ?_
   refine e_ret1 (v := .bool true) Tryz.results3 rfl ?_
   refine ⟨_, rfl, ?_⟩
   exact ⟨rfl, H.sub (List.nil_sublist _)⟩
  ·
   refine l_yes rfl rfl (by exact bF hc1) (o_val r_mv ?_); refine l_yes rfl rfl (by exact bF hc1) (o_val (r_bin (a := now) (b := 0) rfl rfl (fun _ => b_lss)) ?_); refine lV (r_pick (b := false) (bF hc1)) ?_; refine mV ?_
   by_cases hc2 : now < 0
   ·
    refine l_no rfl rfl (by exact bT hc2) rfl ?_; refine l_no rfl rfl (by exact bT hc2) rfl ?_; refine l_no rfl rfl (by exact bT hc2) rfl ?_; refine lV (r_pick (b := true) (bT hc2)) ?_; refine mV ?_; refine l_no rfl rfl rfl rfl ?_; refine l_no rfl rfl rfl rfl ?_; refine lV (r_pick rfl) ?_; refine eN ?_
    refine qY ?_; refine rG ?_; refine aZ ?_; refine eN ?_
    refine cR ?_
    refine e_ret1 (v := .bool true) Tryz.results3 rfl ?_
    refine ⟨_, rfl, ?_⟩
    exact ⟨rfl, H.sub (List.nil_sublist _)⟩
   ·
    refine l_yes rfl rfl (by exact bF hc2) (o_val r_mv ?_); refine l_yes rfl rfl (by exact bF hc2) (o_val r_mv ?_); refine l_yes rfl rfl (by exact bF hc2) (o_val (r_bin (a := later) (b := now) rfl rfl (fun _ => b_lss)) ?_); refine lV (r_pick (b := false) (bF hc2)) ?_; refine mV ?_
    by_cases hc3 : later < now
    ·
     refine l_no rfl rfl (by exact bT hc3) rfl ?_; refine l_no rfl rfl (by exact bT hc3) rfl ?_; refine lV (r_pick (b := true) (bT hc3)) ?_; refine eN ?_
     refine qY ?_; refine rG ?_; refine aZ ?_; refine eN ?_
     refine cR ?_
     refine e_ret1 (v := .bool true) Tryz.results3 rfl ?_
     refine ⟨_, rfl, ?_⟩
     exact ⟨rfl, H.sub (List.nil_sublist _)⟩
    ·
     refine l_yes rfl rfl (by exact bF hc3) (o_val r_mv ?_); refine l_yes rfl rfl (by exact bF hc3) (o_val (r_bin (a := later) (b := 9223372036854775807) rfl rfl (fun _ => b_eql)) ?_); refine lV (r_pick (b := false) (bF hc3)) ?_; refine eN ?_
     by_cases hc4 : later = 9223372036854775807
     ·
      repeat refine c_seq ?_
      refine c_yes (by exact bT hc4) ?_; refine rG ?_; refine aZ ?_; refine eN ?_
      refine cR ?_
      refine e_ret1 (v := .bool true) Tryz.results3 rfl ?_
      refine ⟨_, rfl, ?_⟩
      exact ⟨rfl, H.sub (List.nil_sublist _)⟩
     ·
      repeat refine c_seq ?_
      refine c_no (by exact bF hc4) ?_; refine c_skip ?_; refine rG ?_; refine l_op (o_callR Tryz.func6 rfl rfl rfl (rootP_ret _) ?_); rintro _ w ⟨rfl, Hc⟩
      replace H : Hp _ w _ ([]) := H.call Hc
      clear Hc
      refine mV ?_; refine l_op (o_callR Tryz.func5 rfl rfl rfl (mnew28_ret _ rootP dl oM) ?_); rintro _ w ⟨rfl, Hc⟩
      replace H : Hp _ w _ ([]) := H.call Hc
      clear Hc
      refine l_op (o_alloc H zc30 (fun b5 w H hb5 => ?_)); replace H : Hp _ w _ ([.blk b5 (staE (⟨zId, 0, (0 : UInt64), ⟨none, 0, 0, []⟩, ⟨none, 0, 0, []⟩, ⟨none, 0, 0, []⟩, zId⟩ : Sta)) 30]) := H
      refine l_op (o_stW (C' := staE (⟨rootP, dl, (0 : UInt64), ⟨none, 0, 0, []⟩, ⟨none, 0, 0, []⟩, ⟨none, 0, 0, []⟩, zId⟩ : Sta)) H (i := 0) rfl rfl rfl cs30 (staE_all _) (staE_len _) (staE_len _) (fun w H => ?_)); replace H : Hp _ w _ ([.blk b5 (staE (⟨rootP, dl, (0 : UInt64), ⟨none, 0, 0, []⟩, ⟨none, 0, 0, []⟩, ⟨none, 0, 0, []⟩, zId⟩ : Sta)) 30]) := H
      refine eN ?_
      refine rG ?_; refine l_op (o_callR Tryz.func6 rfl rfl rfl (rootP_ret _) ?_); rintro _ w ⟨rfl, Hc⟩
      replace H : Hp _ w _ ([_]) := H.call Hc
      clear Hc
      refine l_op (o_callR Tryz.func8 rfl rfl rfl (first28_ret _ rootP) ?_); rintro _ w ⟨rfl, Hc⟩
      replace H : Hp _ w _ ([_]) := H.call Hc
      clear Hc
      refine l_op (o_callR Tryz.func7 rfl rfl rfl (bytes140_ret _ rootP) ?_); rintro _ w ⟨a6, c7, rfl, Hc⟩
      replace H : Hp _ w _ ([_, .own a6 60 c7 ((tokB (tagR rootP)).map V8) 5 1]) := H.call Hc
      clear Hc
      refine mV ?_; refine lV (r_ext rfl rfl) ?_; refine lV (r_ext rfl rfl) ?_; refine aZ ?_; refine aZ ?_; refine eN ?_
      refine rG ?_; refine lV (r_ldA (C := staE (⟨rootP, dl, (0 : UInt64), ⟨none, 0, 0, []⟩, ⟨none, 0, 0, []⟩, ⟨none, 0, 0, []⟩, zId⟩ : Sta)) H (i := 0) rfl rfl rt30 (staE_len _)) ?_; refine mV ?_; refine lV (r_bldG (Z := oprE (⟨0, ([] : List UInt8), zId, 0, 0, (0 : UInt8), ⟨none, 0, 0, []⟩, ⟨none, 0, 0, []⟩, 0, zId⟩ : Opr)) (E := oprE (⟨10, ([97] : List UInt8), zId, 1000, 0, (0 : UInt8), ⟨none, 0, 0, []⟩, ⟨hd a6, 60, c7, tokB (tagR rootP)⟩, 0, zId⟩ : Opr)) (pv := [(0, VI 10), (1, .string ⟨(([97] : List UInt8)).toArray⟩), (3, VI 1000), (7, .slice (hd a6) 60 c7)]) bd47 rfl rfl (.consP rfl (oprE_p0 _ 10) rfl (.consP rfl (oprE_p1 _ ([97] : List UInt8)) rfl (.consP rfl (oprE_p3 _ 1000) rfl (.consP rfl (oprE_p7 _ (⟨hd a6, 60, c7, tokB (tagR rootP)⟩)) rfl (.nil _)))))) ?_; refine l_op (o_callR Tryz.func9 rfl rfl rfl (stepT_ret _ rootP dl zId zId 1000 ⟨none, 0, 0, []⟩ _ 0 ⟨by decide, by decide, by decide⟩ ⟨by decide, by decide⟩ (H.slOwn (i := 1) rfl) ⟨rfl, by show 60 ≤ 4096; decide⟩) ?_); rintro _ w ⟨a8, c9, a10, c11, rfl, Hc⟩
      replace H : Hp _ w _ ([_, _, .own a8 1 c9 (([((⟨([97] : List UInt8), kT rootP, 1000, 1, ⟨none, 0, 0, []⟩, ⟨none, 0, 0, []⟩, ⟨none, 0, 0, []⟩⟩ : Tn))]).flatMap tnE) 53 38, .own a10 1 c11 (([(⟨0, 0, 0, [97], 10, 201, zId.1⟩ : Ent)]).flatMap entE) 60 38]) := H.call Hc
      clear Hc
      refine mV ?_; refine lV (r_ext rfl rfl) ?_; refine lV (r_ext rfl rfl) ?_; refine l_op (o_stW (C' := staE (⟨rootP, dl, (0 : UInt64), ⟨hd a8, 1, c9, [((⟨([97] : List UInt8), kT rootP, 1000, 1, ⟨none, 0, 0, []⟩, ⟨none, 0, 0, []⟩, ⟨none, 0, 0, []⟩⟩ : Tn))]⟩, ⟨none, 0, 0, []⟩, ⟨hd a10, 1, c11, [(⟨0, 0, 0, [97], 10, 201, zId.1⟩ : Ent)]⟩, (⟨linkF zId.1 (⟨0, 0, 0, [97], 10, 201, zId.1⟩ : Ent), (show (linkF zId.1 (⟨0, 0, 0, [97], 10, 201, zId.1⟩ : Ent)).length = 32 from (linkF_len _ _))⟩ : Id32)⟩ : Sta)) H (i := 0) rfl rfl rfl cs30 (staE_all _) (staE_len _) (staE_len _) (fun w H => ?_)); replace H : Hp _ w _ ([.blk b5 (staE (⟨rootP, dl, (0 : UInt64), ⟨hd a8, 1, c9, [((⟨([97] : List UInt8), kT rootP, 1000, 1, ⟨none, 0, 0, []⟩, ⟨none, 0, 0, []⟩, ⟨none, 0, 0, []⟩⟩ : Tn))]⟩, ⟨none, 0, 0, []⟩, ⟨hd a10, 1, c11, [(⟨0, 0, 0, [97], 10, 201, zId.1⟩ : Ent)]⟩, (⟨linkF zId.1 (⟨0, 0, 0, [97], 10, 201, zId.1⟩ : Ent), (show (linkF zId.1 (⟨0, 0, 0, [97], 10, 201, zId.1⟩ : Ent)).length = 32 from (linkF_len _ _))⟩ : Id32)⟩ : Sta)) 30, _, _, _]) := H
      refine eN ?_
      refine rG ?_; refine lV (r_fa rfl fo30_3) ?_; refine lV (r_l1 (v := .slice (hd a8) 1 c9) H (i := 0) rfl rfl ct26 (staE_c3 _)) ?_; refine lV (r_lens el26 rfl) ?_; refine lV (r_bin (a := 1) (b := 1) rfl rfl (fun _ => b_neqB false (decide_eq_false (by decide)))) ?_; refine eN ?_
      refine qN ?_; refine c_skip ?_; refine rG ?_; refine l_op (o_bslB ([(68 : UInt8), (49 : UInt8), (0 : UInt8)]) H sl33 zc5 rfl rfl (by decide) (fun b12 w H hb12 => ?_)); replace H : Hp _ w _ ([_, _, _, _, .own (some b12) 3 3 (([(68 : UInt8), (49 : UInt8), (0 : UInt8)]).map V8) 5 1]) := H
      replace H := H.toBlkB (i := 4) rfl
      refine l_op (o_lit H (i := 4) rfl Tryz.underlying33 Tryz.underlying5 rfl (fun w H => ?_)); replace H : Hp _ w _ ([_, _, _, _, .obj b12 (litO (([(68 : UInt8), (49 : UInt8), (0 : UInt8)]).map V8) 5)]) := H
      refine aZ ?_; refine eN ?_
      refine rG ?_; refine lV (r_fa rfl fo30_3) ?_; refine lV (r_l1 (v := .slice (hd a8) 1 c9) H (i := 0) rfl rfl ct26 (staE_c3 _)) ?_; have ah14 := H.ownAddr (i := 2) rfl oM
      obtain ⟨ab13, ah14⟩ := ah14
      refine lV (r_isN 0 rfl rfl el26 ah14 oM (by (try simp only [Sl.cut]); omega)) ?_; refine lV (r_ldRow (s := (⟨hd a8, 1, c9, [((⟨([97] : List UInt8), kT rootP, 1000, 1, ⟨none, 0, 0, []⟩, ⟨none, 0, 0, []⟩, ⟨none, 0, 0, []⟩⟩ : Tn))]⟩ : Gl Tn)) (k := 0) (H.glOwn (i := 2) rfl (by decide) (fun c _ => tnE_len c)) ah14 rfl rt53 (by decide) rfl) ?_; refine mV ?_; refine l_op (o_callR Tryz.func10 rfl rfl rfl (rname_ret _ (⟨([97] : List UInt8), kT rootP, 1000, 1, ⟨none, 0, 0, []⟩, ⟨none, 0, 0, []⟩, ⟨none, 0, 0, []⟩⟩ : Tn) (⟨some ⟨b12, 0, none⟩, 3, 3, [(68 : UInt8), (49 : UInt8), (0 : UInt8)]⟩ : Sl) (ok_lit H (i := 4) rfl rfl rfl (by decide) (by decide)) (by show 3 ≤ 8192; decide)) ?_); rintro _ w ⟨rfl, Hc⟩
      replace H : Hp _ w _ ([_, _, _, _, _]) := H.call Hc
      clear Hc
      refine l_op (o_alloc H zc24 (fun b18 w H hb18 => ?_)); replace H : Hp _ w _ ([_, _, _, _, _, .blk b18 ((List.replicate 32 (0 : UInt8)).map V8) 24]) := H
      refine l_op (o_stA (l' := ofP.1) H (i := 5) rfl rfl rfl cs24 (show (List.replicate 32 (0 : UInt8)).length = 32 from (List.length_replicate ..)) (show (ofP.1).length = 32 from ofP.2) (fun w H => ?_)); replace H : Hp _ w _ ([_, _, _, _, _, .blk b18 ((ofP.1).map V8) 24]) := H
      refine eN ?_
      refine rG ?_; refine lV (r_ldA (C := staE (⟨rootP, dl, (0 : UInt64), ⟨hd a8, 1, c9, [((⟨([97] : List UInt8), kT rootP, 1000, 1, ⟨none, 0, 0, []⟩, ⟨none, 0, 0, []⟩, ⟨none, 0, 0, []⟩⟩ : Tn))]⟩, ⟨none, 0, 0, []⟩, ⟨hd a10, 1, c11, [(⟨0, 0, 0, [97], 10, 201, zId.1⟩ : Ent)]⟩, (⟨linkF zId.1 (⟨0, 0, 0, [97], 10, 201, zId.1⟩ : Ent), (show (linkF zId.1 (⟨0, 0, 0, [97], 10, 201, zId.1⟩ : Ent)).length = 32 from (linkF_len _ _))⟩ : Id32)⟩ : Sta)) H (i := 0) rfl rfl rt30 (staE_len _)) ?_; refine lV (r_ldAA (l := ofP.1) H (i := 5) rfl rfl rt24 (show (ofP.1).length = 32 from ofP.2)) ?_; refine mV ?_; refine mV ?_; refine lV (r_bldG (Z := oprE (⟨0, ([] : List UInt8), zId, 0, 0, (0 : UInt8), ⟨none, 0, 0, []⟩, ⟨none, 0, 0, []⟩, 0, zId⟩ : Opr)) (E := oprE (⟨1, ([97] : List UInt8), ofP, 0, 0, (0 : UInt8), (⟨some ⟨b12, 0, none⟩, 3, 3, [(68 : UInt8), (49 : UInt8), (0 : UInt8)]⟩ : Sl), ⟨hd a6, 60, c7, tokB (tagR rootP)⟩, 0, zId⟩ : Opr)) (pv := [(0, VI 1), (1, .string ⟨(([97] : List UInt8)).toArray⟩), (2, .agg ((ofP.1).map V8).toArray), (6, (⟨some ⟨b12, 0, none⟩, 3, 3, [(68 : UInt8), (49 : UInt8), (0 : UInt8)]⟩ : Sl).v), (7, .slice (hd a6) 60 c7)]) bd47 rfl rfl (.consP rfl (oprE_p0 _ 1) rfl (.consP rfl (oprE_p1 _ ([97] : List UInt8)) rfl (.consP rfl (oprE_p2 _ ofP) rfl (.consP rfl (oprE_p6 _ (⟨some ⟨b12, 0, none⟩, 3, 3, [(68 : UInt8), (49 : UInt8), (0 : UInt8)]⟩ : Sl)) rfl (.consP rfl (oprE_p7 _ (⟨hd a6, 60, c7, tokB (tagR rootP)⟩)) rfl (.nil _))))))) ?_; refine l_op (o_callR Tryz.func9 rfl rfl rfl (stepPut_ret _ a8 c9 rootP dl (⟨linkF zId.1 (⟨0, 0, 0, [97], 10, 201, zId.1⟩ : Ent), (show (linkF zId.1 (⟨0, 0, 0, [97], 10, 201, zId.1⟩ : Ent)).length = 32 from (linkF_len _ _))⟩ : Id32) (kT rootP) ofP a10 c11 1 ([(⟨0, 0, 0, [97], 10, 201, zId.1⟩ : Ent)]) (by decide) (H.glOwn (i := 3) rfl (by decide) (fun c h => by simp at h; subst h; exact ent_len zId.2)) (ownNone H (i := 3) rfl (by decide)) (H.glOwn (i := 2) rfl (by decide) (fun c _ => tnE_len c)) _ (H.slOwn (i := 1) rfl) ⟨rfl, by show 60 ≤ 4096; decide⟩ _ _ (ok_lit H (i := 4) rfl rfl rfl (by decide) (by decide)) rfl) ?_); rintro _ w ⟨_, a19, c20, LG21, h22, bd23, ⟨tb25, tc26, ba27, bc28, da29, dc30, sa31, sc32, rfl⟩, hLG24, rfl, Hc⟩
      replace H : Hp _ w _ ([_, _, _, _, _, _, .own (some tb25) 1 tc26 (([(⟨[97], (kT rootP), 1000, 1, ⟨hd ba27, 1, bc28, [⟨ofP, ⟨hd da29, 3, dc30, [68, 49, 0]⟩⟩]⟩, ⟨hd sa31, ([] : List Sn).length, sc32, ([] : List Sn)⟩, ⟨none, 0, 0, []⟩⟩ : Tn)]).flatMap tnE) 53 38, .own ba27 1 bc28 (([(⟨ofP, ⟨hd da29, 3, dc30, [68, 49, 0]⟩⟩ : Bl)]).flatMap blE) 92 33, .own da29 3 dc30 (([68, 49, 0]).map V8) 5 1, .own sa31 0 sc32 ((([] : List Sn)).flatMap snE) 95 36, .own a19 2 c20 ((LG21).flatMap entE) 60 38]) := H.call Hc
      clear Hc
      refine mV ?_; refine lV (r_ext rfl rfl) ?_; refine lV (r_ext rfl rfl) ?_; refine l_op (o_alloc H zc43 (fun b33 w H hb33 => ?_)); replace H : Hp _ w _ ([_, _, _, _, _, _, _, _, _, _, _, .blk b33 (ansE (⟨0, ⟨none, 0, 0, []⟩⟩ : Ans)) 43]) := H
      refine l_op (o_stW (C' := staE (⟨rootP, dl, (0 : UInt64), ⟨hd (some tb25), 1, tc26, [(⟨[97], (kT rootP), 1000, 1, ⟨hd ba27, 1, bc28, [⟨ofP, ⟨hd da29, 3, dc30, [68, 49, 0]⟩⟩]⟩, ⟨hd sa31, ([] : List Sn).length, sc32, ([] : List Sn)⟩, ⟨none, 0, 0, []⟩⟩ : Tn)]⟩, ⟨none, 0, 0, []⟩, ⟨hd a19, 2, c20, LG21⟩, h22⟩ : Sta)) H (i := 0) rfl rfl rfl cs30 (staE_all _) (staE_len _) (staE_len _) (fun w H => ?_)); replace H : Hp _ w _ ([.blk b5 (staE (⟨rootP, dl, (0 : UInt64), ⟨hd (some tb25), 1, tc26, [(⟨[97], (kT rootP), 1000, 1, ⟨hd ba27, 1, bc28, [⟨ofP, ⟨hd da29, 3, dc30, [68, 49, 0]⟩⟩]⟩, ⟨hd sa31, ([] : List Sn).length, sc32, ([] : List Sn)⟩, ⟨none, 0, 0, []⟩⟩ : Tn)]⟩, ⟨none, 0, 0, []⟩, ⟨hd a19, 2, c20, LG21⟩, h22⟩ : Sta)) 30, _, _, _, _, _, _, _, _, _, _, _]) := H
      refine l_op (o_stW (C' := ansE (⟨201, bd23⟩ : Ans)) H (i := 11) rfl rfl rfl cs43 (ansE_all _) (ansE_len _) (ansE_len _) (fun w H => ?_)); replace H : Hp _ w _ ([_, _, _, _, _, _, _, _, _, _, _, .blk b33 (ansE (⟨201, bd23⟩ : Ans)) 43]) := H
      refine eN ?_
      refine rG ?_; refine lV (r_ldAA (l := ofP.1) H (i := 5) rfl rfl rt24 (show (ofP.1).length = 32 from ofP.2)) ?_; refine lV (r_bldG (Z := mfE (⟨zId, 0, ([] : List UInt8)⟩ : Mf)) (E := mfE (⟨ofP, 0, ([] : List UInt8)⟩ : Mf)) (pv := [(0, .agg ((ofP.1).map V8).toArray)]) bd56 rfl rfl (.consP rfl (mfE_p0 _ ofP) rfl (.nil _))) ?_; refine l_op (o_callR Tryz.func11 rfl rfl rfl (sbytes0_ret _ ofP) ?_); rintro _ w ⟨a34, c35, rfl, Hc⟩
      replace H : Hp _ w _ ([_, _, _, _, _, _, _, _, _, _, _, _, .own a34 43 c35 ((m0B ofP).map V8) 5 1]) := H.call Hc
      clear Hc
      refine mV ?_; refine lV (r_ext rfl rfl) ?_; refine lV (r_ext rfl rfl) ?_; refine aZ ?_; refine aZ ?_; refine eN ?_
      refine rG ?_; refine lV (r_ldA (C := staE (⟨rootP, dl, (0 : UInt64), ⟨hd (some tb25), 1, tc26, [(⟨[97], (kT rootP), 1000, 1, ⟨hd ba27, 1, bc28, [⟨ofP, ⟨hd da29, 3, dc30, [68, 49, 0]⟩⟩]⟩, ⟨hd sa31, ([] : List Sn).length, sc32, ([] : List Sn)⟩, ⟨none, 0, 0, []⟩⟩ : Tn)]⟩, ⟨none, 0, 0, []⟩, ⟨hd a19, 2, c20, LG21⟩, h22⟩ : Sta)) H (i := 0) rfl rfl rt30 (staE_len _)) ?_; refine mV ?_; refine mV ?_; refine lV (r_bldG (Z := oprE (⟨0, ([] : List UInt8), zId, 0, 0, (0 : UInt8), ⟨none, 0, 0, []⟩, ⟨none, 0, 0, []⟩, 0, zId⟩ : Opr)) (E := oprE (⟨3, ([97] : List UInt8), zId, 0, 0, (0 : UInt8), ⟨hd a34, 43, c35, m0B ofP⟩, ⟨hd a6, 60, c7, tokB (tagR rootP)⟩, 0, zId⟩ : Opr)) (pv := [(0, VI 3), (1, .string ⟨(([97] : List UInt8)).toArray⟩), (6, .slice (hd a34) 43 c35), (7, .slice (hd a6) 60 c7)]) bd47 rfl rfl (.consP rfl (oprE_p0 _ 3) rfl (.consP rfl (oprE_p1 _ ([97] : List UInt8)) rfl (.consP rfl (oprE_p6 _ (⟨hd a34, 43, c35, m0B ofP⟩)) rfl (.consP rfl (oprE_p7 _ (⟨hd a6, 60, c7, tokB (tagR rootP)⟩)) rfl (.nil _)))))) ?_; refine l_op (o_callR Tryz.func9 rfl rfl rfl (stepCom_ret _ tb25 tc26 bc28 dc30 sc32 ba27 da29 sa31 rootP dl h22 (kT rootP) ofP a19 c20 2 LG21 (by decide) (H.glOwn (i := 10) rfl (by decide) (fun c hc => hLG24 c hc)) (ownNone H (i := 10) rfl (by decide)) (H.glOwn (i := 6) rfl (by decide) (fun c _ => tnE_len c)) (H.glOwn (i := 7) rfl (by decide) (fun c _ => blE_len c)) (H.slOwn (i := 8) rfl) (H.glOwn (i := 9) rfl (by decide) (fun c _ => snE_len c)) _ (H.slOwn (i := 1) rfl) ⟨rfl, by show 60 ≤ 4096; decide⟩ _ _ (H.slOwn (i := 12) rfl)) ?_); rintro _ w ⟨_, a36, c37, LG38, h39, bd40, ⟨tb42, tc43, ba44, bc45, da46, dc47, sa48, sc49, rfl⟩, hLG41, rfl, Hc⟩
      replace H : Hp _ w _ ([_, _, _, _, _, _, _, _, _, _, _, _, _, .own (some tb42) 1 tc43 (([(⟨[97], (kT rootP), 1000, 2, ⟨hd ba44, 1, bc45, [⟨ofP, ⟨hd da46, 3, dc47, [68, 49, 0]⟩⟩]⟩, ⟨hd sa48, ([(⟨1, (⟨ofP, 0, []⟩ : Mf), 0⟩ : Sn)]).length, sc49, [(⟨1, (⟨ofP, 0, []⟩ : Mf), 0⟩ : Sn)]⟩, ⟨none, 0, 0, []⟩⟩ : Tn)]).flatMap tnE) 53 38, .own ba44 1 bc45 (([(⟨ofP, ⟨hd da46, 3, dc47, [68, 49, 0]⟩⟩ : Bl)]).flatMap blE) 92 33, .own da46 3 dc47 (([68, 49, 0]).map V8) 5 1, .own sa48 1 sc49 (([(⟨1, (⟨ofP, 0, []⟩ : Mf), 0⟩ : Sn)]).flatMap snE) 95 36, .own a36 3 c37 ((LG38).flatMap entE) 60 38]) := H.call Hc
      clear Hc
      refine mV ?_; refine lV (r_ext rfl rfl) ?_; refine lV (r_ext rfl rfl) ?_; refine l_op (o_alloc H zc43 (fun b50 w H hb50 => ?_)); replace H : Hp _ w _ ([_, _, _, _, _, _, _, _, _, _, _, _, _, _, _, _, _, _, .blk b50 (ansE (⟨0, ⟨none, 0, 0, []⟩⟩ : Ans)) 43]) := H
      refine l_op (o_stW (C' := staE (⟨rootP, dl, (0 : UInt64), ⟨hd (some tb42), 1, tc43, [(⟨[97], (kT rootP), 1000, 2, ⟨hd ba44, 1, bc45, [⟨ofP, ⟨hd da46, 3, dc47, [68, 49, 0]⟩⟩]⟩, ⟨hd sa48, ([(⟨1, (⟨ofP, 0, []⟩ : Mf), 0⟩ : Sn)]).length, sc49, [(⟨1, (⟨ofP, 0, []⟩ : Mf), 0⟩ : Sn)]⟩, ⟨none, 0, 0, []⟩⟩ : Tn)]⟩, ⟨none, 0, 0, []⟩, ⟨hd a36, 3, c37, LG38⟩, h39⟩ : Sta)) H (i := 0) rfl rfl rfl cs30 (staE_all _) (staE_len _) (staE_len _) (fun w H => ?_)); replace H : Hp _ w _ ([.blk b5 (staE (⟨rootP, dl, (0 : UInt64), ⟨hd (some tb42), 1, tc43, [(⟨[97], (kT rootP), 1000, 2, ⟨hd ba44, 1, bc45, [⟨ofP, ⟨hd da46, 3, dc47, [68, 49, 0]⟩⟩]⟩, ⟨hd sa48, ([(⟨1, (⟨ofP, 0, []⟩ : Mf), 0⟩ : Sn)]).length, sc49, [(⟨1, (⟨ofP, 0, []⟩ : Mf), 0⟩ : Sn)]⟩, ⟨none, 0, 0, []⟩⟩ : Tn)]⟩, ⟨none, 0, 0, []⟩, ⟨hd a36, 3, c37, LG38⟩, h39⟩ : Sta)) 30, _, _, _, _, _, _, _, _, _, _, _, _, _, _, _, _, _, _]) := H
      refine l_op (o_stW (C' := ansE (⟨201, bd40⟩ : Ans)) H (i := 18) rfl rfl rfl cs43 (ansE_all _) (ansE_len _) (ansE_len _) (fun w H => ?_)); replace H : Hp _ w _ ([_, _, _, _, _, _, _, _, _, _, _, _, _, _, _, _, _, _, .blk b50 (ansE (⟨201, bd40⟩ : Ans)) 43]) := H
      refine eN ?_
      refine rG ?_; refine lV (r_ldA (C := staE (⟨rootP, dl, (0 : UInt64), ⟨hd (some tb42), 1, tc43, [(⟨[97], (kT rootP), 1000, 2, ⟨hd ba44, 1, bc45, [⟨ofP, ⟨hd da46, 3, dc47, [68, 49, 0]⟩⟩]⟩, ⟨hd sa48, ([(⟨1, (⟨ofP, 0, []⟩ : Mf), 0⟩ : Sn)]).length, sc49, [(⟨1, (⟨ofP, 0, []⟩ : Mf), 0⟩ : Sn)]⟩, ⟨none, 0, 0, []⟩⟩ : Tn)]⟩, ⟨none, 0, 0, []⟩, ⟨hd a36, 3, c37, LG38⟩, h39⟩ : Sta)) H (i := 0) rfl rfl rt30 (staE_len _)) ?_; refine mV ?_; refine mV ?_; refine lV (r_bldG (Z := oprE (⟨0, ([] : List UInt8), zId, 0, 0, (0 : UInt8), ⟨none, 0, 0, []⟩, ⟨none, 0, 0, []⟩, 0, zId⟩ : Opr)) (E := oprE (⟨7, ([97] : List UInt8), zId, 1, 0, (0 : UInt8), ⟨none, 0, 0, []⟩, ⟨hd a6, 60, c7, tokB (tagR rootP)⟩, now, zId⟩ : Opr)) (pv := [(0, VI 7), (1, .string ⟨(([97] : List UInt8)).toArray⟩), (3, VI 1), (8, VI now), (7, .slice (hd a6) 60 c7)]) bd47 rfl rfl (.consP rfl (oprE_p0 _ 7) rfl (.consP rfl (oprE_p1 _ ([97] : List UInt8)) rfl (.consP rfl (oprE_p3 _ 1) rfl (.consP rfl (oprE_p8 _ now) rfl (.consP rfl (oprE_p7 _ (⟨hd a6, 60, c7, tokB (tagR rootP)⟩)) rfl (.nil _))))))) ?_; refine l_op (o_callR Tryz.func9 rfl rfl rfl (stepDoom_ret _ tb42 tc43 bc45 dc47 sc49 ba44 da46 sa48 rootP dl h39 (kT rootP) ofP a36 c37 3 LG38 (by decide) (H.glOwn (i := 17) rfl (by decide) (fun c hc => hLG41 c hc)) (ownNone H (i := 17) rfl (by decide)) (H.glOwn (i := 13) rfl (by decide) (fun c _ => tnE_len c)) (H.glOwn (i := 14) rfl (by decide) (fun c _ => blE_len c)) (H.slOwn (i := 15) rfl) (H.glOwn (i := 16) rfl (by decide) (fun c _ => snE_len c)) _ (H.slOwn (i := 1) rfl) ⟨rfl, by show 60 ≤ 4096; decide⟩ ⟨none, 0, 0, []⟩ rfl now ⟨by omega, by omega⟩ ⟨by omega, by omega⟩ (ht.up0 H)) ?_); rintro _ w ⟨_, a51, c52, LG53, h54, bd55, ⟨tb57, tc58, ba59, bc60, da61, dc62, sa63, sc64, rfl⟩, hLG56, rfl, Hc⟩
      replace H : Hp _ w _ ([_, _, _, _, _, _, _, _, _, _, _, _, _, _, _, _, _, _, _, .own (some tb57) 1 tc58 (([(⟨[97], (kT rootP), 1000, 2, ⟨hd ba59, 1, bc60, [⟨ofP, ⟨hd da61, 3, dc62, [68, 49, 0]⟩⟩]⟩, ⟨hd sa63, ([(⟨1, (⟨ofP, 0, []⟩ : Mf), timeF dl now⟩ : Sn)]).length, sc64, [(⟨1, (⟨ofP, 0, []⟩ : Mf), timeF dl now⟩ : Sn)]⟩, ⟨none, 0, 0, []⟩⟩ : Tn)]).flatMap tnE) 53 38, .own ba59 1 bc60 (([(⟨ofP, ⟨hd da61, 3, dc62, [68, 49, 0]⟩⟩ : Bl)]).flatMap blE) 92 33, .own da61 3 dc62 (([68, 49, 0]).map V8) 5 1, .own sa63 1 sc64 (([(⟨1, (⟨ofP, 0, []⟩ : Mf), timeF dl now⟩ : Sn)]).flatMap snE) 95 36, .own a51 4 c52 ((LG53).flatMap entE) 60 38]) := H.call Hc
      clear Hc
      refine mV ?_; refine lV (r_ext rfl rfl) ?_; refine lV (r_ext rfl rfl) ?_; refine l_op (o_alloc H zc43 (fun b65 w H hb65 => ?_)); replace H : Hp _ w _ ([_, _, _, _, _, _, _, _, _, _, _, _, _, _, _, _, _, _, _, _, _, _, _, _, .blk b65 (ansE (⟨0, ⟨none, 0, 0, []⟩⟩ : Ans)) 43]) := H
      refine l_op (o_stW (C' := staE (⟨rootP, dl, (0 : UInt64), ⟨hd (some tb57), 1, tc58, [(⟨[97], (kT rootP), 1000, 2, ⟨hd ba59, 1, bc60, [⟨ofP, ⟨hd da61, 3, dc62, [68, 49, 0]⟩⟩]⟩, ⟨hd sa63, ([(⟨1, (⟨ofP, 0, []⟩ : Mf), timeF dl now⟩ : Sn)]).length, sc64, [(⟨1, (⟨ofP, 0, []⟩ : Mf), timeF dl now⟩ : Sn)]⟩, ⟨none, 0, 0, []⟩⟩ : Tn)]⟩, ⟨none, 0, 0, []⟩, ⟨hd a51, 4, c52, LG53⟩, h54⟩ : Sta)) H (i := 0) rfl rfl rfl cs30 (staE_all _) (staE_len _) (staE_len _) (fun w H => ?_)); replace H : Hp _ w _ ([.blk b5 (staE (⟨rootP, dl, (0 : UInt64), ⟨hd (some tb57), 1, tc58, [(⟨[97], (kT rootP), 1000, 2, ⟨hd ba59, 1, bc60, [⟨ofP, ⟨hd da61, 3, dc62, [68, 49, 0]⟩⟩]⟩, ⟨hd sa63, ([(⟨1, (⟨ofP, 0, []⟩ : Mf), timeF dl now⟩ : Sn)]).length, sc64, [(⟨1, (⟨ofP, 0, []⟩ : Mf), timeF dl now⟩ : Sn)]⟩, ⟨none, 0, 0, []⟩⟩ : Tn)]⟩, ⟨none, 0, 0, []⟩, ⟨hd a51, 4, c52, LG53⟩, h54⟩ : Sta)) 30, _, _, _, _, _, _, _, _, _, _, _, _, _, _, _, _, _, _, _, _, _, _, _, _]) := H
      refine l_op (o_stW (C' := ansE (⟨200, bd55⟩ : Ans)) H (i := 24) rfl rfl rfl cs43 (ansE_all _) (ansE_len _) (ansE_len _) (fun w H => ?_)); replace H : Hp _ w _ ([_, _, _, _, _, _, _, _, _, _, _, _, _, _, _, _, _, _, _, _, _, _, _, _, .blk b65 (ansE (⟨200, bd55⟩ : Ans)) 43]) := H
      refine eN ?_
      refine rG ?_; refine mV ?_; refine eN ?_
      have hc660 := Bool.eq_false_or_eq_true (spared)
      rcases hc660 with hc66 | hc66
      ·
       repeat refine c_seq ?_
       refine c_yes (by exact congrArg Value.bool hc66) ?_; refine rG ?_; refine lV (r_ldA (C := staE (⟨rootP, dl, (0 : UInt64), ⟨hd (some tb57), 1, tc58, [(⟨[97], (kT rootP), 1000, 2, ⟨hd ba59, 1, bc60, [⟨ofP, ⟨hd da61, 3, dc62, [68, 49, 0]⟩⟩]⟩, ⟨hd sa63, ([(⟨1, (⟨ofP, 0, []⟩ : Mf), timeF dl now⟩ : Sn)]).length, sc64, [(⟨1, (⟨ofP, 0, []⟩ : Mf), timeF dl now⟩ : Sn)]⟩, ⟨none, 0, 0, []⟩⟩ : Tn)]⟩, ⟨none, 0, 0, []⟩, ⟨hd a51, 4, c52, LG53⟩, h54⟩ : Sta)) H (i := 0) rfl rfl rt30 (staE_len _)) ?_; refine mV ?_; refine mV ?_; refine lV (r_bldG (Z := oprE (⟨0, ([] : List UInt8), zId, 0, 0, (0 : UInt8), ⟨none, 0, 0, []⟩, ⟨none, 0, 0, []⟩, 0, zId⟩ : Opr)) (E := oprE (⟨8, ([97] : List UInt8), zId, 1, 0, (0 : UInt8), ⟨none, 0, 0, []⟩, ⟨hd a6, 60, c7, tokB (tagR rootP)⟩, now, zId⟩ : Opr)) (pv := [(0, VI 8), (1, .string ⟨(([97] : List UInt8)).toArray⟩), (3, VI 1), (8, VI now), (7, .slice (hd a6) 60 c7)]) bd47 rfl rfl (.consP rfl (oprE_p0 _ 8) rfl (.consP rfl (oprE_p1 _ ([97] : List UInt8)) rfl (.consP rfl (oprE_p3 _ 1) rfl (.consP rfl (oprE_p8 _ now) rfl (.consP rfl (oprE_p7 _ (⟨hd a6, 60, c7, tokB (tagR rootP)⟩)) rfl (.nil _))))))) ?_; refine l_op (o_callR Tryz.func9 rfl rfl rfl (stepSpare_ret _ tb57 tc58 bc60 dc62 sc64 ba59 da61 sa63 rootP dl h54 (kT rootP) ofP a51 c52 4 LG53 (by decide) (H.glOwn (i := 23) rfl (by decide) (fun c hc => hLG56 c hc)) (ownNone H (i := 23) rfl (by decide)) (timeF dl now) (H.glOwn (i := 19) rfl (by decide) (fun c _ => tnE_len c)) (H.glOwn (i := 20) rfl (by decide) (fun c _ => blE_len c)) (H.slOwn (i := 21) rfl) (H.glOwn (i := 22) rfl (by decide) (fun c _ => snE_len c)) _ (H.slOwn (i := 1) rfl) ⟨rfl, by show 60 ≤ 4096; decide⟩ ⟨none, 0, 0, []⟩ rfl now ⟨by omega, by omega⟩) ?_); rintro _ w ⟨_, a67, c68, LG69, h70, bd71, ⟨tb73, tc74, ba75, bc76, da77, dc78, sa79, sc80, rfl⟩, hLG72, rfl, Hc⟩
       replace H : Hp _ w _ ([_, _, _, _, _, _, _, _, _, _, _, _, _, _, _, _, _, _, _, _, _, _, _, _, _, .own (some tb73) 1 tc74 (([(⟨[97], (kT rootP), 1000, 2, ⟨hd ba75, 1, bc76, [⟨ofP, ⟨hd da77, 3, dc78, [68, 49, 0]⟩⟩]⟩, ⟨hd sa79, ([(⟨1, (⟨ofP, 0, []⟩ : Mf), 0⟩ : Sn)]).length, sc80, [(⟨1, (⟨ofP, 0, []⟩ : Mf), 0⟩ : Sn)]⟩, ⟨none, 0, 0, []⟩⟩ : Tn)]).flatMap tnE) 53 38, .own ba75 1 bc76 (([(⟨ofP, ⟨hd da77, 3, dc78, [68, 49, 0]⟩⟩ : Bl)]).flatMap blE) 92 33, .own da77 3 dc78 (([68, 49, 0]).map V8) 5 1, .own sa79 1 sc80 (([(⟨1, (⟨ofP, 0, []⟩ : Mf), 0⟩ : Sn)]).flatMap snE) 95 36, .own a67 5 c68 ((LG69).flatMap entE) 60 38]) := H.call Hc
       clear Hc
       refine mV ?_; refine lV (r_ext rfl rfl) ?_; refine lV (r_ext rfl rfl) ?_; refine l_op (o_stW (C' := staE (⟨rootP, dl, (0 : UInt64), ⟨hd (some tb73), 1, tc74, [(⟨[97], (kT rootP), 1000, 2, ⟨hd ba75, 1, bc76, [⟨ofP, ⟨hd da77, 3, dc78, [68, 49, 0]⟩⟩]⟩, ⟨hd sa79, ([(⟨1, (⟨ofP, 0, []⟩ : Mf), 0⟩ : Sn)]).length, sc80, [(⟨1, (⟨ofP, 0, []⟩ : Mf), 0⟩ : Sn)]⟩, ⟨none, 0, 0, []⟩⟩ : Tn)]⟩, ⟨none, 0, 0, []⟩, ⟨hd a67, 5, c68, LG69⟩, h70⟩ : Sta)) H (i := 0) rfl rfl rfl cs30 (staE_all _) (staE_len _) (staE_len _) (fun w H => ?_)); replace H : Hp _ w _ ([.blk b5 (staE (⟨rootP, dl, (0 : UInt64), ⟨hd (some tb73), 1, tc74, [(⟨[97], (kT rootP), 1000, 2, ⟨hd ba75, 1, bc76, [⟨ofP, ⟨hd da77, 3, dc78, [68, 49, 0]⟩⟩]⟩, ⟨hd sa79, ([(⟨1, (⟨ofP, 0, []⟩ : Mf), 0⟩ : Sn)]).length, sc80, [(⟨1, (⟨ofP, 0, []⟩ : Mf), 0⟩ : Sn)]⟩, ⟨none, 0, 0, []⟩⟩ : Tn)]⟩, ⟨none, 0, 0, []⟩, ⟨hd a67, 5, c68, LG69⟩, h70⟩ : Sta)) 30, _, _, _, _, _, _, _, _, _, _, _, _, _, _, _, _, _, _, _, _, _, _, _, _, _, _, _, _, _]) := H
       refine eN ?_
       refine rG ?_; refine lV (r_ldA (C := staE (⟨rootP, dl, (0 : UInt64), ⟨hd (some tb73), 1, tc74, [(⟨[97], (kT rootP), 1000, 2, ⟨hd ba75, 1, bc76, [⟨ofP, ⟨hd da77, 3, dc78, [68, 49, 0]⟩⟩]⟩, ⟨hd sa79, ([(⟨1, (⟨ofP, 0, []⟩ : Mf), 0⟩ : Sn)]).length, sc80, [(⟨1, (⟨ofP, 0, []⟩ : Mf), 0⟩ : Sn)]⟩, ⟨none, 0, 0, []⟩⟩ : Tn)]⟩, ⟨none, 0, 0, []⟩, ⟨hd a67, 5, c68, LG69⟩, h70⟩ : Sta)) H (i := 0) rfl rfl rt30 (staE_len _)) ?_; refine mV ?_; refine mV ?_; refine lV (r_bldG (Z := oprE (⟨0, ([] : List UInt8), zId, 0, 0, (0 : UInt8), ⟨none, 0, 0, []⟩, ⟨none, 0, 0, []⟩, 0, zId⟩ : Opr)) (E := oprE (⟨15, ([97] : List UInt8), zId, 0, 0, (0 : UInt8), ⟨none, 0, 0, []⟩, ⟨hd a6, 60, c7, tokB (tagR rootP)⟩, later, zId⟩ : Opr)) (pv := [(0, VI 15), (1, .string ⟨(([97] : List UInt8)).toArray⟩), (8, VI later), (7, .slice (hd a6) 60 c7)]) bd47 rfl rfl (.consP rfl (oprE_p0 _ 15) rfl (.consP rfl (oprE_p1 _ ([97] : List UInt8)) rfl (.consP rfl (oprE_p8 _ later) rfl (.consP rfl (oprE_p7 _ (⟨hd a6, 60, c7, tokB (tagR rootP)⟩)) rfl (.nil _)))))) ?_; refine l_op (o_callR Tryz.func9 rfl rfl rfl (stepSweep_ret _ tb73 tc74 bc76 dc78 sc80 ba75 da77 sa79 rootP dl h70 (kT rootP) ofP a67 c68 5 LG69 (by decide) (H.glOwn (i := 29) rfl (by decide) (fun c hc => hLG72 c hc)) (ownNone H (i := 29) rfl (by decide)) (0) (H.glOwn (i := 25) rfl (by decide) (fun c _ => tnE_len c)) (H.glOwn (i := 26) rfl (by decide) (fun c _ => blE_len c)) (H.slOwn (i := 27) rfl) (H.glOwn (i := 28) rfl (by decide) (fun c _ => snE_len c)) _ (H.slOwn (i := 1) rfl) ⟨rfl, by show 60 ≤ 4096; decide⟩ ⟨none, 0, 0, []⟩ rfl later ⟨by omega, by omega⟩) ?_); rintro _ w ⟨y87, a81, c82, LG83, h84, bd85, hP88, hLG86, rfl, Hc⟩
       replace H : Hp _ w _ ([_, _, _, _, _, _, _, _, _, _, _, _, _, _, _, _, _, _, _, _, _, _, _, _, _, _, _, _, _, _, .own (some y87.tb) 1 y87.tc (([y87.T]).flatMap tnE) 53 38, .own y87.ba y87.bn y87.bc ((y87.bl).flatMap blE) 92 33, .own y87.da y87.dn y87.dc ((y87.dl).map V8) 5 1, .own y87.sa y87.sn y87.sc ((y87.sl).flatMap snE) 95 36, .own a81 6 c82 ((LG83).flatMap entE) 60 38]) := H.call Hc
       clear Hc
       refine mV ?_; refine lV (r_ext rfl rfl) ?_; refine lV (r_ext rfl rfl) ?_; refine l_op (o_alloc H zc43 (fun b89 w H hb89 => ?_)); replace H : Hp _ w _ ([_, _, _, _, _, _, _, _, _, _, _, _, _, _, _, _, _, _, _, _, _, _, _, _, _, _, _, _, _, _, _, _, _, _, _, .blk b89 (ansE (⟨0, ⟨none, 0, 0, []⟩⟩ : Ans)) 43]) := H
       refine l_op (o_stW (C' := staE (⟨rootP, dl, (0 : UInt64), ⟨hd (some y87.tb), 1, y87.tc, [y87.T]⟩, ⟨none, 0, 0, []⟩, ⟨hd a81, 6, c82, LG83⟩, h84⟩ : Sta)) H (i := 0) rfl rfl rfl cs30 (staE_all _) (staE_len _) (staE_len _) (fun w H => ?_)); replace H : Hp _ w _ ([.blk b5 (staE (⟨rootP, dl, (0 : UInt64), ⟨hd (some y87.tb), 1, y87.tc, [y87.T]⟩, ⟨none, 0, 0, []⟩, ⟨hd a81, 6, c82, LG83⟩, h84⟩ : Sta)) 30, _, _, _, _, _, _, _, _, _, _, _, _, _, _, _, _, _, _, _, _, _, _, _, _, _, _, _, _, _, _, _, _, _, _, _]) := H
       refine l_op (o_stW (C' := ansE (⟨200, bd85⟩ : Ans)) H (i := 35) rfl rfl rfl cs43 (ansE_all _) (ansE_len _) (ansE_len _) (fun w H => ?_)); replace H : Hp _ w _ ([_, _, _, _, _, _, _, _, _, _, _, _, _, _, _, _, _, _, _, _, _, _, _, _, _, _, _, _, _, _, _, _, _, _, _, .blk b89 (ansE (⟨200, bd85⟩ : Ans)) 43]) := H
       refine eN ?_
       refine rG ?_; refine aZ ?_; refine eN ?_
       refine rG ?_; refine mV ?_; refine mV ?_; refine lV (r_bin (a := 9223372036854775807) (b := now) rfl rfl (fun _ => b_sub oM oM)) ?_; refine lV (r_bin (a := dl) (b := 9223372036854775807 - now) rfl rfl (fun _ => b_leq)) ?_; refine eN ?_
       by_cases hc90 : dl ≤ 9223372036854775807 - now
       ·
        repeat refine c_seq ?_
        refine c_yes (by exact bT hc90) ?_; refine rG ?_; refine mV ?_; refine mV ?_; refine lV (r_bin (a := now) (b := dl) rfl rfl (fun _ => b_add oM oM)) ?_; refine lV (r_max rfl rfl) ?_; refine aZ ?_; refine eN ?_
        repeat refine c_seq ?_
        refine heldH H mixed fun H => ?_
        have HS := H
        refine tK 0 rfl (fun w HS => r_fa rfl fo43_0) HS ?_; refine tK 1 rfl (fun w HS => r_l1 (v := VI 201) HS (i := 11) rfl rfl ct3 (ansE_c0 _)) HS ?_; refine tK 2 rfl (fun w HS => r_bin (a := 201) (b := 201) rfl rfl (fun _ => b_eqlB true (decide_eq_true (by decide)))) HS ?_; refine tK 3 rfl (fun w HS => r_mv) HS ?_; refine tG 4 rfl (yK rfl rfl rfl) (fun w HS => r_fa rfl fo43_0) HS ?_; refine tG 5 rfl (yK rfl rfl rfl) (fun w HS => r_l1 (v := VI 201) HS (i := 18) rfl rfl ct3 (ansE_c0 _)) HS ?_; refine tG 6 rfl (yK rfl rfl rfl) (fun w HS => r_bin (a := 201) (b := 201) rfl rfl (fun _ => b_eqlB true (decide_eq_true (by decide)))) HS ?_; refine tK 7 rfl (fun w HS => r_pick rfl) HS ?_; refine tK 8 rfl (fun w HS => r_mv) HS ?_; refine tG 9 rfl (yK rfl rfl rfl) (fun w HS => r_fa rfl fo43_0) HS ?_; refine tG 10 rfl (yK rfl rfl rfl) (fun w HS => r_l1 (v := VI 200) HS (i := 24) rfl rfl ct3 (ansE_c0 _)) HS ?_; refine tG 11 rfl (yK rfl rfl rfl) (fun w HS => r_bin (a := 200) (b := 200) rfl rfl (fun _ => b_eqlB true (decide_eq_true (by decide)))) HS ?_; refine tK 12 rfl (fun w HS => r_pick rfl) HS ?_; refine tK 13 rfl (fun w HS => r_mv) HS ?_; refine tG 14 rfl (yK rfl rfl rfl) (fun w HS => r_fa rfl fo43_0) HS ?_; refine tG 15 rfl (yK rfl rfl rfl) (fun w HS => r_l1 (v := VI 200) HS (i := 35) rfl rfl ct3 (ansE_c0 _)) HS ?_; refine tG 16 rfl (yK rfl rfl rfl) (fun w HS => r_bin (a := 200) (b := 200) rfl rfl (fun _ => b_eqlB true (decide_eq_true (by decide)))) HS ?_; refine tK 17 rfl (fun w HS => r_pick rfl) HS ?_; refine tK 18 rfl (fun w HS => r_mv) HS ?_; refine tG 19 rfl (yK rfl rfl rfl) (fun w HS => r_fa rfl fo30_3) HS ?_; refine tG 20 rfl (yK rfl rfl rfl) (fun w HS => r_l1 (v := .slice (hd (some y87.tb)) 1 y87.tc) HS (i := 0) rfl rfl ct26 (staE_c3 _)) HS ?_; have ah92 := HS.ownAddr (i := 30) rfl oM
        obtain ⟨ab91, ah92⟩ := ah92
        refine tG 21 rfl (yK rfl rfl rfl) (fun w HS => r_isN 0 rfl rfl el26 ah92 oM (by (try simp only [Sl.cut]); omega)) HS ?_; refine tG 22 rfl (yK rfl rfl rfl) (fun w HS => r_fa rfl fo53_5) HS ?_; refine tG 23 rfl (yK rfl rfl rfl) (fun w HS => r_g1 (v := y87.T.snaps.v) (s := (⟨hd (some y87.tb), 1, y87.tc, [y87.T]⟩ : Gl Tn)) (j := 0) (HS.glOwn (i := 30) rfl (by decide) (fun c _ => tnE_len c)) ah92 rfl ct50 rfl (by decide) (tnE_c5 _)) HS ?_; refine tG 24 rfl (yK rfl rfl rfl) (fun w HS => r_lens el50 rfl) HS ?_; refine tG 25 rfl (yK rfl rfl rfl) (fun w HS => r_mv) HS ?_; refine tG 26 rfl (yK rfl rfl rfl) (fun w HS => r_mv) HS ?_; refine tN 27 rfl (yK rfl rfl (by exact congrArg Value.bool hc66)) rfl HS ?_; refine tN 28 rfl (yK rfl rfl (by exact congrArg Value.bool hc66)) rfl HS ?_; refine tN 29 rfl (yK rfl rfl (by exact congrArg Value.bool hc66)) rfl HS ?_; refine tG 30 rfl (yK rfl rfl rfl) (fun w HS => r_pick (b := true) (congrArg Value.bool hc66)) HS ?_; refine t_stepg 31 rfl (by kernel_rfl) (yK rfl rfl rfl) (o_callR Tryz.func12 rfl rfl rfl (func2_ret _ true) ?_); rintro _ w ⟨rfl, Hc⟩
        replace H : Hp _ w _ ([_, _, _, _, _, _, _, _, _, _, _, _, _, _, _, _, _, _, _, _, _, _, _, _, _, _, _, _, _, _, _, _, _, _, _, _]) := H.call Hc
        clear Hc
        replace HS := H
        refine ⟨HS, ?_⟩
        refine tG 32 rfl (yK rfl rfl rfl) (fun w HS => r_bin (a := (y87.T.snaps.len : Int)) (b := 1) rfl rfl (fun _ => b_eql)) HS ?_; refine tK 33 rfl (fun w HS => r_pick rfl) HS ?_; refine tK 34 rfl (fun w HS => r_as) HS ?_; refine t_done (by kernel_rfl) ?_
        clear HS
        refine cR ?_
        refine e_ret1 (v := .bool (decide ((y87.T.snaps.len : Int) = 1))) Tryz.results3 rfl ?_
        refine ⟨_, rfl, ?_⟩
        refine ⟨congrArg Value.bool (decide_eq_true ?_), H.sub (List.nil_sublist _)⟩
        rw [hP88, kF, if_neg oM]; rfl
       ·
        repeat refine c_seq ?_
        refine c_no (by exact bF hc90) ?_; refine c_skip ?_; repeat refine c_seq ?_
        refine heldH H mixed fun H => ?_
        have HS := H
        refine tK 0 rfl (fun w HS => r_fa rfl fo43_0) HS ?_; refine tK 1 rfl (fun w HS => r_l1 (v := VI 201) HS (i := 11) rfl rfl ct3 (ansE_c0 _)) HS ?_; refine tK 2 rfl (fun w HS => r_bin (a := 201) (b := 201) rfl rfl (fun _ => b_eqlB true (decide_eq_true (by decide)))) HS ?_; refine tK 3 rfl (fun w HS => r_mv) HS ?_; refine tG 4 rfl (yK rfl rfl rfl) (fun w HS => r_fa rfl fo43_0) HS ?_; refine tG 5 rfl (yK rfl rfl rfl) (fun w HS => r_l1 (v := VI 201) HS (i := 18) rfl rfl ct3 (ansE_c0 _)) HS ?_; refine tG 6 rfl (yK rfl rfl rfl) (fun w HS => r_bin (a := 201) (b := 201) rfl rfl (fun _ => b_eqlB true (decide_eq_true (by decide)))) HS ?_; refine tK 7 rfl (fun w HS => r_pick rfl) HS ?_; refine tK 8 rfl (fun w HS => r_mv) HS ?_; refine tG 9 rfl (yK rfl rfl rfl) (fun w HS => r_fa rfl fo43_0) HS ?_; refine tG 10 rfl (yK rfl rfl rfl) (fun w HS => r_l1 (v := VI 200) HS (i := 24) rfl rfl ct3 (ansE_c0 _)) HS ?_; refine tG 11 rfl (yK rfl rfl rfl) (fun w HS => r_bin (a := 200) (b := 200) rfl rfl (fun _ => b_eqlB true (decide_eq_true (by decide)))) HS ?_; refine tK 12 rfl (fun w HS => r_pick rfl) HS ?_; refine tK 13 rfl (fun w HS => r_mv) HS ?_; refine tG 14 rfl (yK rfl rfl rfl) (fun w HS => r_fa rfl fo43_0) HS ?_; refine tG 15 rfl (yK rfl rfl rfl) (fun w HS => r_l1 (v := VI 200) HS (i := 35) rfl rfl ct3 (ansE_c0 _)) HS ?_; refine tG 16 rfl (yK rfl rfl rfl) (fun w HS => r_bin (a := 200) (b := 200) rfl rfl (fun _ => b_eqlB true (decide_eq_true (by decide)))) HS ?_; refine tK 17 rfl (fun w HS => r_pick rfl) HS ?_; refine tK 18 rfl (fun w HS => r_mv) HS ?_; refine tG 19 rfl (yK rfl rfl rfl) (fun w HS => r_fa rfl fo30_3) HS ?_; refine tG 20 rfl (yK rfl rfl rfl) (fun w HS => r_l1 (v := .slice (hd (some y87.tb)) 1 y87.tc) HS (i := 0) rfl rfl ct26 (staE_c3 _)) HS ?_; have ah97 := HS.ownAddr (i := 30) rfl oM
        obtain ⟨ab96, ah97⟩ := ah97
        refine tG 21 rfl (yK rfl rfl rfl) (fun w HS => r_isN 0 rfl rfl el26 ah97 oM (by (try simp only [Sl.cut]); omega)) HS ?_; refine tG 22 rfl (yK rfl rfl rfl) (fun w HS => r_fa rfl fo53_5) HS ?_; refine tG 23 rfl (yK rfl rfl rfl) (fun w HS => r_g1 (v := y87.T.snaps.v) (s := (⟨hd (some y87.tb), 1, y87.tc, [y87.T]⟩ : Gl Tn)) (j := 0) (HS.glOwn (i := 30) rfl (by decide) (fun c _ => tnE_len c)) ah97 rfl ct50 rfl (by decide) (tnE_c5 _)) HS ?_; refine tG 24 rfl (yK rfl rfl rfl) (fun w HS => r_lens el50 rfl) HS ?_; refine tG 25 rfl (yK rfl rfl rfl) (fun w HS => r_mv) HS ?_; refine tG 26 rfl (yK rfl rfl rfl) (fun w HS => r_mv) HS ?_; refine tN 27 rfl (yK rfl rfl (by exact congrArg Value.bool hc66)) rfl HS ?_; refine tN 28 rfl (yK rfl rfl (by exact congrArg Value.bool hc66)) rfl HS ?_; refine tN 29 rfl (yK rfl rfl (by exact congrArg Value.bool hc66)) rfl HS ?_; refine tG 30 rfl (yK rfl rfl rfl) (fun w HS => r_pick (b := true) (congrArg Value.bool hc66)) HS ?_; refine t_stepg 31 rfl (by kernel_rfl) (yK rfl rfl rfl) (o_callR Tryz.func12 rfl rfl rfl (func2_ret _ true) ?_); rintro _ w ⟨rfl, Hc⟩
        replace H : Hp _ w _ ([_, _, _, _, _, _, _, _, _, _, _, _, _, _, _, _, _, _, _, _, _, _, _, _, _, _, _, _, _, _, _, _, _, _, _, _]) := H.call Hc
        clear Hc
        replace HS := H
        refine ⟨HS, ?_⟩
        refine tG 32 rfl (yK rfl rfl rfl) (fun w HS => r_bin (a := (y87.T.snaps.len : Int)) (b := 1) rfl rfl (fun _ => b_eql)) HS ?_; refine tK 33 rfl (fun w HS => r_pick rfl) HS ?_; refine tK 34 rfl (fun w HS => r_as) HS ?_; refine t_done (by kernel_rfl) ?_
        clear HS
        refine cR ?_
        refine e_ret1 (v := .bool (decide ((y87.T.snaps.len : Int) = 1))) Tryz.results3 rfl ?_
        refine ⟨_, rfl, ?_⟩
        refine ⟨congrArg Value.bool (decide_eq_true ?_), H.sub (List.nil_sublist _)⟩
        rw [hP88, kF, if_neg oM]; rfl
      ·
       repeat refine c_seq ?_
       refine c_no (by exact congrArg Value.bool hc66) ?_; refine c_skip ?_; refine rG ?_; refine lV (r_ldA (C := staE (⟨rootP, dl, (0 : UInt64), ⟨hd (some tb57), 1, tc58, [(⟨[97], (kT rootP), 1000, 2, ⟨hd ba59, 1, bc60, [⟨ofP, ⟨hd da61, 3, dc62, [68, 49, 0]⟩⟩]⟩, ⟨hd sa63, ([(⟨1, (⟨ofP, 0, []⟩ : Mf), timeF dl now⟩ : Sn)]).length, sc64, [(⟨1, (⟨ofP, 0, []⟩ : Mf), timeF dl now⟩ : Sn)]⟩, ⟨none, 0, 0, []⟩⟩ : Tn)]⟩, ⟨none, 0, 0, []⟩, ⟨hd a51, 4, c52, LG53⟩, h54⟩ : Sta)) H (i := 0) rfl rfl rt30 (staE_len _)) ?_; refine mV ?_; refine mV ?_; refine lV (r_bldG (Z := oprE (⟨0, ([] : List UInt8), zId, 0, 0, (0 : UInt8), ⟨none, 0, 0, []⟩, ⟨none, 0, 0, []⟩, 0, zId⟩ : Opr)) (E := oprE (⟨15, ([97] : List UInt8), zId, 0, 0, (0 : UInt8), ⟨none, 0, 0, []⟩, ⟨hd a6, 60, c7, tokB (tagR rootP)⟩, later, zId⟩ : Opr)) (pv := [(0, VI 15), (1, .string ⟨(([97] : List UInt8)).toArray⟩), (8, VI later), (7, .slice (hd a6) 60 c7)]) bd47 rfl rfl (.consP rfl (oprE_p0 _ 15) rfl (.consP rfl (oprE_p1 _ ([97] : List UInt8)) rfl (.consP rfl (oprE_p8 _ later) rfl (.consP rfl (oprE_p7 _ (⟨hd a6, 60, c7, tokB (tagR rootP)⟩)) rfl (.nil _)))))) ?_; refine l_op (o_callR Tryz.func9 rfl rfl rfl (stepSweep_ret _ tb57 tc58 bc60 dc62 sc64 ba59 da61 sa63 rootP dl h54 (kT rootP) ofP a51 c52 4 LG53 (by decide) (H.glOwn (i := 23) rfl (by decide) (fun c hc => hLG56 c hc)) (ownNone H (i := 23) rfl (by decide)) (timeF dl now) (H.glOwn (i := 19) rfl (by decide) (fun c _ => tnE_len c)) (H.glOwn (i := 20) rfl (by decide) (fun c _ => blE_len c)) (H.slOwn (i := 21) rfl) (H.glOwn (i := 22) rfl (by decide) (fun c _ => snE_len c)) _ (H.slOwn (i := 1) rfl) ⟨rfl, by show 60 ≤ 4096; decide⟩ ⟨none, 0, 0, []⟩ rfl later ⟨by omega, by omega⟩) ?_); rintro _ w ⟨y107, a101, c102, LG103, h104, bd105, hP108, hLG106, rfl, Hc⟩
       replace H : Hp _ w _ ([_, _, _, _, _, _, _, _, _, _, _, _, _, _, _, _, _, _, _, _, _, _, _, _, _, .own (some y107.tb) 1 y107.tc (([y107.T]).flatMap tnE) 53 38, .own y107.ba y107.bn y107.bc ((y107.bl).flatMap blE) 92 33, .own y107.da y107.dn y107.dc ((y107.dl).map V8) 5 1, .own y107.sa y107.sn y107.sc ((y107.sl).flatMap snE) 95 36, .own a101 5 c102 ((LG103).flatMap entE) 60 38]) := H.call Hc
       clear Hc
       refine mV ?_; refine lV (r_ext rfl rfl) ?_; refine lV (r_ext rfl rfl) ?_; refine l_op (o_alloc H zc43 (fun b109 w H hb109 => ?_)); replace H : Hp _ w _ ([_, _, _, _, _, _, _, _, _, _, _, _, _, _, _, _, _, _, _, _, _, _, _, _, _, _, _, _, _, _, .blk b109 (ansE (⟨0, ⟨none, 0, 0, []⟩⟩ : Ans)) 43]) := H
       refine l_op (o_stW (C' := staE (⟨rootP, dl, (0 : UInt64), ⟨hd (some y107.tb), 1, y107.tc, [y107.T]⟩, ⟨none, 0, 0, []⟩, ⟨hd a101, 5, c102, LG103⟩, h104⟩ : Sta)) H (i := 0) rfl rfl rfl cs30 (staE_all _) (staE_len _) (staE_len _) (fun w H => ?_)); replace H : Hp _ w _ ([.blk b5 (staE (⟨rootP, dl, (0 : UInt64), ⟨hd (some y107.tb), 1, y107.tc, [y107.T]⟩, ⟨none, 0, 0, []⟩, ⟨hd a101, 5, c102, LG103⟩, h104⟩ : Sta)) 30, _, _, _, _, _, _, _, _, _, _, _, _, _, _, _, _, _, _, _, _, _, _, _, _, _, _, _, _, _, _]) := H
       refine l_op (o_stW (C' := ansE (⟨200, bd105⟩ : Ans)) H (i := 30) rfl rfl rfl cs43 (ansE_all _) (ansE_len _) (ansE_len _) (fun w H => ?_)); replace H : Hp _ w _ ([_, _, _, _, _, _, _, _, _, _, _, _, _, _, _, _, _, _, _, _, _, _, _, _, _, _, _, _, _, _, .blk b109 (ansE (⟨200, bd105⟩ : Ans)) 43]) := H
       refine eN ?_
       refine rG ?_; refine aZ ?_; refine eN ?_
       refine rG ?_; refine mV ?_; refine mV ?_; refine lV (r_bin (a := 9223372036854775807) (b := now) rfl rfl (fun _ => b_sub oM oM)) ?_; refine lV (r_bin (a := dl) (b := 9223372036854775807 - now) rfl rfl (fun _ => b_leq)) ?_; refine eN ?_
       by_cases hc110 : dl ≤ 9223372036854775807 - now
       ·
        repeat refine c_seq ?_
        refine c_yes (by exact bT hc110) ?_; refine rG ?_; refine mV ?_; refine mV ?_; refine lV (r_bin (a := now) (b := dl) rfl rfl (fun _ => b_add oM oM)) ?_; refine lV (r_max rfl rfl) ?_; refine aZ ?_; refine eN ?_
        repeat refine c_seq ?_
        refine heldH H mixed fun H => ?_
        have HS := H
        refine tK 0 rfl (fun w HS => r_fa rfl fo43_0) HS ?_; refine tK 1 rfl (fun w HS => r_l1 (v := VI 201) HS (i := 11) rfl rfl ct3 (ansE_c0 _)) HS ?_; refine tK 2 rfl (fun w HS => r_bin (a := 201) (b := 201) rfl rfl (fun _ => b_eqlB true (decide_eq_true (by decide)))) HS ?_; refine tK 3 rfl (fun w HS => r_mv) HS ?_; refine tG 4 rfl (yK rfl rfl rfl) (fun w HS => r_fa rfl fo43_0) HS ?_; refine tG 5 rfl (yK rfl rfl rfl) (fun w HS => r_l1 (v := VI 201) HS (i := 18) rfl rfl ct3 (ansE_c0 _)) HS ?_; refine tG 6 rfl (yK rfl rfl rfl) (fun w HS => r_bin (a := 201) (b := 201) rfl rfl (fun _ => b_eqlB true (decide_eq_true (by decide)))) HS ?_; refine tK 7 rfl (fun w HS => r_pick rfl) HS ?_; refine tK 8 rfl (fun w HS => r_mv) HS ?_; refine tG 9 rfl (yK rfl rfl rfl) (fun w HS => r_fa rfl fo43_0) HS ?_; refine tG 10 rfl (yK rfl rfl rfl) (fun w HS => r_l1 (v := VI 200) HS (i := 24) rfl rfl ct3 (ansE_c0 _)) HS ?_; refine tG 11 rfl (yK rfl rfl rfl) (fun w HS => r_bin (a := 200) (b := 200) rfl rfl (fun _ => b_eqlB true (decide_eq_true (by decide)))) HS ?_; refine tK 12 rfl (fun w HS => r_pick rfl) HS ?_; refine tK 13 rfl (fun w HS => r_mv) HS ?_; refine tG 14 rfl (yK rfl rfl rfl) (fun w HS => r_fa rfl fo43_0) HS ?_; refine tG 15 rfl (yK rfl rfl rfl) (fun w HS => r_l1 (v := VI 200) HS (i := 30) rfl rfl ct3 (ansE_c0 _)) HS ?_; refine tG 16 rfl (yK rfl rfl rfl) (fun w HS => r_bin (a := 200) (b := 200) rfl rfl (fun _ => b_eqlB true (decide_eq_true (by decide)))) HS ?_; refine tK 17 rfl (fun w HS => r_pick rfl) HS ?_; refine tK 18 rfl (fun w HS => r_mv) HS ?_; refine tG 19 rfl (yK rfl rfl rfl) (fun w HS => r_fa rfl fo30_3) HS ?_; refine tG 20 rfl (yK rfl rfl rfl) (fun w HS => r_l1 (v := .slice (hd (some y107.tb)) 1 y107.tc) HS (i := 0) rfl rfl ct26 (staE_c3 _)) HS ?_; have ah112 := HS.ownAddr (i := 25) rfl oM
        obtain ⟨ab111, ah112⟩ := ah112
        refine tG 21 rfl (yK rfl rfl rfl) (fun w HS => r_isN 0 rfl rfl el26 ah112 oM (by (try simp only [Sl.cut]); omega)) HS ?_; refine tG 22 rfl (yK rfl rfl rfl) (fun w HS => r_fa rfl fo53_5) HS ?_; refine tG 23 rfl (yK rfl rfl rfl) (fun w HS => r_g1 (v := y107.T.snaps.v) (s := (⟨hd (some y107.tb), 1, y107.tc, [y107.T]⟩ : Gl Tn)) (j := 0) (HS.glOwn (i := 25) rfl (by decide) (fun c _ => tnE_len c)) ah112 rfl ct50 rfl (by decide) (tnE_c5 _)) HS ?_; refine tG 24 rfl (yK rfl rfl rfl) (fun w HS => r_lens el50 rfl) HS ?_; refine tG 25 rfl (yK rfl rfl rfl) (fun w HS => r_mv) HS ?_; refine tG 26 rfl (yK rfl rfl rfl) (fun w HS => r_mv) HS ?_; refine tG 27 rfl (yK rfl rfl (by exact congrArg Value.bool hc66)) (fun w HS => r_mv) HS ?_; refine tG 28 rfl (yK rfl rfl (by exact congrArg Value.bool hc66)) (fun w HS => r_mv) HS ?_; refine tG 29 rfl (yK rfl rfl (by exact congrArg Value.bool hc66)) (fun w HS => r_bin (a := later) (b := (if now + dl < 1 then 1 else now + dl)) rfl rfl (fun _ => b_lss)) HS ?_; refine tG 30 rfl (yK rfl rfl rfl) (fun w HS => r_pick (b := false) (congrArg Value.bool hc66)) HS ?_; refine t_stepg 31 rfl (by kernel_rfl) (yK rfl rfl rfl) (o_callR Tryz.func12 rfl rfl rfl (func2_ret _ (decide (later < (if now + dl < 1 then 1 else now + dl)))) ?_); rintro _ w ⟨rfl, Hc⟩
        replace H : Hp _ w _ ([_, _, _, _, _, _, _, _, _, _, _, _, _, _, _, _, _, _, _, _, _, _, _, _, _, _, _, _, _, _, _]) := H.call Hc
        clear Hc
        replace HS := H
        refine ⟨HS, ?_⟩
        refine tG 32 rfl (yK rfl rfl rfl) (fun w HS => r_bin (a := (y107.T.snaps.len : Int)) (b := (if (decide (later < (if now + dl < 1 then 1 else now + dl))) = true then (1 : Int) else 0)) rfl rfl (fun _ => b_eql)) HS ?_; refine tK 33 rfl (fun w HS => r_pick rfl) HS ?_; refine tK 34 rfl (fun w HS => r_as) HS ?_; refine t_done (by kernel_rfl) ?_
        clear HS
        refine cR ?_
        refine e_ret1 (v := .bool (decide ((y107.T.snaps.len : Int) = (if (decide (later < (if now + dl < 1 then 1 else now + dl))) = true then (1 : Int) else 0)))) Tryz.results3 rfl ?_
        refine ⟨_, rfl, ?_⟩
        refine ⟨congrArg Value.bool (decide_eq_true ?_), H.sub (List.nil_sublist _)⟩
        rw [hP108]
        refine dooms_law ⟨by omega, by omega⟩ ⟨by omega, by omega⟩ oM _ ?_
        unfold timeF
        repeat' split
        all_goals omega
       ·
        repeat refine c_seq ?_
        refine c_no (by exact bF hc110) ?_; refine c_skip ?_; repeat refine c_seq ?_
        refine heldH H mixed fun H => ?_
        have HS := H
        refine tK 0 rfl (fun w HS => r_fa rfl fo43_0) HS ?_; refine tK 1 rfl (fun w HS => r_l1 (v := VI 201) HS (i := 11) rfl rfl ct3 (ansE_c0 _)) HS ?_; refine tK 2 rfl (fun w HS => r_bin (a := 201) (b := 201) rfl rfl (fun _ => b_eqlB true (decide_eq_true (by decide)))) HS ?_; refine tK 3 rfl (fun w HS => r_mv) HS ?_; refine tG 4 rfl (yK rfl rfl rfl) (fun w HS => r_fa rfl fo43_0) HS ?_; refine tG 5 rfl (yK rfl rfl rfl) (fun w HS => r_l1 (v := VI 201) HS (i := 18) rfl rfl ct3 (ansE_c0 _)) HS ?_; refine tG 6 rfl (yK rfl rfl rfl) (fun w HS => r_bin (a := 201) (b := 201) rfl rfl (fun _ => b_eqlB true (decide_eq_true (by decide)))) HS ?_; refine tK 7 rfl (fun w HS => r_pick rfl) HS ?_; refine tK 8 rfl (fun w HS => r_mv) HS ?_; refine tG 9 rfl (yK rfl rfl rfl) (fun w HS => r_fa rfl fo43_0) HS ?_; refine tG 10 rfl (yK rfl rfl rfl) (fun w HS => r_l1 (v := VI 200) HS (i := 24) rfl rfl ct3 (ansE_c0 _)) HS ?_; refine tG 11 rfl (yK rfl rfl rfl) (fun w HS => r_bin (a := 200) (b := 200) rfl rfl (fun _ => b_eqlB true (decide_eq_true (by decide)))) HS ?_; refine tK 12 rfl (fun w HS => r_pick rfl) HS ?_; refine tK 13 rfl (fun w HS => r_mv) HS ?_; refine tG 14 rfl (yK rfl rfl rfl) (fun w HS => r_fa rfl fo43_0) HS ?_; refine tG 15 rfl (yK rfl rfl rfl) (fun w HS => r_l1 (v := VI 200) HS (i := 30) rfl rfl ct3 (ansE_c0 _)) HS ?_; refine tG 16 rfl (yK rfl rfl rfl) (fun w HS => r_bin (a := 200) (b := 200) rfl rfl (fun _ => b_eqlB true (decide_eq_true (by decide)))) HS ?_; refine tK 17 rfl (fun w HS => r_pick rfl) HS ?_; refine tK 18 rfl (fun w HS => r_mv) HS ?_; refine tG 19 rfl (yK rfl rfl rfl) (fun w HS => r_fa rfl fo30_3) HS ?_; refine tG 20 rfl (yK rfl rfl rfl) (fun w HS => r_l1 (v := .slice (hd (some y107.tb)) 1 y107.tc) HS (i := 0) rfl rfl ct26 (staE_c3 _)) HS ?_; have ah117 := HS.ownAddr (i := 25) rfl oM
        obtain ⟨ab116, ah117⟩ := ah117
        refine tG 21 rfl (yK rfl rfl rfl) (fun w HS => r_isN 0 rfl rfl el26 ah117 oM (by (try simp only [Sl.cut]); omega)) HS ?_; refine tG 22 rfl (yK rfl rfl rfl) (fun w HS => r_fa rfl fo53_5) HS ?_; refine tG 23 rfl (yK rfl rfl rfl) (fun w HS => r_g1 (v := y107.T.snaps.v) (s := (⟨hd (some y107.tb), 1, y107.tc, [y107.T]⟩ : Gl Tn)) (j := 0) (HS.glOwn (i := 25) rfl (by decide) (fun c _ => tnE_len c)) ah117 rfl ct50 rfl (by decide) (tnE_c5 _)) HS ?_; refine tG 24 rfl (yK rfl rfl rfl) (fun w HS => r_lens el50 rfl) HS ?_; refine tG 25 rfl (yK rfl rfl rfl) (fun w HS => r_mv) HS ?_; refine tG 26 rfl (yK rfl rfl rfl) (fun w HS => r_mv) HS ?_; refine tG 27 rfl (yK rfl rfl (by exact congrArg Value.bool hc66)) (fun w HS => r_mv) HS ?_; refine tG 28 rfl (yK rfl rfl (by exact congrArg Value.bool hc66)) (fun w HS => r_mv) HS ?_; refine tG 29 rfl (yK rfl rfl (by exact congrArg Value.bool hc66)) (fun w HS => r_bin (a := later) (b := 9223372036854775807) rfl rfl (fun _ => b_lss)) HS ?_; refine tG 30 rfl (yK rfl rfl rfl) (fun w HS => r_pick (b := false) (congrArg Value.bool hc66)) HS ?_; refine t_stepg 31 rfl (by kernel_rfl) (yK rfl rfl rfl) (o_callR Tryz.func12 rfl rfl rfl (func2_ret _ (decide (later < 9223372036854775807))) ?_); rintro _ w ⟨rfl, Hc⟩
        replace H : Hp _ w _ ([_, _, _, _, _, _, _, _, _, _, _, _, _, _, _, _, _, _, _, _, _, _, _, _, _, _, _, _, _, _, _]) := H.call Hc
        clear Hc
        replace HS := H
        refine ⟨HS, ?_⟩
        refine tG 32 rfl (yK rfl rfl rfl) (fun w HS => r_bin (a := (y107.T.snaps.len : Int)) (b := (if (decide (later < 9223372036854775807)) = true then (1 : Int) else 0)) rfl rfl (fun _ => b_eql)) HS ?_; refine tK 33 rfl (fun w HS => r_pick rfl) HS ?_; refine tK 34 rfl (fun w HS => r_as) HS ?_; refine t_done (by kernel_rfl) ?_
        clear HS
        refine cR ?_
        refine e_ret1 (v := .bool (decide ((y107.T.snaps.len : Int) = (if (decide (later < 9223372036854775807)) = true then (1 : Int) else 0)))) Tryz.results3 rfl ?_
        refine ⟨_, rfl, ?_⟩
        refine ⟨congrArg Value.bool (decide_eq_true ?_), H.sub (List.nil_sublist _)⟩
        rw [hP108]
        refine dooms_law ⟨by omega, by omega⟩ ⟨by omega, by omega⟩ oM _ ?_
        unfold timeF
        repeat' split
        all_goals omega
end Go.Proofs.YtmiabahejnjhiaaGreatDoor
