/- Lemmas for the statement DiskNone, part 2: rules of operations, walks through functions, plain laws. -/
import Derived.Test.YtncmcgcilijfkaaDiskNoneG1
namespace Go.Proofs.Ytncmcgcilijfkaa
open Go
set_option maxRecDepth 100000
theorem Hp.back {w0 w : World} {b : Nat} {C : List Value} {T : TypeId} (h0 : (Ch.blk b C T).ok w0) (H : Hp w0 w [b] [.blk b C T]) : Hp w0 w [] [] := by
  refine ⟨H.os, H.tape, H.output, H.size, fun b' hlt _ => ?_, fun c hc => (by cases hc), fun c hc => (by cases hc), .nil⟩
  by_cases e : b' = b
  · have h1 : (Ch.blk b C T).ok w := H.has _ (by simp)
    rw [e]
    exact (show w.heap[b]? = _ from h1).trans (show w0.heap[b]? = _ from h0).symm
  · exact H.frame b' hlt (by simpa using e)
theorem dLenN_ret (w0 : World)  :
    Ret Try.prog 30 [.pointer none] w0 fun v w' => v = VI 0 ∧ Hp w0 w' [] [] := by
  refine ret_mk Try.func30 rfl Try.ntmps30 (by simp) ?_
  have H := Hp.refl w0 []
  repeat refine c_seq ?_
  refine c_region ?_
  refine l_op (o_val (r_as) ?_)
  first | refine l_end ?_ | refine l_nil ?_
  repeat refine c_seq ?_
  refine c_region ?_
  refine l_op (o_val (r_mv) ?_)
  refine l_op (o_val (r_nilpp Try.underlying55 (by kernel_rfl) rfl rfl) ?_)
  first | refine l_end ?_ | refine l_nil ?_
  repeat refine c_seq ?_
  refine c_yes rfl ?_
  repeat refine c_seq ?_
  refine c_region ?_
  refine l_op (o_val (r_as) ?_)
  first | refine l_end ?_ | refine l_nil ?_
  refine c_ret ?_
  try dsimp only [Exit.then, Exit.inBlock]
  refine e_ret1 (v := VI 0) Try.results30 rfl ?_
  refine ⟨_, rfl, ?_⟩
  exact ⟨rfl, H.sub (List.nil_sublist _)⟩
theorem dLenZ_ret (w0 : World) (db : Nat) (hdb : (Ch.blk db [.slice none 0 0, .map none, .bool false, VI 0, VI 0, VI 0, .slice none 0 0, VI 0, VI 0] 86).ok w0)  :
    Ret Try.prog 30 [.pointer (some ⟨db, 0, none⟩)] w0 fun v w' => v = VI 0 ∧ Hp w0 w' [] [] := by
  refine ret_mk Try.func30 rfl Try.ntmps30 (by simp) ?_
  have H := Hp.start w0 (.blk db [.slice none 0 0, .map none, .bool false, VI 0, VI 0, VI 0, .slice none 0 0, VI 0, VI 0] 86) db hdb rfl
  repeat refine c_seq ?_
  refine c_region ?_
  refine l_op (o_val (r_as) ?_)
  first | refine l_end ?_ | refine l_nil ?_
  repeat refine c_seq ?_
  refine c_region ?_
  refine l_op (o_val (r_mv) ?_)
  refine l_op (o_val (r_nilp Try.underlying55 (by kernel_rfl) rfl rfl) ?_)
  first | refine l_end ?_ | refine l_nil ?_
  repeat refine c_seq ?_
  refine c_no rfl ?_
  refine c_skip ?_
  repeat refine c_seq ?_
  refine c_region ?_
  refine l_op (o_val (r_mv) ?_)
  refine l_op (o_val (r_nilc rfl) ?_)
  refine l_op (o_val (r_fa rfl fo86_0) ?_)
  refine l_op (o_val (r_ld (v := .slice none 0 0) H (i := 0) rfl rfl ct83 rfl) ?_)
  refine l_op (o_val (r_lens el83 rfl) ?_)
  refine l_op (o_val (r_as) ?_)
  first | refine l_end ?_ | refine l_nil ?_
  refine c_ret ?_
  try dsimp only [Exit.then, Exit.inBlock]
  refine e_ret1 (v := VI 0) Try.results30 rfl ?_
  refine ⟨_, rfl, ?_⟩
  exact ⟨rfl, (H.sub (.cons_cons _ (List.nil_sublist _))).back hdb⟩
theorem dmayN_ret (w0 : World) (i : Int) :
    Ret Try.prog 54 [.pointer none, VI i] w0 fun v w' => v = VI 1 ∧ Hp w0 w' [] [] := by
  refine ret_mk Try.func54 rfl Try.ntmps54 (by simp) ?_
  have H := Hp.refl w0 []
  repeat refine c_seq ?_
  refine c_region ?_
  refine l_op (o_val (r_as) ?_)
  first | refine l_end ?_ | refine l_nil ?_
  repeat refine c_seq ?_
  refine c_block ?_
  repeat refine c_seq ?_
  refine c_region ?_
  refine l_op (o_val (r_mv) ?_)
  refine l_op (o_callR Try.func30 rfl rfl rfl (dLenN_ret _ ) ?_)
  rintro _ w ⟨rfl, Hc⟩
  replace H : Hp _ w _ ([]) := H.call Hc
  clear Hc
  refine l_op (o_val (r_bin (a := 0) (b := 0) rfl rfl (fun _ => b_eqlB true (decide_eq_true (by decide)))) ?_)
  refine l_op (o_val (r_as) ?_)
  first | refine l_end ?_ | refine l_nil ?_
  repeat refine c_seq ?_
  refine c_yes rfl ?_
  repeat refine c_seq ?_
  refine c_region ?_
  refine l_op (o_val (r_as) ?_)
  first | refine l_end ?_ | refine l_nil ?_
  refine c_ret ?_
  try dsimp only [Exit.then, Exit.inBlock]
  refine e_ret1 (v := VI 1) Try.results54 rfl ?_
  refine ⟨_, rfl, ?_⟩
  exact ⟨rfl, H.sub (List.nil_sublist _)⟩
theorem dmayZ_ret (w0 : World) (db : Nat) (hdb : (Ch.blk db [.slice none 0 0, .map none, .bool false, VI 0, VI 0, VI 0, .slice none 0 0, VI 0, VI 0] 86).ok w0) (i : Int) :
    Ret Try.prog 54 [.pointer (some ⟨db, 0, none⟩), VI i] w0 fun v w' => v = VI 1 ∧ Hp w0 w' [] [] := by
  refine ret_mk Try.func54 rfl Try.ntmps54 (by simp) ?_
  have H := Hp.start w0 (.blk db [.slice none 0 0, .map none, .bool false, VI 0, VI 0, VI 0, .slice none 0 0, VI 0, VI 0] 86) db hdb rfl
  repeat refine c_seq ?_
  refine c_region ?_
  refine l_op (o_val (r_as) ?_)
  first | refine l_end ?_ | refine l_nil ?_
  repeat refine c_seq ?_
  refine c_block ?_
  repeat refine c_seq ?_
  refine c_region ?_
  refine l_op (o_val (r_mv) ?_)
  refine l_op (o_callR Try.func30 rfl rfl rfl (dLenZ_ret _ _ (H.has _ (List.mem_of_getElem? (i := 0) rfl)) ) ?_)
  rintro _ w ⟨rfl, Hc⟩
  replace H : Hp _ w _ ([.blk db ([.slice none 0 0, .map none, .bool false, VI 0, VI 0, VI 0, .slice none 0 0, VI 0, VI 0]) 86]) := H.call Hc
  clear Hc
  refine l_op (o_val (r_bin (a := 0) (b := 0) rfl rfl (fun _ => b_eqlB true (decide_eq_true (by decide)))) ?_)
  refine l_op (o_val (r_as) ?_)
  first | refine l_end ?_ | refine l_nil ?_
  repeat refine c_seq ?_
  refine c_yes rfl ?_
  repeat refine c_seq ?_
  refine c_region ?_
  refine l_op (o_val (r_as) ?_)
  first | refine l_end ?_ | refine l_nil ?_
  refine c_ret ?_
  try dsimp only [Exit.then, Exit.inBlock]
  refine e_ret1 (v := VI 1) Try.results54 rfl ?_
  refine ⟨_, rfl, ?_⟩
  exact ⟨rfl, (H.sub (.cons_cons _ (List.nil_sublist _))).back hdb⟩
theorem dReadN_ret (w0 : World) (i : Int) :
    Ret Try.prog 29 [.pointer none, VI i] w0 fun v w' => v = .tuple #[.slice none 0 0, VI 1] ∧ Hp w0 w' [] [] := by
  refine ret_mk Try.func29 rfl Try.ntmps29 (by simp) ?_
  have H := Hp.refl w0 []
  repeat refine c_seq ?_
  refine c_region ?_
  refine l_op (o_val (r_as) ?_)
  refine l_op (o_val (r_as) ?_)
  first | refine l_end ?_ | refine l_nil ?_
  repeat refine c_seq ?_
  refine c_region ?_
  refine l_op (o_val (r_mv) ?_)
  refine l_op (o_val (r_mv) ?_)
  refine l_op (o_callR Try.func54 rfl rfl rfl (dmayN_ret _ i) ?_)
  rintro _ w ⟨rfl, Hc⟩
  replace H : Hp _ w _ ([]) := H.call Hc
  clear Hc
  refine l_op (o_val (r_as) ?_)
  first | refine l_end ?_ | refine l_nil ?_
  repeat refine c_seq ?_
  refine c_region ?_
  refine l_op (o_val (r_mv) ?_)
  refine l_op (o_val (r_bin (a := 1) (b := 0) rfl rfl (fun _ => b_neqB true (decide_eq_true (by decide)))) ?_)
  first | refine l_end ?_ | refine l_nil ?_
  repeat refine c_seq ?_
  refine c_yes rfl ?_
  repeat refine c_seq ?_
  refine c_region ?_
  refine l_op (o_val (r_mv) ?_)
  refine l_op (o_val (r_as) ?_)
  refine l_op (o_val (r_as) ?_)
  first | refine l_end ?_ | refine l_nil ?_
  refine c_ret ?_
  try dsimp only [Exit.then, Exit.inBlock]
  refine e_retN (vs := [.slice none 0 0, VI 1]) _ Try.results29 rfl (resT (v := .slice none 0 0) rfl (resT (v := VI 1) rfl (resZ))) ?_
  refine ⟨_, rfl, ?_⟩
  exact ⟨rfl, H.sub (List.nil_sublist _)⟩
theorem dReadZ_ret (w0 : World) (db : Nat) (hdb : (Ch.blk db [.slice none 0 0, .map none, .bool false, VI 0, VI 0, VI 0, .slice none 0 0, VI 0, VI 0] 86).ok w0) (i : Int) :
    Ret Try.prog 29 [.pointer (some ⟨db, 0, none⟩), VI i] w0 fun v w' => v = .tuple #[.slice none 0 0, VI 1] ∧ Hp w0 w' [] [] := by
  refine ret_mk Try.func29 rfl Try.ntmps29 (by simp) ?_
  have H := Hp.start w0 (.blk db [.slice none 0 0, .map none, .bool false, VI 0, VI 0, VI 0, .slice none 0 0, VI 0, VI 0] 86) db hdb rfl
  repeat refine c_seq ?_
  refine c_region ?_
  refine l_op (o_val (r_as) ?_)
  refine l_op (o_val (r_as) ?_)
  first | refine l_end ?_ | refine l_nil ?_
  repeat refine c_seq ?_
  refine c_region ?_
  refine l_op (o_val (r_mv) ?_)
  refine l_op (o_val (r_mv) ?_)
  refine l_op (o_callR Try.func54 rfl rfl rfl (dmayZ_ret _ _ (H.has _ (List.mem_of_getElem? (i := 0) rfl)) i) ?_)
  rintro _ w ⟨rfl, Hc⟩
  replace H : Hp _ w _ ([.blk db ([.slice none 0 0, .map none, .bool false, VI 0, VI 0, VI 0, .slice none 0 0, VI 0, VI 0]) 86]) := H.call Hc
  clear Hc
  refine l_op (o_val (r_as) ?_)
  first | refine l_end ?_ | refine l_nil ?_
  repeat refine c_seq ?_
  refine c_region ?_
  refine l_op (o_val (r_mv) ?_)
  refine l_op (o_val (r_bin (a := 1) (b := 0) rfl rfl (fun _ => b_neqB true (decide_eq_true (by decide)))) ?_)
  first | refine l_end ?_ | refine l_nil ?_
  repeat refine c_seq ?_
  refine c_yes rfl ?_
  repeat refine c_seq ?_
  refine c_region ?_
  refine l_op (o_val (r_mv) ?_)
  refine l_op (o_val (r_as) ?_)
  refine l_op (o_val (r_as) ?_)
  first | refine l_end ?_ | refine l_nil ?_
  refine c_ret ?_
  try dsimp only [Exit.then, Exit.inBlock]
  refine e_retN (vs := [.slice none 0 0, VI 1]) _ Try.results29 rfl (resT (v := .slice none 0 0) rfl (resT (v := VI 1) rfl (resZ))) ?_
  refine ⟨_, rfl, ?_⟩
  exact ⟨rfl, (H.sub (.cons_cons _ (List.nil_sublist _))).back hdb⟩
theorem dWriteN_ret (w0 : World) (i : Int) (s : Sl) :
    Ret Try.prog 34 [.pointer none, VI i, s.v] w0 fun v w' => v = VI 1 ∧ Hp w0 w' [] [] := by
  refine ret_mk Try.func34 rfl Try.ntmps34 (by simp) ?_
  have H := Hp.refl w0 []
  repeat refine c_seq ?_
  refine c_region ?_
  refine l_op (o_val (r_as) ?_)
  first | refine l_end ?_ | refine l_nil ?_
  repeat refine c_seq ?_
  refine c_region ?_
  refine l_op (o_val (r_mv) ?_)
  refine l_op (o_val (r_mv) ?_)
  refine l_op (o_callR Try.func54 rfl rfl rfl (dmayN_ret _ i) ?_)
  rintro _ w ⟨rfl, Hc⟩
  replace H : Hp _ w _ ([]) := H.call Hc
  clear Hc
  refine l_op (o_val (r_as) ?_)
  first | refine l_end ?_ | refine l_nil ?_
  repeat refine c_seq ?_
  refine c_region ?_
  refine l_op (o_val (r_mv) ?_)
  refine l_op (o_val (r_bin (a := 1) (b := 0) rfl rfl (fun _ => b_neqB true (decide_eq_true (by decide)))) ?_)
  first | refine l_end ?_ | refine l_nil ?_
  repeat refine c_seq ?_
  refine c_yes rfl ?_
  repeat refine c_seq ?_
  refine c_region ?_
  refine l_op (o_val (r_mv) ?_)
  refine l_op (o_val (r_as) ?_)
  first | refine l_end ?_ | refine l_nil ?_
  refine c_ret ?_
  try dsimp only [Exit.then, Exit.inBlock]
  refine e_ret1 (v := VI 1) Try.results34 rfl ?_
  refine ⟨_, rfl, ?_⟩
  exact ⟨rfl, H.sub (List.nil_sublist _)⟩
theorem dFlushZ_ret (w0 : World) (db : Nat) (hdb : (Ch.blk db [.slice none 0 0, .map none, .bool false, VI 0, VI 0, VI 0, .slice none 0 0, VI 0, VI 0] 86).ok w0)  :
    Ret Try.prog 35 [.pointer (some ⟨db, 0, none⟩)] w0 fun v w' => v = VI 1 ∧ Hp w0 w' [] [] := by
  refine ret_mk Try.func35 rfl Try.ntmps35 (by simp) ?_
  have H := Hp.start w0 (.blk db [.slice none 0 0, .map none, .bool false, VI 0, VI 0, VI 0, .slice none 0 0, VI 0, VI 0] 86) db hdb rfl
  repeat refine c_seq ?_
  refine c_region ?_
  refine l_op (o_val (r_as) ?_)
  first | refine l_end ?_ | refine l_nil ?_
  repeat refine c_seq ?_
  refine c_region ?_
  refine l_op (o_val (r_mv) ?_)
  refine l_op (o_callR Try.func54 rfl rfl rfl (dmayZ_ret _ _ (H.has _ (List.mem_of_getElem? (i := 0) rfl)) 0) ?_)
  rintro _ w ⟨rfl, Hc⟩
  replace H : Hp _ w _ ([.blk db ([.slice none 0 0, .map none, .bool false, VI 0, VI 0, VI 0, .slice none 0 0, VI 0, VI 0]) 86]) := H.call Hc
  clear Hc
  refine l_op (o_val (r_as) ?_)
  first | refine l_end ?_ | refine l_nil ?_
  repeat refine c_seq ?_
  refine c_region ?_
  refine l_op (o_val (r_mv) ?_)
  refine l_op (o_val (r_bin (a := 1) (b := 0) rfl rfl (fun _ => b_neqB true (decide_eq_true (by decide)))) ?_)
  first | refine l_end ?_ | refine l_nil ?_
  repeat refine c_seq ?_
  refine c_yes rfl ?_
  repeat refine c_seq ?_
  refine c_region ?_
  refine l_op (o_val (r_mv) ?_)
  refine l_op (o_val (r_as) ?_)
  first | refine l_end ?_ | refine l_nil ?_
  refine c_ret ?_
  try dsimp only [Exit.then, Exit.inBlock]
  refine e_ret1 (v := VI 1) Try.results35 rfl ?_
  refine ⟨_, rfl, ?_⟩
  exact ⟨rfl, (H.sub (.cons_cons _ (List.nil_sublist _))).back hdb⟩
theorem dArmN_ret (w0 : World) (n p : Int) :
    Ret Try.prog 36 [.pointer none, VI n, VI p] w0 fun v w' => v = .tuple #[] ∧ Hp w0 w' [] [] := by
  refine ret_mk Try.func36 rfl Try.ntmps36 (by simp) ?_
  have H := Hp.refl w0 []
  repeat refine c_seq ?_
  refine c_region ?_
  refine l_op (o_val (r_mv) ?_)
  refine l_op (o_callR Try.func30 rfl rfl rfl (dLenN_ret _ ) ?_)
  rintro _ w ⟨rfl, Hc⟩
  replace H : Hp _ w _ ([]) := H.call Hc
  clear Hc
  refine l_op (o_val (r_bin (a := 0) (b := 0) rfl rfl (fun _ => b_eqlB true (decide_eq_true (by decide)))) ?_)
  first | refine l_end ?_ | refine l_nil ?_
  repeat refine c_seq ?_
  refine c_yes rfl ?_
  refine c_ret ?_
  try dsimp only [Exit.then, Exit.inBlock]
  refine e_ret0 Try.results36 ?_
  refine ⟨_, rfl, ?_⟩
  exact ⟨rfl, H.sub (List.nil_sublist _)⟩
theorem dDeadN_ret (w0 : World)  :
    Ret Try.prog 32 [.pointer none] w0 fun v w' => v = .bool true ∧ Hp w0 w' [] [] := by
  refine ret_mk Try.func32 rfl Try.ntmps32 (by simp) ?_
  have H := Hp.refl w0 []
  repeat refine c_seq ?_
  refine c_region ?_
  refine l_op (o_val (r_as) ?_)
  first | refine l_end ?_ | refine l_nil ?_
  repeat refine c_seq ?_
  refine c_region ?_
  refine l_op (o_val (r_mv) ?_)
  refine l_op (o_callR Try.func30 rfl rfl rfl (dLenN_ret _ ) ?_)
  rintro _ w ⟨rfl, Hc⟩
  replace H : Hp _ w _ ([]) := H.call Hc
  clear Hc
  refine l_op (o_val (r_bin (a := 0) (b := 0) rfl rfl (fun _ => b_eqlB true (decide_eq_true (by decide)))) ?_)
  refine l_op (o_val (r_mv) ?_)
  refine l_no rfl rfl rfl rfl ?_
  refine l_no rfl rfl rfl rfl ?_
  refine l_no rfl rfl rfl rfl ?_
  refine l_no rfl rfl rfl rfl ?_
  refine l_op (o_val (r_pick rfl) ?_)
  refine l_op (o_val (r_as) ?_)
  first | refine l_end ?_ | refine l_nil ?_
  refine c_ret ?_
  try dsimp only [Exit.then, Exit.inBlock]
  refine e_ret1 (v := .bool true) Try.results32 rfl ?_
  refine ⟨_, rfl, ?_⟩
  exact ⟨rfl, H.sub (List.nil_sublist _)⟩
theorem dDeadZ_ret (w0 : World) (db : Nat) (hdb : (Ch.blk db [.slice none 0 0, .map none, .bool false, VI 0, VI 0, VI 0, .slice none 0 0, VI 0, VI 0] 86).ok w0)  :
    Ret Try.prog 32 [.pointer (some ⟨db, 0, none⟩)] w0 fun v w' => v = .bool true ∧ Hp w0 w' [] [] := by
  refine ret_mk Try.func32 rfl Try.ntmps32 (by simp) ?_
  have H := Hp.start w0 (.blk db [.slice none 0 0, .map none, .bool false, VI 0, VI 0, VI 0, .slice none 0 0, VI 0, VI 0] 86) db hdb rfl
  repeat refine c_seq ?_
  refine c_region ?_
  refine l_op (o_val (r_as) ?_)
  first | refine l_end ?_ | refine l_nil ?_
  repeat refine c_seq ?_
  refine c_region ?_
  refine l_op (o_val (r_mv) ?_)
  refine l_op (o_callR Try.func30 rfl rfl rfl (dLenZ_ret _ _ (H.has _ (List.mem_of_getElem? (i := 0) rfl)) ) ?_)
  rintro _ w ⟨rfl, Hc⟩
  replace H : Hp _ w _ ([.blk db ([.slice none 0 0, .map none, .bool false, VI 0, VI 0, VI 0, .slice none 0 0, VI 0, VI 0]) 86]) := H.call Hc
  clear Hc
  refine l_op (o_val (r_bin (a := 0) (b := 0) rfl rfl (fun _ => b_eqlB true (decide_eq_true (by decide)))) ?_)
  refine l_op (o_val (r_mv) ?_)
  refine l_no rfl rfl rfl rfl ?_
  refine l_no rfl rfl rfl rfl ?_
  refine l_no rfl rfl rfl rfl ?_
  refine l_no rfl rfl rfl rfl ?_
  refine l_op (o_val (r_pick rfl) ?_)
  refine l_op (o_val (r_as) ?_)
  first | refine l_end ?_ | refine l_nil ?_
  refine c_ret ?_
  try dsimp only [Exit.then, Exit.inBlock]
  refine e_ret1 (v := .bool true) Try.results32 rfl ?_
  refine ⟨_, rfl, ?_⟩
  exact ⟨rfl, (H.sub (.cons_cons _ (List.nil_sublist _))).back hdb⟩
theorem dWaitingN_ret (w0 : World)  :
    Ret Try.prog 33 [.pointer none] w0 fun v w' => v = .slice none 0 0 ∧ Hp w0 w' [] [] := by
  refine ret_mk Try.func33 rfl Try.ntmps33 (by simp) ?_
  have H := Hp.refl w0 []
  repeat refine c_seq ?_
  refine c_region ?_
  refine l_op (o_val (r_as) ?_)
  first | refine l_end ?_ | refine l_nil ?_
  repeat refine c_seq ?_
  refine c_region ?_
  refine l_op (o_val (r_mv) ?_)
  refine l_op (o_callR Try.func30 rfl rfl rfl (dLenN_ret _ ) ?_)
  rintro _ w ⟨rfl, Hc⟩
  replace H : Hp _ w _ ([]) := H.call Hc
  clear Hc
  refine l_op (o_val (r_bin (a := 0) (b := 0) rfl rfl (fun _ => b_eqlB true (decide_eq_true (by decide)))) ?_)
  first | refine l_end ?_ | refine l_nil ?_
  repeat refine c_seq ?_
  refine c_yes rfl ?_
  repeat refine c_seq ?_
  refine c_region ?_
  refine l_op (o_val (r_as) ?_)
  first | refine l_end ?_ | refine l_nil ?_
  refine c_ret ?_
  try dsimp only [Exit.then, Exit.inBlock]
  refine e_ret1 (v := .slice none 0 0) Try.results33 rfl ?_
  refine ⟨_, rfl, ?_⟩
  exact ⟨rfl, H.sub (List.nil_sublist _)⟩
theorem dWritesN_ret (w0 : World)  :
    Ret Try.prog 46 [.pointer none] w0 fun v w' => v = VI 0 ∧ Hp w0 w' [] [] := by
  refine ret_mk Try.func46 rfl Try.ntmps46 (by simp) ?_
  have H := Hp.refl w0 []
  repeat refine c_seq ?_
  refine c_region ?_
  refine l_op (o_val (r_as) ?_)
  first | refine l_end ?_ | refine l_nil ?_
  repeat refine c_seq ?_
  refine c_region ?_
  refine l_op (o_val (r_mv) ?_)
  refine l_op (o_val (r_nilpp Try.underlying55 (by kernel_rfl) rfl rfl) ?_)
  first | refine l_end ?_ | refine l_nil ?_
  repeat refine c_seq ?_
  refine c_yes rfl ?_
  repeat refine c_seq ?_
  refine c_region ?_
  refine l_op (o_val (r_as) ?_)
  first | refine l_end ?_ | refine l_nil ?_
  refine c_ret ?_
  try dsimp only [Exit.then, Exit.inBlock]
  refine e_ret1 (v := VI 0) Try.results46 rfl ?_
  refine ⟨_, rfl, ?_⟩
  exact ⟨rfl, H.sub (List.nil_sublist _)⟩
theorem dLivesZ_ret (w0 : World) (db : Nat) (hdb : (Ch.blk db [.slice none 0 0, .map none, .bool false, VI 0, VI 0, VI 0, .slice none 0 0, VI 0, VI 0] 86).ok w0)  :
    Ret Try.prog 43 [.pointer (some ⟨db, 0, none⟩)] w0 fun v w' => v = VI 0 ∧ Hp w0 w' [] [] := by
  refine ret_mk Try.func43 rfl Try.ntmps43 (by simp) ?_
  have H := Hp.start w0 (.blk db [.slice none 0 0, .map none, .bool false, VI 0, VI 0, VI 0, .slice none 0 0, VI 0, VI 0] 86) db hdb rfl
  repeat refine c_seq ?_
  refine c_region ?_
  refine l_op (o_val (r_as) ?_)
  first | refine l_end ?_ | refine l_nil ?_
  repeat refine c_seq ?_
  refine c_region ?_
  refine l_op (o_val (r_mv) ?_)
  refine l_op (o_val (r_nilp Try.underlying55 (by kernel_rfl) rfl rfl) ?_)
  first | refine l_end ?_ | refine l_nil ?_
  repeat refine c_seq ?_
  refine c_no rfl ?_
  refine c_skip ?_
  repeat refine c_seq ?_
  refine c_region ?_
  refine l_op (o_val (r_mv) ?_)
  refine l_op (o_val (r_nilc rfl) ?_)
  refine l_op (o_val (r_fa rfl fo86_8) ?_)
  refine l_op (o_val (r_ld (v := VI 0) H (i := 0) rfl rfl ct3 rfl) ?_)
  refine l_op (o_val (r_as) ?_)
  first | refine l_end ?_ | refine l_nil ?_
  refine c_ret ?_
  try dsimp only [Exit.then, Exit.inBlock]
  refine e_ret1 (v := VI 0) Try.results43 rfl ?_
  refine ⟨_, rfl, ?_⟩
  exact ⟨rfl, (H.sub (.cons_cons _ (List.nil_sublist _))).back hdb⟩
theorem dCopyN_ret (w0 : World)  :
    Ret Try.prog 44 [.pointer none] w0 fun v w' => v = .pointer none ∧ Hp w0 w' [] [] := by
  refine ret_mk Try.func44 rfl Try.ntmps44 (by simp) ?_
  have H := Hp.refl w0 []
  repeat refine c_seq ?_
  refine c_region ?_
  refine l_op (o_val (r_as) ?_)
  first | refine l_end ?_ | refine l_nil ?_
  repeat refine c_seq ?_
  refine c_region ?_
  refine l_op (o_val (r_mv) ?_)
  refine l_op (o_callR Try.func30 rfl rfl rfl (dLenN_ret _ ) ?_)
  rintro _ w ⟨rfl, Hc⟩
  replace H : Hp _ w _ ([]) := H.call Hc
  clear Hc
  refine l_op (o_val (r_bin (a := 0) (b := 0) rfl rfl (fun _ => b_eqlB true (decide_eq_true (by decide)))) ?_)
  first | refine l_end ?_ | refine l_nil ?_
  repeat refine c_seq ?_
  refine c_yes rfl ?_
  repeat refine c_seq ?_
  refine c_region ?_
  refine l_op (o_val (r_as) ?_)
  first | refine l_end ?_ | refine l_nil ?_
  refine c_ret ?_
  try dsimp only [Exit.then, Exit.inBlock]
  refine e_ret1 (v := .pointer none) Try.results44 rfl ?_
  refine ⟨_, rfl, ?_⟩
  exact ⟨rfl, H.sub (List.nil_sublist _)⟩
theorem dCopyZ_ret (w0 : World) (db : Nat) (hdb : (Ch.blk db [.slice none 0 0, .map none, .bool false, VI 0, VI 0, VI 0, .slice none 0 0, VI 0, VI 0] 86).ok w0)  :
    Ret Try.prog 44 [.pointer (some ⟨db, 0, none⟩)] w0 fun v w' => v = .pointer none ∧ Hp w0 w' [] [] := by
  refine ret_mk Try.func44 rfl Try.ntmps44 (by simp) ?_
  have H := Hp.start w0 (.blk db [.slice none 0 0, .map none, .bool false, VI 0, VI 0, VI 0, .slice none 0 0, VI 0, VI 0] 86) db hdb rfl
  repeat refine c_seq ?_
  refine c_region ?_
  refine l_op (o_val (r_as) ?_)
  first | refine l_end ?_ | refine l_nil ?_
  repeat refine c_seq ?_
  refine c_region ?_
  refine l_op (o_val (r_mv) ?_)
  refine l_op (o_callR Try.func30 rfl rfl rfl (dLenZ_ret _ _ (H.has _ (List.mem_of_getElem? (i := 0) rfl)) ) ?_)
  rintro _ w ⟨rfl, Hc⟩
  replace H : Hp _ w _ ([.blk db ([.slice none 0 0, .map none, .bool false, VI 0, VI 0, VI 0, .slice none 0 0, VI 0, VI 0]) 86]) := H.call Hc
  clear Hc
  refine l_op (o_val (r_bin (a := 0) (b := 0) rfl rfl (fun _ => b_eqlB true (decide_eq_true (by decide)))) ?_)
  first | refine l_end ?_ | refine l_nil ?_
  repeat refine c_seq ?_
  refine c_yes rfl ?_
  repeat refine c_seq ?_
  refine c_region ?_
  refine l_op (o_val (r_as) ?_)
  first | refine l_end ?_ | refine l_nil ?_
  refine c_ret ?_
  try dsimp only [Exit.then, Exit.inBlock]
  refine e_ret1 (v := .pointer none) Try.results44 rfl ?_
  refine ⟨_, rfl, ?_⟩
  exact ⟨rfl, (H.sub (.cons_cons _ (List.nil_sublist _))).back hdb⟩
theorem dPowerN_ret (w0 : World)  :
    Ret Try.prog 37 [.pointer none, .slice none 0 0] w0 fun v w' => v = .tuple #[] ∧ Hp w0 w' [] [] := by
  refine ret_mk Try.func37 rfl Try.ntmps37 (by simp) ?_
  have H := Hp.refl w0 []
  repeat refine c_seq ?_
  refine c_region ?_
  refine l_op (o_val (r_mv) ?_)
  refine l_op (o_callR Try.func30 rfl rfl rfl (dLenN_ret _ ) ?_)
  rintro _ w ⟨rfl, Hc⟩
  replace H : Hp _ w _ ([]) := H.call Hc
  clear Hc
  refine l_op (o_val (r_bin (a := 0) (b := 0) rfl rfl (fun _ => b_eqlB true (decide_eq_true (by decide)))) ?_)
  first | refine l_end ?_ | refine l_nil ?_
  repeat refine c_seq ?_
  refine c_yes rfl ?_
  refine c_ret ?_
  try dsimp only [Exit.then, Exit.inBlock]
  refine e_ret0 Try.results37 ?_
  refine ⟨_, rfl, ?_⟩
  exact ⟨rfl, H.sub (List.nil_sublist _)⟩
theorem dPowerZ_ret (w0 : World) (db : Nat) (hdb : (Ch.blk db [.slice none 0 0, .map none, .bool false, VI 0, VI 0, VI 0, .slice none 0 0, VI 0, VI 0] 86).ok w0)  :
    Ret Try.prog 37 [.pointer (some ⟨db, 0, none⟩), .slice none 0 0] w0 fun v w' => v = .tuple #[] ∧ Hp w0 w' [] [] := by
  refine ret_mk Try.func37 rfl Try.ntmps37 (by simp) ?_
  have H := Hp.start w0 (.blk db [.slice none 0 0, .map none, .bool false, VI 0, VI 0, VI 0, .slice none 0 0, VI 0, VI 0] 86) db hdb rfl
  repeat refine c_seq ?_
  refine c_region ?_
  refine l_op (o_val (r_mv) ?_)
  refine l_op (o_callR Try.func30 rfl rfl rfl (dLenZ_ret _ _ (H.has _ (List.mem_of_getElem? (i := 0) rfl)) ) ?_)
  rintro _ w ⟨rfl, Hc⟩
  replace H : Hp _ w _ ([.blk db ([.slice none 0 0, .map none, .bool false, VI 0, VI 0, VI 0, .slice none 0 0, VI 0, VI 0]) 86]) := H.call Hc
  clear Hc
  refine l_op (o_val (r_bin (a := 0) (b := 0) rfl rfl (fun _ => b_eqlB true (decide_eq_true (by decide)))) ?_)
  first | refine l_end ?_ | refine l_nil ?_
  repeat refine c_seq ?_
  refine c_yes rfl ?_
  refine c_ret ?_
  try dsimp only [Exit.then, Exit.inBlock]
  refine e_ret0 Try.results37 ?_
  refine ⟨_, rfl, ?_⟩
  exact ⟨rfl, (H.sub (.cons_cons _ (List.nil_sublist _))).back hdb⟩
theorem diskNone_ret (w0 : World) :
    Ret Try.prog 12 [] w0 fun v w' => v = .bool true ∧ Hp w0 w' [] [] := by
  refine ret_mk Try.func12 rfl Try.ntmps12 (by simp) ?_
  have H := Hp.refl w0 []
  repeat refine c_seq ?_
  refine c_region ?_
  refine l_op (o_val (r_as) ?_)
  first | refine l_end ?_ | refine l_nil ?_
  repeat refine c_seq ?_
  refine c_region ?_
  refine l_op (o_val (r_as) ?_)
  first | refine l_end ?_ | refine l_nil ?_
  repeat refine c_seq ?_
  refine c_region ?_
  refine l_op (o_val (r_bld' (cells := ([.slice none 0 0, .map none, .bool false, VI 0, VI 0, VI 0, .slice none 0 0, VI 0, VI 0]).toArray) (pv := []) bd86 rfl rfl) ?_)
  refine l_op (o_box (v := .agg ([.slice none 0 0, .map none, .bool false, VI 0, VI 0, VI 0, .slice none 0 0, VI 0, VI 0]).toArray) H rfl (fun b1 w H hb1 => ?_))
  replace H : Hp _ w _ ([.blk b1 ([.slice none 0 0, .map none, .bool false, VI 0, VI 0, VI 0, .slice none 0 0, VI 0, VI 0]) 86]) := H
  refine l_op (o_val (r_as) ?_)
  first | refine l_end ?_ | refine l_nil ?_
  repeat refine c_seq ?_
  refine c_region ?_
  refine l_op (o_val (r_mv) ?_)
  refine l_op (o_callR Try.func36 rfl rfl rfl (dArmN_ret _ 1 1) ?_)
  rintro _ w ⟨rfl, Hc⟩
  replace H : Hp _ w _ ([_]) := H.call Hc
  clear Hc
  first | refine l_end ?_ | refine l_nil ?_
  repeat refine c_seq ?_
  refine c_region ?_
  refine l_op (o_val (r_mv) ?_)
  refine l_op (o_callR Try.func37 rfl rfl rfl (dPowerN_ret _ ) ?_)
  rintro _ w ⟨rfl, Hc⟩
  replace H : Hp _ w _ ([_]) := H.call Hc
  clear Hc
  first | refine l_end ?_ | refine l_nil ?_
  repeat refine c_seq ?_
  refine c_region ?_
  refine l_op (o_val (r_mv) ?_)
  refine l_op (o_callR Try.func37 rfl rfl rfl (dPowerZ_ret _ _ (H.has _ (List.mem_of_getElem? (i := 0) rfl)) ) ?_)
  rintro _ w ⟨rfl, Hc⟩
  replace H : Hp _ w _ ([_]) := H.call Hc
  clear Hc
  first | refine l_end ?_ | refine l_nil ?_
  repeat refine c_seq ?_
  refine c_region ?_
  refine l_op (o_val (r_mv) ?_)
  refine l_op (o_callR Try.func29 rfl rfl rfl (dReadN_ret _ 0) ?_)
  rintro _ w ⟨rfl, Hc⟩
  replace H : Hp _ w _ ([_]) := H.call Hc
  clear Hc
  refine l_op (o_val (r_mv) ?_)
  refine l_op (o_val (r_ext rfl rfl) ?_)
  refine l_op (o_val (r_ext rfl rfl) ?_)
  refine l_op (o_val (r_as) ?_)
  refine l_op (o_val (r_as) ?_)
  first | refine l_end ?_ | refine l_nil ?_
  repeat refine c_seq ?_
  refine c_region ?_
  refine l_op (o_val (r_mv) ?_)
  refine l_op (o_callR Try.func29 rfl rfl rfl (dReadZ_ret _ _ (H.has _ (List.mem_of_getElem? (i := 0) rfl)) 0) ?_)
  rintro _ w ⟨rfl, Hc⟩
  replace H : Hp _ w _ ([_]) := H.call Hc
  clear Hc
  refine l_op (o_val (r_mv) ?_)
  refine l_op (o_val (r_ext rfl rfl) ?_)
  refine l_op (o_val (r_ext rfl rfl) ?_)
  refine l_op (o_val (r_as) ?_)
  refine l_op (o_val (r_as) ?_)
  first | refine l_end ?_ | refine l_nil ?_
  repeat refine c_seq ?_
  refine c_region ?_
  refine l_op (o_callR Try.func27 rfl rfl rfl (begun5_ret _) ?_)
  rintro _ w ⟨rfl, Hc⟩
  replace H : Hp _ w _ ([_]) := H.call Hc
  clear Hc
  refine l_op (o_val (r_mv) ?_)
  refine l_yes rfl rfl rfl (o_val (r_mv) ?_)
  refine l_yes rfl rfl rfl (o_val (r_bin (a := 1) (b := 1) rfl rfl (fun _ => b_eqlB true (decide_eq_true (by decide)))) ?_)
  refine l_op (o_val (r_pick rfl) ?_)
  refine l_op (o_val (r_mv) ?_)
  refine l_yes rfl rfl rfl (o_val (r_mv) ?_)
  refine l_yes rfl rfl rfl (o_val (r_bin (a := 1) (b := 1) rfl rfl (fun _ => b_eqlB true (decide_eq_true (by decide)))) ?_)
  refine l_op (o_val (r_pick rfl) ?_)
  refine l_op (o_val (r_mv) ?_)
  refine l_yes rfl rfl rfl (o_val (r_mv) ?_)
  refine l_yes rfl rfl rfl (o_callR Try.func31 rfl rfl rfl (full_ret _ ⟨none, 0, 0, []⟩ (Sl.ok_nil _)) ?_)
  rintro _ w ⟨fb2, rfl, Hc⟩
  replace H : Hp _ w _ ([_, .own (some fb2) 512 512 ((wh ([] : List UInt8)).map V8) 5 1]) := H.call Hc
  clear Hc
  refine l_yes rfl rfl rfl (o_callR Try.func34 rfl rfl rfl (dWriteN_ret _ 0 ⟨hd (some fb2), 512, 512, wh ([] : List UInt8)⟩) ?_)
  rintro _ w ⟨rfl, Hc⟩
  replace H : Hp _ w _ ([_, _]) := H.call Hc
  clear Hc
  refine l_yes rfl rfl rfl (o_val (r_bin (a := 1) (b := 1) rfl rfl (fun _ => b_eqlB true (decide_eq_true (by decide)))) ?_)
  refine l_op (o_val (r_pick rfl) ?_)
  refine l_op (o_val (r_mv) ?_)
  refine l_yes rfl rfl rfl (o_val (r_mv) ?_)
  refine l_yes rfl rfl rfl (o_callR Try.func35 rfl rfl rfl (dFlushZ_ret _ _ (H.has _ (List.mem_of_getElem? (i := 0) rfl)) ) ?_)
  rintro _ w ⟨rfl, Hc⟩
  replace H : Hp _ w _ ([_, _]) := H.call Hc
  clear Hc
  refine l_yes rfl rfl rfl (o_val (r_bin (a := 1) (b := 1) rfl rfl (fun _ => b_eqlB true (decide_eq_true (by decide)))) ?_)
  refine l_op (o_val (r_pick rfl) ?_)
  refine l_op (o_val (r_mv) ?_)
  refine l_yes rfl rfl rfl (o_val (r_mv) ?_)
  refine l_yes rfl rfl rfl (o_callR Try.func32 rfl rfl rfl (dDeadN_ret _ ) ?_)
  rintro _ w ⟨rfl, Hc⟩
  replace H : Hp _ w _ ([_, _]) := H.call Hc
  clear Hc
  refine l_op (o_val (r_pick rfl) ?_)
  refine l_op (o_val (r_mv) ?_)
  refine l_yes rfl rfl rfl (o_val (r_mv) ?_)
  refine l_yes rfl rfl rfl (o_callR Try.func32 rfl rfl rfl (dDeadZ_ret _ _ (H.has _ (List.mem_of_getElem? (i := 0) rfl)) ) ?_)
  rintro _ w ⟨rfl, Hc⟩
  replace H : Hp _ w _ ([_, _]) := H.call Hc
  clear Hc
  refine l_op (o_val (r_pick rfl) ?_)
  refine l_op (o_val (r_mv) ?_)
  refine l_yes rfl rfl rfl (o_val (r_mv) ?_)
  refine l_yes rfl rfl rfl (o_callR Try.func30 rfl rfl rfl (dLenN_ret _ ) ?_)
  rintro _ w ⟨rfl, Hc⟩
  replace H : Hp _ w _ ([_, _]) := H.call Hc
  clear Hc
  refine l_yes rfl rfl rfl (o_val (r_mv) ?_)
  refine l_yes rfl rfl rfl (o_callR Try.func30 rfl rfl rfl (dLenZ_ret _ _ (H.has _ (List.mem_of_getElem? (i := 0) rfl)) ) ?_)
  rintro _ w ⟨rfl, Hc⟩
  replace H : Hp _ w _ ([_, _]) := H.call Hc
  clear Hc
  refine l_yes rfl rfl rfl (o_val (r_bin (a := 0) (b := 0) rfl rfl (fun _ => b_add (by omega) (by omega))) ?_)
  refine l_yes rfl rfl rfl (o_val (r_mv) ?_)
  refine l_yes rfl rfl rfl (o_callR Try.func46 rfl rfl rfl (dWritesN_ret _ ) ?_)
  rintro _ w ⟨rfl, Hc⟩
  replace H : Hp _ w _ ([_, _]) := H.call Hc
  clear Hc
  refine l_yes rfl rfl rfl (o_val (r_bin (a := 0 + 0) (b := 0) rfl rfl (fun _ => b_add (by omega) (by omega))) ?_)
  refine l_yes rfl rfl rfl (o_val (r_mv) ?_)
  refine l_yes rfl rfl rfl (o_callR Try.func43 rfl rfl rfl (dLivesZ_ret _ _ (H.has _ (List.mem_of_getElem? (i := 0) rfl)) ) ?_)
  rintro _ w ⟨rfl, Hc⟩
  replace H : Hp _ w _ ([_, _]) := H.call Hc
  clear Hc
  refine l_yes rfl rfl rfl (o_val (r_bin (a := (0 + 0) + 0) (b := 0) rfl rfl (fun _ => b_add (by omega) (by omega))) ?_)
  refine l_yes rfl rfl rfl (o_val (r_mv) ?_)
  refine l_yes rfl rfl rfl (o_callR Try.func33 rfl rfl rfl (dWaitingN_ret _ ) ?_)
  rintro _ w ⟨rfl, Hc⟩
  replace H : Hp _ w _ ([_, _]) := H.call Hc
  clear Hc
  refine l_yes rfl rfl rfl (o_val (r_lens el62 rfl) ?_)
  refine l_yes rfl rfl rfl (o_val (r_bin (a := ((0 + 0) + 0) + 0) (b := 0) rfl rfl (fun _ => b_add (by omega) (by omega))) ?_)
  refine l_yes rfl rfl rfl (o_val (r_bin (a := (((0 + 0) + 0) + 0) + 0) (b := 0) rfl rfl (fun _ => b_eqlB true (decide_eq_true (by decide)))) ?_)
  refine l_op (o_val (r_pick rfl) ?_)
  refine l_op (o_val (r_mv) ?_)
  refine l_yes rfl rfl rfl (o_val (r_mv) ?_)
  refine l_yes rfl rfl rfl (o_callR Try.func44 rfl rfl rfl (dCopyN_ret _ ) ?_)
  rintro _ w ⟨rfl, Hc⟩
  replace H : Hp _ w _ ([_, _]) := H.call Hc
  clear Hc
  refine l_yes rfl rfl rfl (o_val (r_nilpp Try.underlying55 (by kernel_rfl) rfl rfl) ?_)
  refine l_op (o_val (r_pick rfl) ?_)
  refine l_op (o_val (r_mv) ?_)
  refine l_yes rfl rfl rfl (o_val (r_mv) ?_)
  refine l_yes rfl rfl rfl (o_callR Try.func44 rfl rfl rfl (dCopyZ_ret _ _ (H.has _ (List.mem_of_getElem? (i := 0) rfl)) ) ?_)
  rintro _ w ⟨rfl, Hc⟩
  replace H : Hp _ w _ ([_, _]) := H.call Hc
  clear Hc
  refine l_yes rfl rfl rfl (o_val (r_nilpp Try.underlying55 (by kernel_rfl) rfl rfl) ?_)
  refine l_op (o_val (r_pick rfl) ?_)
  refine l_op (o_val (r_as) ?_)
  first | refine l_end ?_ | refine l_nil ?_
  refine c_ret ?_
  try dsimp only [Exit.then, Exit.inBlock]
  refine e_ret1 (v := .bool true) Try.results12 rfl ?_
  refine ⟨_, rfl, ?_⟩
  exact ⟨rfl, H.sub (List.nil_sublist _)⟩
end Go.Proofs.Ytncmcgcilijfkaa
