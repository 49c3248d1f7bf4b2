import Derived.Test.YtjmbbhnpfmblpaaLaw0b
import Derived.Test.YtjmbbhnpfmblpaaRef3
import Derived.Test.YtjmbbhnpfmblpaaShaAll
/- layer 3: what stands ahead of each statement. -/
namespace Go.Proofs.Ytjmbbhnpfmblpaa
open Go
set_option maxRecDepth 100000
theorem hi_0 : (hmac (List.replicate 20 11) [72, 105, 32, 84, 104, 101, 114, 101]).getD 0 0 = 176 := by kernel_rfl
theorem hi_1 : (hmac (List.replicate 20 11) [72, 105, 32, 84, 104, 101, 114, 101]).getD 1 0 = 52 := by kernel_rfl
def rep (i : Nat) : List UInt8 := List.replicate i 11 ++ List.replicate (20 - i) 0
theorem rep_set (i : Nat) (h : i < 20) : (rep i).set i 11 = rep (i + 1) := by
  unfold rep
  rw [List.set_append_right _ _ (by simp), List.length_replicate, Nat.sub_self, show 20 - i = (20 - (i + 1)) + 1 by omega, List.replicate_succ, List.set_cons_zero, List.replicate_succ' (n := i)]
  simp
theorem framed_len (ps : List Sl) : (framed (ps.map Sl.l)).length = (cat ps).length + 8 * ps.length := by
  induction ps with
  | nil => rfl
  | cons p ps ih =>
    simp only [framed, cat, List.map_cons, List.flatMap_cons, List.length_append, be_len, List.length_cons] at *
    omega
theorem begun3_ret (w0 : World) :
    Ret Try.prog 47 [] w0 fun v w' => v = .bool true ∧ Hp w0 w' [] [] := by
  refine ret_mk Try.func47 rfl Try.ntmps47 (by simp) ?_
  have H := Hp.refl w0 []
  repeat refine c_seq ?_
  refine c_region ?_
  refine l_op (o_val (r_as) ?_)
  first | refine l_end ?_ | refine l_nil ?_
  repeat refine c_seq ?_
  refine c_region ?_
  refine l_op (o_makeB 20 H sl29 zc5 rfl rfl (by omega) (by omega) (by omega) (fun b1 w H hb1 => ?_))
  replace H : Hp w0 w [] ([.own (some b1) 20 20 ((List.replicate 20 (0 : UInt8)).map V8) 5 1]) := H
  refine l_op (o_val (r_as) ?_)
  first | refine l_end ?_ | refine l_nil ?_
  repeat refine c_seq ?_
  refine c_region ?_
  refine l_op (o_val (r_as) ?_)
  first | refine l_end ?_ | refine l_nil ?_
  repeat refine c_seq ?_
  refine c_block ?_
  repeat refine c_seq ?_
  refine c_loop (fun (i : Nat) => [(1, .slice (hd (some b1)) 20 20), (2, VI (i : Int))])
    (fun (i : Nat) w => (i ≤ 20) ∧ Hp w0 w [] ([.own (some b1) 20 20 ((rep i).map V8) 5 1]))
    (fun (i : Nat) => 20 - i) 0 ⟨rfl, rfl, trivial⟩ ⟨Nat.zero_le _, H⟩ ?_
  clear H
  rintro i τ w ⟨hi, H⟩
  repeat refine c_seq ?_
  refine c_region ?_
  refine l_op (o_val (r_mv) ?_)
  refine l_op (o_val (r_bin rfl rfl (fun _ => b_lss)) ?_)
  first | refine l_end ?_ | refine l_nil ?_
  by_cases hc2 : (i : Int) < 20
  · skip
    repeat refine c_seq ?_
    refine c_yes (by exact congrArg Value.bool (decide_eq_true hc2)) ?_
    refine c_skip ?_
    repeat refine c_seq ?_
    refine c_block ?_
    repeat refine c_seq ?_
    refine c_region ?_
    refine l_op (o_val (r_mv) ?_)
    refine l_op (o_val (r_mv) ?_)
    obtain ⟨ab3, ah4⟩ := H.ownAddr (i := 0) rfl (by omega)
    refine l_op (o_val (r_isN i rfl rfl el29 ah4 (by omega) (by (try dsimp only); omega)) ?_)
    refine l_op (o_stB (u := (11 : UInt8)) (k := i) H (i := 0) rfl rfl ah4 (c8 11 (by decide)) cs5 (by omega) (fun w H => ?_))
    replace H : Hp w0 w [] ([.own (some b1) 20 20 (((rep i).set i ((11 : UInt8))).map V8) 5 1]) := H
    first | refine l_end ?_ | refine l_nil ?_
    repeat refine c_seq ?_
    refine c_region ?_
    refine l_op (o_val (r_mv) ?_)
    refine l_op (o_val (r_bin rfl rfl (fun _ => b_add (by omega) (by omega))) ?_)
    refine l_op (o_val (r_as) ?_)
    first | refine l_end ?_ | refine l_nil ?_
    rw [show (11 : UInt8) = UInt8.ofNat 11 from rfl] at H
    rw [show UInt8.ofNat 11 = (11 : UInt8) from rfl, rep_set i (by omega)] at H
    refine round_end (i + 1) ?_ ?_ ?_
    · exact ⟨rfl, show VI ((i : Int) + 1) = VI ((i + 1 : Nat) : Int) from congrArg VI (by omega), trivial⟩
    · refine ⟨?_, ?_⟩
      · try dsimp only
        exact by omega
      · exact H
    · show 20 - (i + 1 : Nat) < 20 - i; omega
  · skip
    repeat refine c_seq ?_
    refine c_no (by exact congrArg Value.bool (decide_eq_false hc2)) ?_
    refine c_exit ?_
    have hi2 : i = 20 := by omega
    subst hi2
    rw [show rep 20 = List.replicate 20 11 by simp [rep]] at H
    replace H : Hp w0 w [] ([.own (some b1) 20 20 ((List.replicate 20 (11 : UInt8)).map V8) 5 1]) := H
    repeat refine c_seq ?_
    refine c_region ?_
    refine l_op (o_val (r_mv) ?_)
    refine l_op (o_bslB ([(72 : UInt8), (105 : UInt8), (32 : UInt8), (84 : UInt8), (104 : UInt8), (101 : UInt8), (114 : UInt8), (101 : UInt8)]) H sl29 zc5 rfl rfl (by decide) (fun b5 w H hb5 => ?_))
    replace H : Hp w0 w [] ([.own (some b1) 20 20 ((List.replicate 20 (11 : UInt8)).map V8) 5 1, .own (some b5) 8 8 (([(72 : UInt8), (105 : UInt8), (32 : UInt8), (84 : UInt8), (104 : UInt8), (101 : UInt8), (114 : UInt8), (101 : UInt8)]).map V8) 5 1]) := H
    replace H := H.toBlkB (i := 1) rfl
    refine l_op (o_lit H (i := 1) rfl Try.underlying29 Try.underlying5 rfl (fun w H => ?_))
    replace H : Hp w0 w [] ([.own (some b1) 20 20 ((List.replicate 20 (11 : UInt8)).map V8) 5 1, .obj b5 (litO (([(72 : UInt8), (105 : UInt8), (32 : UInt8), (84 : UInt8), (104 : UInt8), (101 : UInt8), (114 : UInt8), (101 : UInt8)]).map V8) 5)]) := H
    refine l_op (o_callR Try.func49 rfl rfl rfl (raw_ret _ ⟨hd (some b1), 20, 20, List.replicate 20 (11 : UInt8)⟩ (⟨some ⟨b5, 0, none⟩, 8, 8, [(72 : UInt8), (105 : UInt8), (32 : UInt8), (84 : UInt8), (104 : UInt8), (101 : UInt8), (114 : UInt8), (101 : UInt8)]⟩ : Sl) (H.slOwn (i := 0) rfl) (ok_lit H (i := 1) rfl rfl rfl (by decide) (by decide))) ?_)
    rintro _ w ⟨rfl, Hc⟩
    replace H : Hp w0 w [] ([.own (some b1) 20 20 ((List.replicate 20 (11 : UInt8)).map V8) 5 1, .obj b5 (litO (([(72 : UInt8), (105 : UInt8), (32 : UInt8), (84 : UInt8), (104 : UInt8), (101 : UInt8), (114 : UInt8), (101 : UInt8)]).map V8) 5)]) := H.call Hc
    clear Hc
    refine l_op (o_alloc H zc31 (fun b6 w H hb6 => ?_))
    replace H : Hp w0 w [] ([.own (some b1) 20 20 ((List.replicate 20 (11 : UInt8)).map V8) 5 1, .obj b5 (litO (([(72 : UInt8), (105 : UInt8), (32 : UInt8), (84 : UInt8), (104 : UInt8), (101 : UInt8), (114 : UInt8), (101 : UInt8)]).map V8) 5), .blk b6 ((List.replicate 32 (0 : UInt8)).map V8) 31]) := H
    refine l_op (o_stA (l' := hmac (List.replicate 20 (11 : UInt8)) ([(72 : UInt8), (105 : UInt8), (32 : UInt8), (84 : UInt8), (104 : UInt8), (101 : UInt8), (114 : UInt8), (101 : UInt8)])) H (i := 2) rfl rfl rfl cs31 (show (List.replicate 32 (0 : UInt8)).length = 32 from (List.length_replicate ..)) (show (hmac (List.replicate 20 (11 : UInt8)) ([(72 : UInt8), (105 : UInt8), (32 : UInt8), (84 : UInt8), (104 : UInt8), (101 : UInt8), (114 : UInt8), (101 : UInt8)])).length = 32 from hmac_len _ _) (fun w H => ?_))
    replace H : Hp w0 w [] ([.own (some b1) 20 20 ((List.replicate 20 (11 : UInt8)).map V8) 5 1, .obj b5 (litO (([(72 : UInt8), (105 : UInt8), (32 : UInt8), (84 : UInt8), (104 : UInt8), (101 : UInt8), (114 : UInt8), (101 : UInt8)]).map V8) 5), .blk b6 ((hmac (List.replicate 20 (11 : UInt8)) ([(72 : UInt8), (105 : UInt8), (32 : UInt8), (84 : UInt8), (104 : UInt8), (101 : UInt8), (114 : UInt8), (101 : UInt8)])).map V8) 31]) := H
    first | refine l_end ?_ | refine l_nil ?_
    repeat refine c_seq ?_
    refine c_region ?_
    refine l_op (o_val (r_iaN 0 rfl rfl ar31 (by omega) (by omega)) ?_)
    refine l_op (o_val (r_ldAB (k := 0) (l := hmac (List.replicate 20 (11 : UInt8)) ([(72 : UInt8), (105 : UInt8), (32 : UInt8), (84 : UInt8), (104 : UInt8), (101 : UInt8), (114 : UInt8), (101 : UInt8)])) H (i := 2) rfl rfl ct5 (by rw [(show (hmac (List.replicate 20 (11 : UInt8)) ([(72 : UInt8), (105 : UInt8), (32 : UInt8), (84 : UInt8), (104 : UInt8), (101 : UInt8), (114 : UInt8), (101 : UInt8)])).length = 32 from hmac_len _ _)]; omega)) ?_)
    refine l_op (o_val (r_bin rfl rfl (fun _ => b_eqlB true (decide_eq_true (by rw [hi_0]; rfl)))) ?_)
    refine l_op (o_val (r_mv) ?_)
    refine l_yes rfl rfl rfl (o_val (r_iaN 1 rfl rfl ar31 (by omega) (by omega)) ?_)
    refine l_yes rfl rfl rfl (o_val (r_ldAB (k := 1) (l := hmac (List.replicate 20 (11 : UInt8)) ([(72 : UInt8), (105 : UInt8), (32 : UInt8), (84 : UInt8), (104 : UInt8), (101 : UInt8), (114 : UInt8), (101 : UInt8)])) H (i := 2) rfl rfl ct5 (by rw [(show (hmac (List.replicate 20 (11 : UInt8)) ([(72 : UInt8), (105 : UInt8), (32 : UInt8), (84 : UInt8), (104 : UInt8), (101 : UInt8), (114 : UInt8), (101 : UInt8)])).length = 32 from hmac_len _ _)]; omega)) ?_)
    refine l_yes rfl rfl rfl (o_val (r_bin rfl rfl (fun _ => b_eqlB true (decide_eq_true (by rw [hi_1]; rfl)))) ?_)
    refine l_op (o_val (r_pick rfl) ?_)
    refine l_op (o_val (r_mv) ?_)
    refine l_yes rfl rfl rfl (o_callR Try.func48 rfl rfl rfl (equal_ret _ ⟨none, 0, 0, []⟩ ⟨none, 0, 0, []⟩ (Sl.ok_nil _) (Sl.ok_nil _)) ?_)
    rintro _ w ⟨rfl, Hc⟩
    replace H : Hp w0 w [] ([.own (some b1) 20 20 ((List.replicate 20 (11 : UInt8)).map V8) 5 1, .obj b5 (litO (([(72 : UInt8), (105 : UInt8), (32 : UInt8), (84 : UInt8), (104 : UInt8), (101 : UInt8), (114 : UInt8), (101 : UInt8)]).map V8) 5), .blk b6 ((hmac (List.replicate 20 (11 : UInt8)) ([(72 : UInt8), (105 : UInt8), (32 : UInt8), (84 : UInt8), (104 : UInt8), (101 : UInt8), (114 : UInt8), (101 : UInt8)])).map V8) 31]) := H.call Hc
    clear Hc
    have hk7 : (decide (([] : List UInt8) = ([] : List UInt8))) = true := decide_eq_true rfl
    refine l_op (o_val (r_pick rfl) ?_)
    refine l_op (o_val (r_mv) ?_)
    refine l_yes rfl rfl (by exact congrArg Value.bool hk7) (o_bslB ([(0 : UInt8)]) H sl29 zc5 rfl rfl (by decide) (fun b8 w H hb8 => ?_))
    replace H : Hp w0 w [] ([.own (some b1) 20 20 ((List.replicate 20 (11 : UInt8)).map V8) 5 1, .obj b5 (litO (([(72 : UInt8), (105 : UInt8), (32 : UInt8), (84 : UInt8), (104 : UInt8), (101 : UInt8), (114 : UInt8), (101 : UInt8)]).map V8) 5), .blk b6 ((hmac (List.replicate 20 (11 : UInt8)) ([(72 : UInt8), (105 : UInt8), (32 : UInt8), (84 : UInt8), (104 : UInt8), (101 : UInt8), (114 : UInt8), (101 : UInt8)])).map V8) 31, .own (some b8) 1 1 (([(0 : UInt8)]).map V8) 5 1]) := H
    refine l_yes rfl rfl (by exact congrArg Value.bool hk7) (o_callR Try.func48 rfl rfl rfl (equal_ret _ ⟨none, 0, 0, []⟩ ⟨hd (some b8), 1, 1, [(0 : UInt8)]⟩ (Sl.ok_nil _) (H.slOwn (i := 3) rfl)) ?_)
    rintro _ w ⟨rfl, Hc⟩
    replace H : Hp w0 w [] ([.own (some b1) 20 20 ((List.replicate 20 (11 : UInt8)).map V8) 5 1, .obj b5 (litO (([(72 : UInt8), (105 : UInt8), (32 : UInt8), (84 : UInt8), (104 : UInt8), (101 : UInt8), (114 : UInt8), (101 : UInt8)]).map V8) 5), .blk b6 ((hmac (List.replicate 20 (11 : UInt8)) ([(72 : UInt8), (105 : UInt8), (32 : UInt8), (84 : UInt8), (104 : UInt8), (101 : UInt8), (114 : UInt8), (101 : UInt8)])).map V8) 31, .own (some b8) 1 1 (([(0 : UInt8)]).map V8) 5 1]) := H.call Hc
    clear Hc
    have hk9 : (decide (([] : List UInt8) = [(0 : UInt8)])) = false := decide_eq_false (by simp)
    refine l_yes rfl rfl (by exact congrArg Value.bool hk7) (o_val (r_not rfl) ?_)
    refine l_op (o_val (r_pick (b := true) (congrArg Value.bool hk7)) ?_)
    refine l_op (o_val (r_as) ?_)
    first | refine l_end ?_ | refine l_nil ?_
    refine c_ret ?_
    try dsimp only [Exit.then, Exit.inBlock]
    refine e_ret1 (v := .bool (!(decide (([] : List UInt8) = [(0 : UInt8)])))) Try.results47 rfl ?_
    refine ⟨_, rfl, ?_⟩
    exact ⟨congrArg Value.bool (congrArg not hk9), H.sub (List.nil_sublist _)⟩
end Go.Proofs.Ytjmbbhnpfmblpaa
