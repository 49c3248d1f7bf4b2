import Derived.Test.YtjmbbhnpfmblpaaFrameB
/- layer 10: what stands at a beginning is read as the document has it. -/
namespace Go.Proofs.Ytjmbbhnpfmblpaa
open Go
set_option maxRecDepth 100000
theorem frameReads_ret (w0 : World) (s : Sl) (hs : s.ok w0) :
    Ret Try.prog 15 [s.v] w0 fun v w' => v = .bool true ∧ Hp w0 w' [] [] := by
  refine ret_mk Try.func15 rfl Try.ntmps15 (by simp) ?_
  have H := Hp.refl w0 []
  have hsl := hs.ln
  repeat refine c_seq ?_
  refine c_region ?_
  refine l_op (o_val (r_as) ?_)
  first | refine l_end ?_ | refine l_nil ?_
  repeat refine c_seq ?_
  refine c_region ?_
  refine l_op (o_callR Try.func58 rfl rfl rfl (begun10_ret _) ?_)
  rintro _ w ⟨rfl, Hc⟩
  replace H : Hp w0 w [] ([]) := H.call Hc
  clear Hc
  refine l_op (o_val (r_not rfl) ?_)
  first | refine l_end ?_ | refine l_nil ?_
  repeat refine c_seq ?_
  refine c_no rfl ?_
  refine c_skip ?_
  repeat refine c_seq ?_
  refine c_region ?_
  refine l_op (o_val (r_mv) ?_)
  refine l_op (o_val (r_lens el29 rfl) ?_)
  refine l_op (o_val (r_bin (a := (s.len : Int)) (b := 8192) rfl rfl (fun _ => b_gtr)) ?_)
  first | refine l_end ?_ | refine l_nil ?_
  by_cases hc1 : 8192 < (s.len : Int)
  · skip
    repeat refine c_seq ?_
    refine c_yes (by exact congrArg Value.bool (decide_eq_true hc1)) ?_
    repeat refine c_seq ?_
    refine c_region ?_
    refine l_op (o_val (r_as) ?_)
    first | refine l_end ?_ | refine l_nil ?_
    refine c_ret ?_
    try dsimp only [Exit.then, Exit.inBlock]
    refine e_ret1 (v := .bool true) Try.results15 rfl ?_
    refine ⟨_, rfl, ?_⟩
    exact ⟨rfl, H.sub (List.nil_sublist _)⟩
  · skip
    repeat refine c_seq ?_
    refine c_no (by exact congrArg Value.bool (decide_eq_false hc1)) ?_
    refine c_skip ?_
    repeat refine c_seq ?_
    refine c_region ?_
    refine l_op (o_val (r_mv) ?_)
    refine l_op (o_callR Try.func42 rfl rfl rfl (twin_ret _ s (hs.up H (fun _ => apart_nil _)) (by omega)) ?_)
    rintro _ w ⟨b2, rfl, Hc⟩
    replace H : Hp w0 w [] ([.blk b2 (tw s.l 3) 5]) := H.call Hc
    clear Hc
    refine l_op (o_val (r_as) ?_)
    first | refine l_end ?_ | refine l_nil ?_
    repeat refine c_seq ?_
    refine c_region ?_
    refine l_op (o_val (r_as) ?_)
    first | refine l_end ?_ | refine l_nil ?_
    repeat refine c_seq ?_
    refine c_block ?_
    repeat refine c_seq ?_
    refine c_loop (fun (i : Nat) => [(0, s.v), (3, (⟨some ⟨b2, 0, none⟩, s.len, s.len + 3, s.l⟩ : Sl).v), (4, VI (i : Int))])
      (fun (i : Nat) w => (i ≤ 2) ∧ Hp w0 w [] ([.blk b2 (tw s.l 3) 5]))
      (fun (i : Nat) => 2 - i) 0 ⟨rfl, rfl, rfl, trivial⟩ ⟨by omega, H⟩ ?_
    clear H
    rintro i τ w ⟨hi, H⟩
    repeat refine c_seq ?_
    refine c_region ?_
    refine l_op (o_val (r_mv) ?_)
    refine l_op (o_val (r_bin (a := (i : Int)) (b := 2) rfl rfl (fun _ => b_lss)) ?_)
    first | refine l_end ?_ | refine l_nil ?_
    by_cases hc3 : (i : Int) < 2
    · skip
      repeat refine c_seq ?_
      refine c_yes (by exact congrArg Value.bool (decide_eq_true hc3)) ?_
      refine c_skip ?_
      repeat refine c_seq ?_
      refine c_block ?_
      repeat refine c_seq ?_
      refine c_region ?_
      refine l_op (o_val (r_mv) ?_)
      refine l_op (o_callR Try.func63 rfl rfl rfl (ftake_ret _ (⟨some ⟨b2, 0, none⟩, s.len, s.len + 3, s.l⟩ : Sl) (kept_of_blk (H.has (.blk b2 (tw s.l 3) 5) (by simp)) s.len hsl (by omega)).ok (by (try simp only [Sl.cut]); omega)) ?_)
      rintro _ w ⟨a4, c5, rfl, Hc⟩
      replace H : Hp w0 w [] ([.blk b2 (tw s.l 3) 5, .own a4 ((takeF (s.l)).2.1.length) c5 (((takeF (s.l)).2.1).map V8) 5 1]) := H.call Hc
      clear Hc
      refine l_op (o_val (r_mv) ?_)
      refine l_op (o_val (r_ext rfl rfl) ?_)
      refine l_op (o_val (r_ext rfl rfl) ?_)
      refine l_op (o_val (r_ext rfl rfl) ?_)
      refine l_op (o_val (r_ext rfl rfl) ?_)
      refine l_op (o_alloc H zc31 (fun b6 w H hb6 => ?_))
      replace H : Hp w0 w [] ([.blk b2 (tw s.l 3) 5, .own a4 ((takeF (s.l)).2.1.length) c5 (((takeF (s.l)).2.1).map V8) 5 1, .blk b6 ((List.replicate 32 (0 : UInt8)).map V8) 31]) := H
      refine l_op (o_stA (l' := (takeF (s.l)).1) H (i := 2) rfl rfl rfl cs31 (show (List.replicate 32 (0 : UInt8)).length = 32 from (List.length_replicate ..)) (show ((takeF (s.l)).1).length = 32 from takeF_len _) (fun w H => ?_))
      replace H : Hp w0 w [] ([.blk b2 (tw s.l 3) 5, .own a4 ((takeF (s.l)).2.1.length) c5 (((takeF (s.l)).2.1).map V8) 5 1, .blk b6 (((takeF (s.l)).1).map V8) 31]) := H
      refine l_op (o_val (r_as) ?_)
      refine l_op (o_val (r_as) ?_)
      refine l_op (o_val (r_as) ?_)
      first | refine l_end ?_ | refine l_nil ?_
      repeat refine c_seq ?_
      refine c_region ?_
      refine l_op (o_val (r_mv) ?_)
      refine l_op (o_callR Try.func64 rfl rfl rfl (ftake10_ret _ s (hs.up H (fun _ => apart_nil _)) (by (try simp only [Sl.cut]); omega)) ?_)
      rintro _ w ⟨a7, c8, rfl, Hc⟩
      replace H : Hp w0 w [] ([.blk b2 (tw s.l 3) 5, .own a4 ((takeF (s.l)).2.1.length) c5 (((takeF (s.l)).2.1).map V8) 5 1, .blk b6 (((takeF (s.l)).1).map V8) 31, .own a7 ((takeF (s.l)).2.1.length) c8 (((takeF (s.l)).2.1).map V8) 5 1]) := H.call Hc
      clear Hc
      refine l_op (o_val (r_mv) ?_)
      refine l_op (o_val (r_ext rfl rfl) ?_)
      refine l_op (o_val (r_ext rfl rfl) ?_)
      refine l_op (o_val (r_ext rfl rfl) ?_)
      refine l_op (o_val (r_ext rfl rfl) ?_)
      refine l_op (o_alloc H zc31 (fun b9 w H hb9 => ?_))
      replace H : Hp w0 w [] ([.blk b2 (tw s.l 3) 5, .own a4 ((takeF (s.l)).2.1.length) c5 (((takeF (s.l)).2.1).map V8) 5 1, .blk b6 (((takeF (s.l)).1).map V8) 31, .own a7 ((takeF (s.l)).2.1.length) c8 (((takeF (s.l)).2.1).map V8) 5 1, .blk b9 ((List.replicate 32 (0 : UInt8)).map V8) 31]) := H
      refine l_op (o_stA (l' := (takeF (s.l)).1) H (i := 4) rfl rfl rfl cs31 (show (List.replicate 32 (0 : UInt8)).length = 32 from (List.length_replicate ..)) (show ((takeF (s.l)).1).length = 32 from takeF_len _) (fun w H => ?_))
      replace H : Hp w0 w [] ([.blk b2 (tw s.l 3) 5, .own a4 ((takeF (s.l)).2.1.length) c5 (((takeF (s.l)).2.1).map V8) 5 1, .blk b6 (((takeF (s.l)).1).map V8) 31, .own a7 ((takeF (s.l)).2.1.length) c8 (((takeF (s.l)).2.1).map V8) 5 1, .blk b9 (((takeF (s.l)).1).map V8) 31]) := H
      refine l_op (o_val (r_as) ?_)
      refine l_op (o_val (r_as) ?_)
      refine l_op (o_val (r_as) ?_)
      first | refine l_end ?_ | refine l_nil ?_
      repeat refine c_seq ?_
      refine c_region ?_
      refine l_op (o_val (r_ldAA (l := (takeF (s.l)).1) H (i := 2) rfl rfl rt31 (show ((takeF (s.l)).1).length = 32 from takeF_len _)) ?_)
      refine l_op (o_val (r_ldAA (l := (takeF (s.l)).1) H (i := 4) rfl rfl rt31 (show ((takeF (s.l)).1).length = 32 from takeF_len _)) ?_)
      refine l_op (o_val (r_nea (a := (takeF (s.l)).1) (b := (takeF (s.l)).1) Try.underlying31 Try.underlying5 cs5 rfl rfl (show ((takeF (s.l)).1).length = 32 from takeF_len _) (show ((takeF (s.l)).1).length = 32 from takeF_len _)) ?_)
      refine l_op (o_val (r_mv) ?_)
      refine l_yes rfl rfl (by exact congrArg Value.bool (congrArg not (decide_eq_true (rfl : (takeF (s.l)).1 = (takeF (s.l)).1)))) (o_val (r_mv) ?_)
      refine l_yes rfl rfl (by exact congrArg Value.bool (congrArg not (decide_eq_true (rfl : (takeF (s.l)).1 = (takeF (s.l)).1)))) (o_val (r_b2S (s := ⟨hd a4, (takeF (s.l)).2.1.length, c5, (takeF (s.l)).2.1⟩) Try.underlying29 Try.underlying5 Try.underlying9 rfl (H.slOwn (i := 1) rfl)) ?_)
      refine l_yes rfl rfl (by exact congrArg Value.bool (congrArg not (decide_eq_true (rfl : (takeF (s.l)).1 = (takeF (s.l)).1)))) (o_val (r_mv) ?_)
      refine l_yes rfl rfl (by exact congrArg Value.bool (congrArg not (decide_eq_true (rfl : (takeF (s.l)).1 = (takeF (s.l)).1)))) (o_val (r_b2S (s := ⟨hd a7, (takeF (s.l)).2.1.length, c8, (takeF (s.l)).2.1⟩) Try.underlying29 Try.underlying5 Try.underlying9 rfl (H.slOwn (i := 3) rfl)) ?_)
      refine l_yes rfl rfl (by exact congrArg Value.bool (congrArg not (decide_eq_true (rfl : (takeF (s.l)).1 = (takeF (s.l)).1)))) (o_val (r_strne (a := (takeF (s.l)).2.1) (b := (takeF (s.l)).2.1) rfl rfl) ?_)
      refine l_op (o_val (r_pick (b := false) (congrArg Value.bool (congrArg not (decide_eq_true (rfl : (takeF (s.l)).1 = (takeF (s.l)).1))))) ?_)
      refine l_op (o_val (r_mv) ?_)
      refine l_yes rfl rfl (by exact congrArg Value.bool (congrArg not (decide_eq_true (rfl : (takeF (s.l)).2.1 = (takeF (s.l)).2.1)))) (o_val (r_mv) ?_)
      refine l_yes rfl rfl (by exact congrArg Value.bool (congrArg not (decide_eq_true (rfl : (takeF (s.l)).2.1 = (takeF (s.l)).2.1)))) (o_val (r_mv) ?_)
      refine l_yes rfl rfl (by exact congrArg Value.bool (congrArg not (decide_eq_true (rfl : (takeF (s.l)).2.1 = (takeF (s.l)).2.1)))) (o_val (r_bin (a := (((takeF (s.l)).2.2.1 : Nat) : Int)) (b := (((takeF (s.l)).2.2.1 : Nat) : Int)) rfl rfl (fun _ => b_neqB false (decide_eq_false (fun h => h rfl)))) ?_)
      refine l_op (o_val (r_pick (b := false) (congrArg Value.bool (congrArg not (decide_eq_true (rfl : (takeF (s.l)).2.1 = (takeF (s.l)).2.1))))) ?_)
      refine l_op (o_val (r_mv) ?_)
      refine l_yes rfl rfl rfl (o_val (r_mv) ?_)
      refine l_yes rfl rfl rfl (o_val (r_mv) ?_)
      refine l_yes rfl rfl rfl (o_val (r_bin (a := (((takeF (s.l)).2.2.2 : Nat) : Int)) (b := (((takeF (s.l)).2.2.2 : Nat) : Int)) rfl rfl (fun _ => b_neqB false (decide_eq_false (fun h => h rfl)))) ?_)
      refine l_op (o_val (r_pick rfl) ?_)
      refine l_op (o_val (r_mv) ?_)
      refine l_yes rfl rfl rfl (o_val (r_mv) ?_)
      refine l_yes rfl rfl rfl (o_val (r_mv) ?_)
      refine l_yes rfl rfl rfl (o_callR Try.func54 rfl rfl rfl (kept_ret _ (⟨some ⟨b2, 0, none⟩, s.len, s.len + 3, s.l⟩ : Sl) s (kept_of_blk (H.has (.blk b2 (tw s.l 3) 5) (by simp)) s.len hsl (by omega)) (hs.up H (fun _ => apart_nil _)) rfl (by (try dsimp only); omega)) ?_)
      rintro _ w ⟨rfl, Hc⟩
      replace H : Hp w0 w [] ([.blk b2 (tw s.l 3) 5, .own a4 ((takeF (s.l)).2.1.length) c5 (((takeF (s.l)).2.1).map V8) 5 1, .blk b6 (((takeF (s.l)).1).map V8) 31, .own a7 ((takeF (s.l)).2.1.length) c8 (((takeF (s.l)).2.1).map V8) 5 1, .blk b9 (((takeF (s.l)).1).map V8) 31]) := H.call Hc
      clear Hc
      refine l_yes rfl rfl rfl (o_val (r_not rfl) ?_)
      refine l_op (o_val (r_pick rfl) ?_)
      first | refine l_end ?_ | refine l_nil ?_
      repeat refine c_seq ?_
      refine c_no rfl ?_
      refine c_skip ?_
      repeat refine c_seq ?_
      refine c_region ?_
      refine l_op (o_val (r_mv) ?_)
      refine l_op (o_callR Try.func43 rfl rfl rfl (spoilOwn_ret H (i := 1) rfl) ?_)
      rintro _ w ⟨rfl, Hc⟩
      clear H
      have H := Hc; clear Hc
      replace H : Hp w0 w [] ([.blk b2 (tw s.l 3) 5, .own a4 ((takeF (s.l)).2.1.length) c5 ((List.replicate ((takeF (s.l)).2.1.length) (90 : UInt8)).map V8) 5 1, .blk b6 (((takeF (s.l)).1).map V8) 31, .own a7 ((takeF (s.l)).2.1.length) c8 (((takeF (s.l)).2.1).map V8) 5 1, .blk b9 (((takeF (s.l)).1).map V8) 31]) := H
      first | refine l_end ?_ | refine l_nil ?_
      repeat refine c_seq ?_
      refine c_region ?_
      refine l_op (o_val (r_mv) ?_)
      refine l_op (o_val (r_bin (a := (i : Int)) (b := 1) rfl rfl (fun _ => b_add (by omega) (by omega))) ?_)
      refine l_op (o_val (r_as) ?_)
      first | refine l_end ?_ | refine l_nil ?_
      refine round_end (i + 1) ?_ ?_ ?_
      · exact ⟨rfl, rfl, show VI ((i : Int) + 1) = VI ((i + 1 : Nat) : Int) from congrArg VI (by omega), trivial⟩
      · refine ⟨?_, ?_⟩
        · try dsimp only
          exact by omega
        · exact H.sub (.cons_cons _ (List.nil_sublist _))
      · show 2 - (i + 1 : Nat) < 2 - i; omega
    · skip
      repeat refine c_seq ?_
      refine c_no (by exact congrArg Value.bool (decide_eq_false hc3)) ?_
      refine c_exit ?_
      repeat refine c_seq ?_
      refine c_region ?_
      refine l_op (o_val (r_as) ?_)
      first | refine l_end ?_ | refine l_nil ?_
      refine c_ret ?_
      try dsimp only [Exit.then, Exit.inBlock]
      refine e_ret1 (v := .bool true) Try.results15 rfl ?_
      refine ⟨_, rfl, ?_⟩
      exact ⟨rfl, H.sub (List.nil_sublist _)⟩
end Go.Proofs.Ytjmbbhnpfmblpaa
