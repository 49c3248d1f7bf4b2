import Derived.Test.YtjmbbhnpfmblpaaMacB
/- layer 3: keys of every length about a block. -/
namespace Go.Proofs.Ytjmbbhnpfmblpaa
open Go
set_option maxRecDepth 100000
theorem macKeys_ret (w0 : World) (n : Int) (x : UInt8) (s : Sl) (hs : s.ok w0) :
    Ret Try.prog 10 [VI n, V8 x, s.v] w0 fun v w' => v = .bool true ∧ Hp w0 w' [] [] := by
  refine ret_mk Try.func10 rfl Try.ntmps10 (by simp) ?_
  have H := Hp.refl w0 []
  have hsl := hs.ln
  repeat refine c_seq ?_
  refine c_region ?_
  refine l_op (o_val (r_as) ?_)
  first | refine l_end ?_ | refine l_nil ?_
  repeat refine c_seq ?_
  refine c_region ?_
  refine l_op (o_callR Try.func47 rfl rfl rfl (begun3_ret _) ?_)
  rintro _ w ⟨rfl, Hc⟩
  replace H : Hp w0 w [] ([]) := H.call Hc
  clear Hc
  refine l_op (o_val (r_not rfl) ?_)
  first | refine l_end ?_ | refine l_nil ?_
  repeat refine c_seq ?_
  refine c_no rfl ?_
  refine c_skip ?_
  repeat refine c_seq ?_
  refine c_region ?_
  refine l_op (o_val (r_mv) ?_)
  refine l_op (o_val (r_lens el29 rfl) ?_)
  refine l_op (o_val (r_bin rfl rfl (fun _ => b_gtr)) ?_)
  first | refine l_end ?_ | refine l_nil ?_
  by_cases hc1 : 1024 < (s.len : Int)
  · skip
    repeat refine c_seq ?_
    refine c_yes (by exact congrArg Value.bool (decide_eq_true hc1)) ?_
    repeat refine c_seq ?_
    refine c_region ?_
    refine l_op (o_val (r_as) ?_)
    first | refine l_end ?_ | refine l_nil ?_
    refine c_ret ?_
    try dsimp only [Exit.then, Exit.inBlock]
    refine e_ret1 (v := .bool true) Try.results10 rfl ?_
    refine ⟨_, rfl, ?_⟩
    exact ⟨rfl, H.sub (List.nil_sublist _)⟩
  · skip
    repeat refine c_seq ?_
    refine c_no (by exact congrArg Value.bool (decide_eq_false hc1)) ?_
    refine c_skip ?_
    repeat refine c_seq ?_
    refine c_region ?_
    refine l_op (o_val (r_mv) ?_)
    refine l_op (o_callR Try.func44 rfl rfl rfl (place_ret _ n 201 (by omega) (by omega)) ?_)
    rintro _ w' ⟨m2, rfl, hm3, hw4⟩
    rw [hw4]; clear hw4 w'
    refine l_op (o_makeB m2 H sl29 zc5 rfl rfl (by omega) (by omega) (by omega) (fun b5 w H hb5 => ?_))
    replace H : Hp w0 w [] ([.own (some b5) m2 m2 ((List.replicate m2 (0 : UInt8)).map V8) 5 1]) := H
    refine l_op (o_val (r_as) ?_)
    first | refine l_end ?_ | refine l_nil ?_
    repeat refine c_seq ?_
    refine c_region ?_
    refine l_op (o_val (r_as) ?_)
    first | refine l_end ?_ | refine l_nil ?_
    repeat refine c_seq ?_
    refine c_block ?_
    repeat refine c_seq ?_
    refine c_loop2 (fun (i : Nat) (l : List UInt8) => [(1, V8 x), (2, s.v), (7, .slice (hd (some b5)) m2 m2), (8, VI (i : Int))])
      (fun (i : Nat) (l : List UInt8) w => (i ≤ m2) ∧ Hp w0 w [] ([.own (some b5) m2 m2 ((l).map V8) 5 1]))
      (fun (i : Nat) (l : List UInt8) => m2 - i) 0 (List.replicate m2 (0 : UInt8)) ⟨rfl, rfl, rfl, rfl, trivial⟩ ⟨Nat.zero_le _, H⟩ ?_
    clear H
    rintro i l τ w ⟨hi, H⟩
    repeat refine c_seq ?_
    refine c_region ?_
    refine l_op (o_val (r_mv) ?_)
    refine l_op (o_val (r_mv) ?_)
    refine l_op (o_val (r_lens el29 rfl) ?_)
    refine l_op (o_val (r_bin rfl rfl (fun _ => b_lss)) ?_)
    first | refine l_end ?_ | refine l_nil ?_
    by_cases hc6 : (i : Int) < (m2 : Int)
    · skip
      repeat refine c_seq ?_
      refine c_yes (by exact congrArg Value.bool (decide_eq_true hc6)) ?_
      refine c_skip ?_
      repeat refine c_seq ?_
      refine c_block ?_
      repeat refine c_seq ?_
      refine c_region ?_
      refine l_op (o_val (r_mv) ?_)
      refine l_op (o_val (r_mv) ?_)
      refine l_op (o_val (r_mv) ?_)
      refine l_op (o_val (r_mv) ?_)
      refine l_op (o_val (r_conv (v := ((UInt8.ofNat i).toNat : Int)) Try.underlying3 Try.underlying5 rfl (w_u8_N i (by omega))) ?_)
      refine l_op (o_val (r_bin rfl rfl (fun _ => b_xor_u8)) ?_)
      obtain ⟨ab7, ah8⟩ := H.ownAddr (i := 0) rfl (by omega)
      refine l_op (o_val (r_isN i rfl rfl el29 ah8 (by omega) (by (try dsimp only); omega)) ?_)
      refine l_op (o_stB (u := x ^^^ (UInt8.ofNat i)) (k := i) H (i := 0) rfl rfl ah8 rfl cs5 (by omega) (fun w H => ?_))
      replace H : Hp w0 w [] ([.own (some b5) m2 m2 (((l).set i (x ^^^ (UInt8.ofNat i))).map V8) 5 1]) := H
      first | refine l_end ?_ | refine l_nil ?_
      repeat refine c_seq ?_
      refine c_region ?_
      refine l_op (o_val (r_mv) ?_)
      refine l_op (o_val (r_bin rfl rfl (fun _ => b_add (by omega) (by omega))) ?_)
      refine l_op (o_val (r_as) ?_)
      first | refine l_end ?_ | refine l_nil ?_
      refine round_end (i + 1, (l).set i (x ^^^ (UInt8.ofNat i))) ?_ ?_ ?_
      · exact ⟨rfl, rfl, rfl, show VI ((i : Int) + 1) = VI ((i + 1 : Nat) : Int) from congrArg VI (by omega), trivial⟩
      · refine ⟨?_, ?_⟩
        · try dsimp only
          exact by omega
        · exact H
      · show m2 - (i + 1 : Nat) < m2 - i; omega
    · skip
      repeat refine c_seq ?_
      refine c_no (by exact congrArg Value.bool (decide_eq_false hc6)) ?_
      refine c_exit ?_
      repeat refine c_seq ?_
      refine c_region ?_
      refine l_op (o_val (r_mv) ?_)
      refine l_op (o_val (r_mv) ?_)
      refine l_op (o_callR Try.func49 rfl rfl rfl (raw_ret _ ⟨hd (some b5), m2, m2, l⟩ s (H.slOwn (i := 0) rfl) (hs.up H (fun _ => apart_nil _))) ?_)
      rintro _ w ⟨rfl, Hc⟩
      replace H : Hp w0 w [] ([.own (some b5) m2 m2 ((l).map V8) 5 1]) := H.call Hc
      clear Hc
      refine l_op (o_val (r_mv) ?_)
      refine l_op (o_val (r_mv) ?_)
      refine l_op (o_callR Try.func50 rfl rfl rfl (raw3_ret _ ⟨hd (some b5), m2, m2, l⟩ s (H.slOwn (i := 0) rfl) (hs.up H (fun _ => apart_nil _)) (by (try dsimp only); omega) (by (try dsimp only); omega)) ?_)
      rintro _ w ⟨rfl, Hc⟩
      replace H : Hp w0 w [] ([.own (some b5) m2 m2 ((l).map V8) 5 1]) := H.call Hc
      clear Hc
      refine l_op (o_val (r_eqa (a := hmac (l) (s.l)) (b := hmac (l) (s.l)) Try.underlying31 Try.underlying5 cs5 rfl rfl (show (hmac (l) (s.l)).length = 32 from hmac_len _ _) (show (hmac (l) (s.l)).length = 32 from hmac_len _ _)) ?_)
      have hk9 : (decide (hmac (l) (s.l) = hmac (l) (s.l))) = true := decide_eq_true rfl
      refine l_op (o_val (r_as) ?_)
      first | refine l_end ?_ | refine l_nil ?_
      refine c_ret ?_
      try dsimp only [Exit.then, Exit.inBlock]
      refine e_ret1 (v := .bool (decide (hmac (l) (s.l) = hmac (l) (s.l)))) Try.results10 rfl ?_
      refine ⟨_, rfl, ?_⟩
      exact ⟨congrArg Value.bool hk9, H.sub (List.nil_sublist _)⟩
end Go.Proofs.Ytjmbbhnpfmblpaa
