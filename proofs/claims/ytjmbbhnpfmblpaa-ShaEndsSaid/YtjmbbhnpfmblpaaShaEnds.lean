import Derived.Test.YtjmbbhnpfmblpaaLaw0b
/- layer 2: texts of every length about the ends of blocks are hashed as the document has it. -/
namespace Go.Proofs.Ytjmbbhnpfmblpaa
open Go
set_option maxRecDepth 100000
theorem shaEnds_ret (w0 : World) (n : Int) (y : UInt8) :
    Ret Try.prog 6 [VI n, V8 y] w0 fun v w' => v = .bool true ∧ Hp w0 w' [] [] := by
  refine ret_mk Try.func6 rfl Try.ntmps6 (by simp) ?_
  have H := Hp.refl w0 []
  repeat refine c_seq ?_
  refine c_region ?_
  refine l_op (o_val (r_as) ?_)
  first | refine l_end ?_ | refine l_nil ?_
  repeat refine c_seq ?_
  refine c_region ?_
  refine l_op (o_callR Try.func31 rfl rfl rfl (begun2_ret _) ?_)
  rintro _ w ⟨rfl, Hc⟩
  replace H : Hp w0 w [] ([]) := H.call Hc
  clear Hc
  refine l_op (o_val (r_not rfl) ?_)
  first | refine l_end ?_ | refine l_nil ?_
  repeat refine c_seq ?_
  refine c_no rfl ?_
  refine c_skip ?_
  repeat refine c_seq ?_
  refine c_region ?_
  refine l_op (o_val (r_mv) ?_)
  refine l_op (o_callR Try.func44 rfl rfl rfl (place_ret _ n 401 (by omega) (by omega)) ?_)
  rintro _ w' ⟨m1, rfl, hm2, hw3⟩
  rw [hw3]; clear hw3 w'
  refine l_op (o_makeB m1 H sl29 zc5 rfl rfl (by omega) (by omega) (by omega) (fun b4 w H hb4 => ?_))
  replace H : Hp w0 w [] ([.own (some b4) m1 m1 ((List.replicate m1 (0 : UInt8)).map V8) 5 1]) := H
  refine l_op (o_val (r_as) ?_)
  first | refine l_end ?_ | refine l_nil ?_
  repeat refine c_seq ?_
  refine c_region ?_
  refine l_op (o_val (r_as) ?_)
  first | refine l_end ?_ | refine l_nil ?_
  repeat refine c_seq ?_
  refine c_block ?_
  repeat refine c_seq ?_
  refine c_loop2 (fun (i : Nat) (l : List UInt8) => [(1, V8 y), (5, .slice (hd (some b4)) m1 m1), (6, VI (i : Int))])
    (fun (i : Nat) (l : List UInt8) w => (i ≤ m1) ∧ Hp w0 w [] ([.own (some b4) m1 m1 ((l).map V8) 5 1]))
    (fun (i : Nat) (l : List UInt8) => m1 - i) 0 (List.replicate m1 (0 : UInt8)) ⟨rfl, rfl, rfl, trivial⟩ ⟨Nat.zero_le _, H⟩ ?_
  clear H
  rintro i l τ w ⟨hi, H⟩
  repeat refine c_seq ?_
  refine c_region ?_
  refine l_op (o_val (r_mv) ?_)
  refine l_op (o_val (r_mv) ?_)
  refine l_op (o_val (r_lens el29 rfl) ?_)
  refine l_op (o_val (r_bin rfl rfl (fun _ => b_lss)) ?_)
  first | refine l_end ?_ | refine l_nil ?_
  by_cases hc5 : (i : Int) < (m1 : Int)
  · skip
    repeat refine c_seq ?_
    refine c_yes (by exact congrArg Value.bool (decide_eq_true hc5)) ?_
    refine c_skip ?_
    repeat refine c_seq ?_
    refine c_block ?_
    repeat refine c_seq ?_
    refine c_region ?_
    refine l_op (o_val (r_mv) ?_)
    refine l_op (o_val (r_mv) ?_)
    refine l_op (o_val (r_mv) ?_)
    refine l_op (o_val (r_mv) ?_)
    refine l_op (o_val (r_conv (v := ((UInt8.ofNat i).toNat : Int)) Try.underlying3 Try.underlying5 rfl (w_u8_N i (by omega))) ?_)
    refine l_op (o_val (r_bin rfl rfl (fun _ => b_add_u8)) ?_)
    obtain ⟨ab6, ah7⟩ := H.ownAddr (i := 0) rfl (by omega)
    refine l_op (o_val (r_isN i rfl rfl el29 ah7 (by omega) (by (try dsimp only); omega)) ?_)
    refine l_op (o_stB (u := y + (UInt8.ofNat i)) (k := i) H (i := 0) rfl rfl ah7 rfl cs5 (by omega) (fun w H => ?_))
    replace H : Hp w0 w [] ([.own (some b4) m1 m1 (((l).set i (y + (UInt8.ofNat i))).map V8) 5 1]) := H
    first | refine l_end ?_ | refine l_nil ?_
    repeat refine c_seq ?_
    refine c_region ?_
    refine l_op (o_val (r_mv) ?_)
    refine l_op (o_val (r_bin rfl rfl (fun _ => b_add (by omega) (by omega))) ?_)
    refine l_op (o_val (r_as) ?_)
    first | refine l_end ?_ | refine l_nil ?_
    refine round_end (i + 1, (l).set i (y + (UInt8.ofNat i))) ?_ ?_ ?_
    · exact ⟨rfl, rfl, show VI ((i : Int) + 1) = VI ((i + 1 : Nat) : Int) from congrArg VI (by omega), trivial⟩
    · refine ⟨?_, ?_⟩
      · try dsimp only
        exact by omega
      · exact H
    · show m1 - (i + 1 : Nat) < m1 - i; omega
  · skip
    repeat refine c_seq ?_
    refine c_no (by exact congrArg Value.bool (decide_eq_false hc5)) ?_
    refine c_exit ?_
    repeat refine c_seq ?_
    refine c_region ?_
    refine l_op (o_val (r_mv) ?_)
    refine l_op (o_bslV ([.slice (hd (some b4)) m1 m1]) H sl22 zc29 rfl (by simp [Value.oneCell', Sl.v]) rfl (by decide) (fun b8 w H hb8 => ?_))
    replace H : Hp w0 w [] ([.own (some b4) m1 m1 ((l).map V8) 5 1, .own (some b8) 1 1 ([.slice (hd (some b4)) m1 m1]) 29 1]) := H
    refine l_op (o_callR Try.func37 rfl rfl rfl (sha1_ret _ _ (⟨hd (some b4), m1, m1, l⟩) (H.own (i := 1) rfl) (H.slOwn (i := 0) rfl)) ?_)
    rintro _ w ⟨rfl, Hc⟩
    replace H : Hp w0 w [] ([.own (some b4) m1 m1 ((l).map V8) 5 1, .own (some b8) 1 1 ([.slice (hd (some b4)) m1 m1]) 29 1]) := H.call Hc
    clear Hc
    refine l_op (o_val (r_mv) ?_)
    refine l_op (o_callR Try.func45 rfl rfl rfl (sum2_ret _ ⟨hd (some b4), m1, m1, l⟩ (H.slOwn (i := 0) rfl) (by (try dsimp only); omega)) ?_)
    rintro _ w ⟨rfl, Hc⟩
    replace H : Hp w0 w [] ([.own (some b4) m1 m1 ((l).map V8) 5 1, .own (some b8) 1 1 ([.slice (hd (some b4)) m1 m1]) 29 1]) := H.call Hc
    clear Hc
    refine l_op (o_val (r_eqa (a := sha256 (l)) (b := sha256 (l)) Try.underlying31 Try.underlying5 cs5 rfl rfl (show (sha256 (l)).length = 32 from sha256_len _) (show (sha256 (l)).length = 32 from sha256_len _)) ?_)
    have hk9 : (decide (sha256 (l) = sha256 (l))) = true := decide_eq_true rfl
    refine l_op (o_val (r_as) ?_)
    first | refine l_end ?_ | refine l_nil ?_
    refine c_ret ?_
    try dsimp only [Exit.then, Exit.inBlock]
    refine e_ret1 (v := .bool (decide (sha256 (l) = sha256 (l)))) Try.results6 rfl ?_
    refine ⟨_, rfl, ?_⟩
    exact ⟨congrArg Value.bool hk9, H.sub (List.nil_sublist _)⟩
end Go.Proofs.Ytjmbbhnpfmblpaa
