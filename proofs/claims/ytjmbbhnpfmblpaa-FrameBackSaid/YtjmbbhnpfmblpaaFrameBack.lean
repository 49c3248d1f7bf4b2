import Derived.Test.YtjmbbhnpfmblpaaFrameB
/- layer 10: a frame is read as it was written. -/
namespace Go.Proofs.Ytjmbbhnpfmblpaa
open Go
set_option maxRecDepth 100000
theorem frameBack_ret (w0 : World) (key : List UInt8) (s u : Sl) (n : Int) (hk : key.length = 32) (hs : s.ok w0) (hu : u.ok w0) :
    Ret Try.prog 16 [.agg ((key).map V8).toArray, s.v, u.v, VI n] w0 fun v w' => v = .bool true ∧ Hp w0 w' [] [] := by
  refine ret_mk Try.func16 rfl Try.ntmps16 (by simp) ?_
  have H := Hp.refl w0 []
  have hsl := hs.ln
  have hul := hu.ln
  repeat refine c_seq ?_
  refine c_region ?_
  refine l_op (o_box (v := .agg ((key).map V8).toArray) H rfl (fun b1 w H hb1 => ?_))
  replace H : Hp w0 w [] ([.blk b1 ((key).map V8) 31]) := H
  refine l_op (o_val (r_as) ?_)
  first | refine l_end ?_ | refine l_nil ?_
  repeat refine c_seq ?_
  refine c_region ?_
  refine l_op (o_callR Try.func58 rfl rfl rfl (begun10_ret _) ?_)
  rintro _ w ⟨rfl, Hc⟩
  replace H : Hp w0 w [] ([.blk b1 ((key).map V8) 31]) := H.call Hc
  clear Hc
  refine l_op (o_val (r_not rfl) ?_)
  first | refine l_end ?_ | refine l_nil ?_
  repeat refine c_seq ?_
  refine c_no rfl ?_
  refine c_skip ?_
  repeat refine c_seq ?_
  refine c_region ?_
  refine l_op (o_val (r_mv) ?_)
  refine l_op (o_val (r_lens el29 rfl) ?_)
  refine l_op (o_val (r_bin (a := (s.len : Int)) (b := 4200) rfl rfl (fun _ => b_gtr)) ?_)
  refine l_op (o_val (r_mv) ?_)
  by_cases hc2 : 4200 < (s.len : Int)
  · skip
    refine l_no rfl rfl (by exact congrArg Value.bool (decide_eq_true hc2)) rfl ?_
    refine l_no rfl rfl (by exact congrArg Value.bool (decide_eq_true hc2)) rfl ?_
    refine l_no rfl rfl (by exact congrArg Value.bool (decide_eq_true hc2)) rfl ?_
    refine l_op (o_val (r_pick (b := true) (congrArg Value.bool (decide_eq_true hc2))) ?_)
    first | refine l_end ?_ | refine l_nil ?_
    repeat refine c_seq ?_
    refine c_yes rfl ?_
    repeat refine c_seq ?_
    refine c_region ?_
    refine l_op (o_val (r_as) ?_)
    first | refine l_end ?_ | refine l_nil ?_
    refine c_ret ?_
    try dsimp only [Exit.then, Exit.inBlock]
    refine e_ret1 (v := .bool true) Try.results16 rfl ?_
    refine ⟨_, rfl, ?_⟩
    exact ⟨rfl, H.sub (List.nil_sublist _)⟩
  · skip
    refine l_yes rfl rfl (by exact congrArg Value.bool (decide_eq_false hc2)) (o_val (r_mv) ?_)
    refine l_yes rfl rfl (by exact congrArg Value.bool (decide_eq_false hc2)) (o_val (r_lens el29 rfl) ?_)
    refine l_yes rfl rfl (by exact congrArg Value.bool (decide_eq_false hc2)) (o_val (r_bin (a := (u.len : Int)) (b := 4096) rfl rfl (fun _ => b_gtr)) ?_)
    refine l_op (o_val (r_pick (b := false) (congrArg Value.bool (decide_eq_false hc2))) ?_)
    first | refine l_end ?_ | refine l_nil ?_
    by_cases hc3 : 4096 < (u.len : Int)
    · skip
      repeat refine c_seq ?_
      refine c_yes (by exact congrArg Value.bool (decide_eq_true hc3)) ?_
      repeat refine c_seq ?_
      refine c_region ?_
      refine l_op (o_val (r_as) ?_)
      first | refine l_end ?_ | refine l_nil ?_
      refine c_ret ?_
      try dsimp only [Exit.then, Exit.inBlock]
      refine e_ret1 (v := .bool true) Try.results16 rfl ?_
      refine ⟨_, rfl, ?_⟩
      exact ⟨rfl, H.sub (List.nil_sublist _)⟩
    · skip
      repeat refine c_seq ?_
      refine c_no (by exact congrArg Value.bool (decide_eq_false hc3)) ?_
      refine c_skip ?_
      repeat refine c_seq ?_
      refine c_region ?_
      refine l_op (o_val (r_ldAA (l := key) H (i := 0) rfl rfl rt31 (show (key).length = 32 from hk)) ?_)
      refine l_op (o_val (r_mv) ?_)
      have hk4 : (s.len ≤ 4200) := by omega
      refine l_op (o_callR Try.func59 rfl rfl rfl (fput_ok _ (key) (show (key).length = 32 from hk) s (hs.up H (fun _ => apart_nil _)) (by (try dsimp only); omega)) ?_)
      rintro _ w ⟨a5, c6, rfl, Hc⟩
      replace H : Hp w0 w [] ([.blk b1 ((key).map V8) 31, .own a5 (46 + s.len) c6 ((putF (key) (s.l)).map V8) 5 1]) := H.call Hc
      clear Hc
      refine l_op (o_val (r_mv) ?_)
      refine l_op (o_val (r_ext rfl rfl) ?_)
      refine l_op (o_val (r_ext rfl rfl) ?_)
      refine l_op (o_val (r_as) ?_)
      refine l_op (o_val (r_as) ?_)
      first | refine l_end ?_ | refine l_nil ?_
      repeat refine c_seq ?_
      refine c_region ?_
      refine l_op (o_val (r_mv) ?_)
      refine l_op (o_val (r_lens el29 rfl) ?_)
      refine l_op (o_val (r_as) ?_)
      first | refine l_end ?_ | refine l_nil ?_
      repeat refine c_seq ?_
      refine c_region ?_
      refine l_op (o_bslB (([] : List UInt8)) H sl29 zc5 rfl rfl (by decide) (fun b7 w H hb7 => ?_))
      replace H : Hp w0 w [] ([.blk b1 ((key).map V8) 31, .own a5 (46 + s.len) c6 ((putF (key) (s.l)).map V8) 5 1, .own (some b7) 0 0 ((([] : List UInt8)).map V8) 5 1]) := H
      refine l_op (o_val (r_mv) ?_)
      refine l_op (o_appB (s := ⟨hd a5, 46 + s.len, c6, putF (key) (s.l)⟩) (l' := putF (key) (s.l)) (len' := 46 + s.len) rfl (Nat.zero_add _) H (i := 2) rfl sl29 Try.underlying29 rfl rfl (H.slOwn (i := 1) rfl) (by omega) (fun a8 c9 w H => ?_))
      replace H : Hp w0 w [] ([.blk b1 ((key).map V8) 31, .own a5 (46 + s.len) c6 ((putF (key) (s.l)).map V8) 5 1, .own a8 (46 + s.len) c9 ((putF (key) (s.l)).map V8) 5 1]) := H
      refine l_op (o_val (r_mv) ?_)
      refine l_op (o_appB (s := u) (l' := putF (key) (s.l) ++ u.l) (len' := 46 + s.len + u.len) rfl rfl H (i := 2) rfl sl29 Try.underlying29 rfl rfl (hu.up H (fun _ => apart_nil _)) (by omega) (fun a10 c11 w H => ?_))
      replace H : Hp w0 w [] ([.blk b1 ((key).map V8) 31, .own a5 (46 + s.len) c6 ((putF (key) (s.l)).map V8) 5 1, .own a10 (46 + s.len + u.len) c11 ((putF (key) (s.l) ++ u.l).map V8) 5 1]) := H
      refine l_op (o_callR Try.func63 rfl rfl rfl (ftake_ret _ ⟨hd a10, 46 + s.len + u.len, c11, putF (key) (s.l) ++ u.l⟩ (H.slOwn (i := 2) rfl) (by (try simp only [Sl.cut]); omega)) ?_)
      rintro _ w ⟨a12, c13, rfl, Hc⟩
      replace H : Hp w0 w [] ([.blk b1 ((key).map V8) 31, .own a5 (46 + s.len) c6 ((putF (key) (s.l)).map V8) 5 1, .own a10 (46 + s.len + u.len) c11 ((putF (key) (s.l) ++ u.l).map V8) 5 1, .own a12 ((takeF (putF (key) (s.l) ++ u.l)).2.1.length) c13 (((takeF (putF (key) (s.l) ++ u.l)).2.1).map V8) 5 1]) := H.call Hc
      clear Hc
      refine l_op (o_val (r_mv) ?_)
      refine l_op (o_val (r_ext rfl rfl) ?_)
      refine l_op (o_val (r_ext rfl rfl) ?_)
      refine l_op (o_val (r_ext rfl rfl) ?_)
      refine l_op (o_val (r_ext rfl rfl) ?_)
      refine l_op (o_alloc H zc31 (fun b14 w H hb14 => ?_))
      replace H : Hp w0 w [] ([.blk b1 ((key).map V8) 31, .own a5 (46 + s.len) c6 ((putF (key) (s.l)).map V8) 5 1, .own a10 (46 + s.len + u.len) c11 ((putF (key) (s.l) ++ u.l).map V8) 5 1, .own a12 ((takeF (putF (key) (s.l) ++ u.l)).2.1.length) c13 (((takeF (putF (key) (s.l) ++ u.l)).2.1).map V8) 5 1, .blk b14 ((List.replicate 32 (0 : UInt8)).map V8) 31]) := H
      refine l_op (o_stA (l' := (takeF (putF (key) (s.l) ++ u.l)).1) H (i := 4) rfl rfl rfl cs31 (show (List.replicate 32 (0 : UInt8)).length = 32 from (List.length_replicate ..)) (show ((takeF (putF (key) (s.l) ++ u.l)).1).length = 32 from takeF_len _) (fun w H => ?_))
      replace H : Hp w0 w [] ([.blk b1 ((key).map V8) 31, .own a5 (46 + s.len) c6 ((putF (key) (s.l)).map V8) 5 1, .own a10 (46 + s.len + u.len) c11 ((putF (key) (s.l) ++ u.l).map V8) 5 1, .own a12 ((takeF (putF (key) (s.l) ++ u.l)).2.1.length) c13 (((takeF (putF (key) (s.l) ++ u.l)).2.1).map V8) 5 1, .blk b14 (((takeF (putF (key) (s.l) ++ u.l)).1).map V8) 31]) := H
      refine l_op (o_val (r_as) ?_)
      refine l_op (o_val (r_as) ?_)
      refine l_op (o_val (r_as) ?_)
      first | refine l_end ?_ | refine l_nil ?_
      repeat refine c_seq ?_
      refine c_region ?_
      refine l_op (o_val (r_mv) ?_)
      refine l_op (o_val (r_mv) ?_)
      refine l_op (o_val (r_mv) ?_)
      refine l_op (o_callR Try.func44 rfl rfl rfl (place_ret _ n ((46 + s.len : Nat) : Int) (by omega) (by omega)) ?_)
      rintro _ w' ⟨m15, rfl, hm16, hw17⟩
      rw [hw17]; clear hw17 w'
      have hol18 := (H.ownLen (i := 1) rfl).2.1
      refine l_op (o_val (r_slS (s := ⟨hd a5, 46 + s.len, c6, putF (key) (s.l)⟩) 0 m15 c6 (lv := none) (hv := some (VI (m15 : Int))) (mv := none) rfl el29 rfl rfl rfl (fun w => by exact sbh m15 (by omega) (by (try simp only [Sl.cut]); omega) w)) ?_)
      refine l_op (o_callR Try.func63 rfl rfl rfl (ftake_ret _ (Sl.cut ⟨hd a5, 46 + s.len, c6, putF (key) (s.l)⟩ 0 m15 c6) ((H.slOwn (i := 1) rfl).cut (l := 0) (h := m15) (m := c6) (by omega) (by (try simp only [Sl.cut]); omega) (by omega) (by (try simp only [Sl.cut]); omega)) (by (try simp only [Sl.cut]); omega)) ?_)
      rintro _ w ⟨a19, c20, rfl, Hc⟩
      replace H : Hp w0 w [] ([.blk b1 ((key).map V8) 31, .own a5 (46 + s.len) c6 ((putF (key) (s.l)).map V8) 5 1, .own a10 (46 + s.len + u.len) c11 ((putF (key) (s.l) ++ u.l).map V8) 5 1, .own a12 ((takeF (putF (key) (s.l) ++ u.l)).2.1.length) c13 (((takeF (putF (key) (s.l) ++ u.l)).2.1).map V8) 5 1, .blk b14 (((takeF (putF (key) (s.l) ++ u.l)).1).map V8) 31, .own a19 ((takeF (((putF (key) (s.l)).drop 0).take (m15))).2.1.length) c20 (((takeF (((putF (key) (s.l)).drop 0).take (m15))).2.1).map V8) 5 1]) := H.call Hc
      clear Hc
      refine l_op (o_val (r_mv) ?_)
      refine l_op (o_val (r_ext rfl rfl) ?_)
      refine l_op (o_val (r_ext rfl rfl) ?_)
      refine l_op (o_val (r_ext rfl rfl) ?_)
      refine l_op (o_val (r_ext rfl rfl) ?_)
      refine l_op (o_alloc H zc31 (fun b21 w H hb21 => ?_))
      replace H : Hp w0 w [] ([.blk b1 ((key).map V8) 31, .own a5 (46 + s.len) c6 ((putF (key) (s.l)).map V8) 5 1, .own a10 (46 + s.len + u.len) c11 ((putF (key) (s.l) ++ u.l).map V8) 5 1, .own a12 ((takeF (putF (key) (s.l) ++ u.l)).2.1.length) c13 (((takeF (putF (key) (s.l) ++ u.l)).2.1).map V8) 5 1, .blk b14 (((takeF (putF (key) (s.l) ++ u.l)).1).map V8) 31, .own a19 ((takeF (((putF (key) (s.l)).drop 0).take (m15))).2.1.length) c20 (((takeF (((putF (key) (s.l)).drop 0).take (m15))).2.1).map V8) 5 1, .blk b21 ((List.replicate 32 (0 : UInt8)).map V8) 31]) := H
      refine l_op (o_stA (l' := (takeF (((putF (key) (s.l)).drop 0).take (m15))).1) H (i := 6) rfl rfl rfl cs31 (show (List.replicate 32 (0 : UInt8)).length = 32 from (List.length_replicate ..)) (show ((takeF (((putF (key) (s.l)).drop 0).take (m15))).1).length = 32 from takeF_len _) (fun w H => ?_))
      replace H : Hp w0 w [] ([.blk b1 ((key).map V8) 31, .own a5 (46 + s.len) c6 ((putF (key) (s.l)).map V8) 5 1, .own a10 (46 + s.len + u.len) c11 ((putF (key) (s.l) ++ u.l).map V8) 5 1, .own a12 ((takeF (putF (key) (s.l) ++ u.l)).2.1.length) c13 (((takeF (putF (key) (s.l) ++ u.l)).2.1).map V8) 5 1, .blk b14 (((takeF (putF (key) (s.l) ++ u.l)).1).map V8) 31, .own a19 ((takeF (((putF (key) (s.l)).drop 0).take (m15))).2.1.length) c20 (((takeF (((putF (key) (s.l)).drop 0).take (m15))).2.1).map V8) 5 1, .blk b21 (((takeF (((putF (key) (s.l)).drop 0).take (m15))).1).map V8) 31]) := H
      refine l_op (o_val (r_as) ?_)
      refine l_op (o_val (r_as) ?_)
      refine l_op (o_val (r_as) ?_)
      first | refine l_end ?_ | refine l_nil ?_
      have e1 := takeF_put key s.l u.l hk (by omega)
      have e2 : (takeF (((putF key s.l).drop 0).take (m15))).2.2.2 = 3 := takeF_cut key s.l hk (by omega) m15 (by omega)
      repeat refine c_seq ?_
      refine c_region ?_
      refine l_op (o_val (r_mv) ?_)
      refine l_op (o_val (r_bin (a := 0) (b := 0) rfl rfl (fun _ => b_eqlB true (decide_eq_true (by decide)))) ?_)
      refine l_op (o_val (r_mv) ?_)
      refine l_yes rfl rfl rfl (o_val (r_mv) ?_)
      refine l_yes rfl rfl rfl (o_val (r_bin (a := (((takeF (putF (key) (s.l) ++ u.l)).2.2.2 : Nat) : Int)) (b := 0) rfl rfl (fun _ => b_eqlB true (decide_eq_true (by rw [e1]; rfl)))) ?_)
      refine l_op (o_val (r_pick rfl) ?_)
      refine l_op (o_val (r_mv) ?_)
      refine l_yes rfl rfl rfl (o_val (r_ldAA (l := (takeF (putF (key) (s.l) ++ u.l)).1) H (i := 4) rfl rfl rt31 (show ((takeF (putF (key) (s.l) ++ u.l)).1).length = 32 from takeF_len _)) ?_)
      refine l_yes rfl rfl rfl (o_val (r_ldAA (l := key) H (i := 0) rfl rfl rt31 (show (key).length = 32 from hk)) ?_)
      refine l_yes rfl rfl rfl (o_val (r_eqa (a := (takeF (putF (key) (s.l) ++ u.l)).1) (b := key) Try.underlying31 Try.underlying5 cs5 rfl rfl (show ((takeF (putF (key) (s.l) ++ u.l)).1).length = 32 from takeF_len _) (show (key).length = 32 from hk)) ?_)
      have hk22 : (decide ((takeF (putF (key) (s.l) ++ u.l)).1 = key)) = true := decide_eq_true (by rw [e1])
      refine l_op (o_val (r_pick rfl) ?_)
      refine l_op (o_val (r_mv) ?_)
      refine l_yes rfl rfl (by exact congrArg Value.bool hk22) (o_val (r_mv) ?_)
      refine l_yes rfl rfl (by exact congrArg Value.bool hk22) (o_val (r_b2S (s := ⟨hd a12, (takeF (putF (key) (s.l) ++ u.l)).2.1.length, c13, (takeF (putF (key) (s.l) ++ u.l)).2.1⟩) Try.underlying29 Try.underlying5 Try.underlying9 rfl (H.slOwn (i := 3) rfl)) ?_)
      refine l_yes rfl rfl (by exact congrArg Value.bool hk22) (o_val (r_mv) ?_)
      refine l_yes rfl rfl (by exact congrArg Value.bool hk22) (o_val (r_b2S (s := s) Try.underlying29 Try.underlying5 Try.underlying9 rfl (hs.up H (fun _ => apart_nil _))) ?_)
      refine l_yes rfl rfl (by exact congrArg Value.bool hk22) (o_val (r_streq (a := (takeF (putF (key) (s.l) ++ u.l)).2.1) (b := s.l) rfl rfl) ?_)
      have hk23 : (decide ((takeF (putF (key) (s.l) ++ u.l)).2.1 = s.l)) = true := decide_eq_true (by rw [e1])
      refine l_op (o_val (r_pick (b := true) (congrArg Value.bool hk22)) ?_)
      refine l_op (o_val (r_mv) ?_)
      refine l_yes rfl rfl (by exact congrArg Value.bool hk23) (o_val (r_mv) ?_)
      refine l_yes rfl rfl (by exact congrArg Value.bool hk23) (o_val (r_mv) ?_)
      refine l_yes rfl rfl (by exact congrArg Value.bool hk23) (o_val (r_bin (a := (((takeF (putF (key) (s.l) ++ u.l)).2.2.1 : Nat) : Int)) (b := ((46 + s.len : Nat) : Int)) rfl rfl (fun _ => b_eqlB true (decide_eq_true (by rw [e1]; simp only; omega)))) ?_)
      refine l_op (o_val (r_pick (b := true) (congrArg Value.bool hk23)) ?_)
      refine l_op (o_val (r_mv) ?_)
      refine l_yes rfl rfl rfl (o_val (r_mv) ?_)
      refine l_yes rfl rfl rfl (o_val (r_mv) ?_)
      refine l_yes rfl rfl rfl (o_val (r_lens el29 rfl) ?_)
      refine l_yes rfl rfl rfl (o_callR Try.func61 rfl rfl rfl (fsize_ret _ ((s.len : Int))) ?_)
      rintro _ w ⟨rfl, Hc⟩
      replace H : Hp w0 w [] ([.blk b1 ((key).map V8) 31, .own a5 (46 + s.len) c6 ((putF (key) (s.l)).map V8) 5 1, .own a10 (46 + s.len + u.len) c11 ((putF (key) (s.l) ++ u.l).map V8) 5 1, .own a12 ((takeF (putF (key) (s.l) ++ u.l)).2.1.length) c13 (((takeF (putF (key) (s.l) ++ u.l)).2.1).map V8) 5 1, .blk b14 (((takeF (putF (key) (s.l) ++ u.l)).1).map V8) 31, .own a19 ((takeF (((putF (key) (s.l)).drop 0).take (m15))).2.1.length) c20 (((takeF (((putF (key) (s.l)).drop 0).take (m15))).2.1).map V8) 5 1, .blk b21 (((takeF (((putF (key) (s.l)).drop 0).take (m15))).1).map V8) 31]) := H.call Hc
      clear Hc
      refine l_yes rfl rfl rfl (o_val (r_bin (a := ((46 + s.len : Nat) : Int)) (b := (if (s.len : Int) < 0 ∨ 4200 < (s.len : Int) then 0 else 46 + (s.len : Int))) rfl rfl (fun _ => b_eqlB true (decide_eq_true (by rw [if_neg (by omega)]; omega)))) ?_)
      refine l_op (o_val (r_pick rfl) ?_)
      refine l_op (o_val (r_mv) ?_)
      refine l_yes rfl rfl rfl (o_val (r_mv) ?_)
      refine l_yes rfl rfl rfl (o_val (r_bin (a := (((takeF (((putF (key) (s.l)).drop 0).take (m15))).2.2.2 : Nat) : Int)) (b := 3) rfl rfl (fun _ => b_eqlB true (decide_eq_true (congrArg (fun k : Nat => (k : Int)) e2)))) ?_)
      refine l_op (o_val (r_pick rfl) ?_)
      refine l_op (o_val (r_as) ?_)
      first | refine l_end ?_ | refine l_nil ?_
      refine c_ret ?_
      try dsimp only [Exit.then, Exit.inBlock]
      refine e_ret1 (v := .bool true) Try.results16 rfl ?_
      refine ⟨_, rfl, ?_⟩
      exact ⟨rfl, H.sub (List.nil_sublist _)⟩
end Go.Proofs.Ytjmbbhnpfmblpaa
