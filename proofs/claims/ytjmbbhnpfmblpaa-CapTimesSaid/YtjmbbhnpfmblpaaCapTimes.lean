import Derived.Test.YtjmbbhnpfmblpaaCapB
/- layer 14: from when and until when a token is taken. -/
namespace Go.Proofs.Ytjmbbhnpfmblpaa
open Go
set_option maxRecDepth 100000
theorem capTimes_ret (w0 : World) (key : List UInt8) (f y n : Int) (hk : key.length = 32) :
    Ret Try.prog 19 [.agg ((key).map V8).toArray, VI f, VI y, VI n] w0 fun v w' => v = .bool true ∧ Hp w0 w' [] [] := by
  refine ret_mk Try.func19 rfl Try.ntmps19 (by simp) ?_
  have H := Hp.refl w0 []
  repeat refine c_seq ?_
  refine c_region ?_
  refine l_op (o_box (v := .agg ((key).map V8).toArray) H rfl (fun b1 w H hb1 => ?_))
  replace H : Hp w0 w [] ([.blk b1 ((key).map V8) 31]) := H
  refine l_op (o_val (r_as) ?_)
  first | refine l_end ?_ | refine l_nil ?_
  repeat refine c_seq ?_
  refine c_region ?_
  refine l_op (o_callR Try.func65 rfl rfl rfl (begun14_ret _) ?_)
  rintro _ w ⟨rfl, Hc⟩
  replace H : Hp w0 w [] ([.blk b1 ((key).map V8) 31]) := H.call Hc
  clear Hc
  refine l_op (o_val (r_not rfl) ?_)
  first | refine l_end ?_ | refine l_nil ?_
  repeat refine c_seq ?_
  refine c_no rfl ?_
  refine c_skip ?_
  repeat refine c_seq ?_
  refine c_region ?_
  refine l_op (o_val (r_ldAA (l := key) H (i := 0) rfl rfl rt31 (show (key).length = 32 from hk)) ?_)
  refine l_op (o_val (r_mv) ?_)
  refine l_op (o_val (r_mv) ?_)
  refine l_op (o_val (r_bld' (cells := ([V64 (3 : UInt64), .string ⟨(([97] : List UInt8)).toArray⟩, V8 (1 : UInt8), VI f, VI y, .slice none 0 0] ++ (List.replicate 32 (0 : UInt8)).map V8).toArray) (pv := [(0, V64 (3 : UInt64)), (1, .string ⟨(([97] : List UInt8)).toArray⟩), (2, V8 (1 : UInt8)), (3, VI f), (4, VI y)]) bd76 rfl rfl) ?_)
  refine l_op (o_callR Try.func68 rfl rfl rfl (issue_ok _ (key) (show (key).length = 32 from hk) (⟨(3 : UInt64), ([97] : List UInt8), (1 : UInt8), f, y, ⟨none, 0, 0, []⟩, List.replicate 32 (0 : UInt8)⟩ : Tok) (Gl.ok_nil _) (show (List.replicate 32 (0 : UInt8)).length = 32 from (List.length_replicate ..)) (by first | omega | (dsimp only; omega) | simp) (by first | rfl | (simp [mayT]; decide)) rfl) ?_)
  rintro _ w ⟨rfl, Hc⟩
  replace H : Hp w0 w [] ([.blk b1 ((key).map V8) 31]) := H.call Hc
  clear Hc
  refine l_op (o_val (r_mv) ?_)
  refine l_op (o_val (r_ext rfl rfl) ?_)
  refine l_op (o_val (r_ext rfl rfl) ?_)
  refine l_op (o_alloc H zc76 (fun b2 w H hb2 => ?_))
  replace H : Hp w0 w [] ([.blk b1 ((key).map V8) 31, .blk b2 ([V64 (0 : UInt64), .string ⟨(([] : List UInt8)).toArray⟩, V8 (0 : UInt8), VI 0, VI 0, .slice none 0 0] ++ (List.replicate 32 (0 : UInt8)).map V8) 76]) := H
  refine l_op (o_stW (C' := [V64 (3 : UInt64), .string ⟨(([97] : List UInt8)).toArray⟩, V8 (1 : UInt8), VI f, VI y, .slice none 0 0] ++ (hmac (key) (framed [headB ((3 : UInt64)) (([97] : List UInt8)) ((1 : UInt8)) (f) (y)])).map V8) H (i := 1) rfl rfl rfl cs76 (by simp [Value.oneCell', Sl.v, Gl.v]) (by rw [List.length_append, List.length_map, (show (List.replicate 32 (0 : UInt8)).length = 32 from (List.length_replicate ..))]; rfl) (by rw [List.length_append, List.length_map, (show (hmac (key) (framed [headB ((3 : UInt64)) (([97] : List UInt8)) ((1 : UInt8)) (f) (y)])).length = 32 from hmac_len _ _)]; rfl) (fun w H => ?_))
  replace H : Hp w0 w [] ([.blk b1 ((key).map V8) 31, .blk b2 ([V64 (3 : UInt64), .string ⟨(([97] : List UInt8)).toArray⟩, V8 (1 : UInt8), VI f, VI y, .slice none 0 0] ++ (hmac (key) (framed [headB ((3 : UInt64)) (([97] : List UInt8)) ((1 : UInt8)) (f) (y)])).map V8) 76]) := H
  refine l_op (o_val (r_as) ?_)
  first | refine l_end ?_ | refine l_nil ?_
  repeat refine c_seq ?_
  refine c_region ?_
  refine l_op (o_val (r_ldAA (l := key) H (i := 0) rfl rfl rt31 (show (key).length = 32 from hk)) ?_)
  refine l_op (o_val (r_ldA (C := [V64 (3 : UInt64), .string ⟨(([97] : List UInt8)).toArray⟩, V8 (1 : UInt8), VI f, VI y, .slice none 0 0] ++ (hmac (key) (framed [headB ((3 : UInt64)) (([97] : List UInt8)) ((1 : UInt8)) (f) (y)])).map V8) H (i := 1) rfl rfl rt76 (by rw [List.length_append, List.length_map, (show (hmac (key) (framed [headB ((3 : UInt64)) (([97] : List UInt8)) ((1 : UInt8)) (f) (y)])).length = 32 from hmac_len _ _)]; rfl)) ?_)
  refine l_op (o_val (r_mv) ?_)
  refine l_op (o_callR Try.func77 rfl rfl rfl (check14_ret _ (key) (show (key).length = 32 from hk) (⟨(3 : UInt64), ([97] : List UInt8), (1 : UInt8), f, y, ⟨none, 0, 0, []⟩, hmac (key) (framed [headB ((3 : UInt64)) (([97] : List UInt8)) ((1 : UInt8)) (f) (y)])⟩ : Tok) (Gl.ok_nil _) (show (hmac (key) (framed [headB ((3 : UInt64)) (([97] : List UInt8)) ((1 : UInt8)) (f) (y)])).length = 32 from hmac_len _ _) (by first | omega | (dsimp only; omega) | simp) (n)) ?_)
  rintro _ w ⟨rfl, Hc⟩
  replace H : Hp w0 w [] ([.blk b1 ((key).map V8) 31, .blk b2 ([V64 (3 : UInt64), .string ⟨(([97] : List UInt8)).toArray⟩, V8 (1 : UInt8), VI f, VI y, .slice none 0 0] ++ (hmac (key) (framed [headB ((3 : UInt64)) (([97] : List UInt8)) ((1 : UInt8)) (f) (y)])).map V8) 76]) := H.call Hc
  clear Hc
  refine l_op (o_val (r_as) ?_)
  first | refine l_end ?_ | refine l_nil ?_
  have c1 : (checkT key (⟨(3 : UInt64), ([97] : List UInt8), (1 : UInt8), f, y, ⟨none, 0, 0, []⟩, hmac (key) (framed [headB ((3 : UInt64)) (([97] : List UInt8)) ((1 : UInt8)) (f) (y)])⟩ : Tok) n = 0 ∨ checkT key (⟨(3 : UInt64), ([97] : List UInt8), (1 : UInt8), f, y, ⟨none, 0, 0, []⟩, hmac (key) (framed [headB ((3 : UInt64)) (([97] : List UInt8)) ((1 : UInt8)) (f) (y)])⟩ : Tok) n = 14) ∧ (checkT key (⟨(3 : UInt64), ([97] : List UInt8), (1 : UInt8), f, y, ⟨none, 0, 0, []⟩, hmac (key) (framed [headB ((3 : UInt64)) (([97] : List UInt8)) ((1 : UInt8)) (f) (y)])⟩ : Tok) n = 0 ↔ f ≤ n ∧ n < y) := checkT_iff key (⟨(3 : UInt64), ([97] : List UInt8), (1 : UInt8), f, y, ⟨none, 0, 0, []⟩, hmac (key) (framed [headB ((3 : UInt64)) (([97] : List UInt8)) ((1 : UInt8)) (f) (y)])⟩ : Tok) n (by first | rfl | (simp [mayT]; decide)) (by rfl)
  repeat refine c_seq ?_
  refine c_region ?_
  refine l_op (o_val (r_mv) ?_)
  refine l_op (o_val (r_bin (a := 0) (b := 0) rfl rfl (fun _ => b_eqlB true (decide_eq_true (by decide)))) ?_)
  refine l_op (o_val (r_mv) ?_)
  refine l_yes rfl rfl rfl (o_val (r_mv) ?_)
  refine l_yes rfl rfl rfl (o_val (r_bin (a := checkT (key) (⟨(3 : UInt64), ([97] : List UInt8), (1 : UInt8), f, y, ⟨none, 0, 0, []⟩, hmac (key) (framed [headB ((3 : UInt64)) (([97] : List UInt8)) ((1 : UInt8)) (f) (y)])⟩ : Tok) (n)) (b := 0) rfl rfl (fun _ => b_eql)) ?_)
  refine l_yes rfl rfl rfl (o_val (r_mv) ?_)
  refine l_yes rfl rfl rfl (o_val (r_mv) ?_)
  refine l_yes rfl rfl rfl (o_val (r_bin (a := f) (b := n) rfl rfl (fun _ => b_leq)) ?_)
  refine l_yes rfl rfl rfl (o_val (r_mv) ?_)
  by_cases hc3 : f ≤ n
  · skip
    refine l_yes rfl rfl (by exact congrArg Value.bool (decide_eq_true hc3)) (o_val (r_mv) ?_)
    refine l_yes rfl rfl (by exact congrArg Value.bool (decide_eq_true hc3)) (o_val (r_mv) ?_)
    refine l_yes rfl rfl (by exact congrArg Value.bool (decide_eq_true hc3)) (o_val (r_bin (a := n) (b := y) rfl rfl (fun _ => b_lss)) ?_)
    refine l_yes rfl rfl rfl (o_val (r_pick (b := true) (congrArg Value.bool (decide_eq_true hc3))) ?_)
    refine l_yes rfl rfl rfl (o_val (r_beq Try.underlying4 rfl rfl) ?_)
    have hk4 : ((decide (checkT (key) (⟨(3 : UInt64), ([97] : List UInt8), (1 : UInt8), f, y, ⟨none, 0, 0, []⟩, hmac (key) (framed [headB ((3 : UInt64)) (([97] : List UInt8)) ((1 : UInt8)) (f) (y)])⟩ : Tok) (n) = 0)) == (decide (n < y))) = true := beq_iff_eq.2 (by rw [decide_eq_decide]; omega)
    refine l_op (o_val (r_pick rfl) ?_)
    refine l_op (o_val (r_mv) ?_)
    refine l_yes rfl rfl (by exact congrArg Value.bool hk4) (o_val (r_mv) ?_)
    refine l_yes rfl rfl (by exact congrArg Value.bool hk4) (o_val (r_bin (a := checkT (key) (⟨(3 : UInt64), ([97] : List UInt8), (1 : UInt8), f, y, ⟨none, 0, 0, []⟩, hmac (key) (framed [headB ((3 : UInt64)) (([97] : List UInt8)) ((1 : UInt8)) (f) (y)])⟩ : Tok) (n)) (b := 0) rfl rfl (fun _ => b_eql)) ?_)
    refine l_yes rfl rfl (by exact congrArg Value.bool hk4) (o_val (r_mv) ?_)
    by_cases hc5 : checkT (key) (⟨(3 : UInt64), ([97] : List UInt8), (1 : UInt8), f, y, ⟨none, 0, 0, []⟩, hmac (key) (framed [headB ((3 : UInt64)) (([97] : List UInt8)) ((1 : UInt8)) (f) (y)])⟩ : Tok) (n) = 0
    · skip
      refine l_no rfl rfl (by exact congrArg Value.bool (decide_eq_true hc5)) rfl ?_
      refine l_no rfl rfl (by exact congrArg Value.bool (decide_eq_true hc5)) rfl ?_
      refine l_yes rfl rfl (by exact congrArg Value.bool hk4) (o_val (r_pick (b := true) (congrArg Value.bool (decide_eq_true hc5))) ?_)
      refine l_op (o_val (r_pick (b := true) (congrArg Value.bool hk4)) ?_)
      refine l_op (o_val (r_as) ?_)
      first | refine l_end ?_ | refine l_nil ?_
      refine c_ret ?_
      try dsimp only [Exit.then, Exit.inBlock]
      refine e_ret1 (v := .bool true) Try.results19 rfl ?_
      refine ⟨_, rfl, ?_⟩
      exact ⟨rfl, H.sub (List.nil_sublist _)⟩
    · skip
      refine l_yes rfl rfl (by exact congrArg Value.bool (decide_eq_false hc5)) (o_val (r_mv) ?_)
      refine l_yes rfl rfl (by exact congrArg Value.bool (decide_eq_false hc5)) (o_val (r_bin (a := checkT (key) (⟨(3 : UInt64), ([97] : List UInt8), (1 : UInt8), f, y, ⟨none, 0, 0, []⟩, hmac (key) (framed [headB ((3 : UInt64)) (([97] : List UInt8)) ((1 : UInt8)) (f) (y)])⟩ : Tok) (n)) (b := 14) rfl rfl (fun _ => b_eqlB true (decide_eq_true (by omega)))) ?_)
      refine l_yes rfl rfl (by exact congrArg Value.bool hk4) (o_val (r_pick (b := false) (congrArg Value.bool (decide_eq_false hc5))) ?_)
      refine l_op (o_val (r_pick (b := true) (congrArg Value.bool hk4)) ?_)
      refine l_op (o_val (r_as) ?_)
      first | refine l_end ?_ | refine l_nil ?_
      refine c_ret ?_
      try dsimp only [Exit.then, Exit.inBlock]
      refine e_ret1 (v := .bool true) Try.results19 rfl ?_
      refine ⟨_, rfl, ?_⟩
      exact ⟨rfl, H.sub (List.nil_sublist _)⟩
  · skip
    refine l_no rfl rfl (by exact congrArg Value.bool (decide_eq_false hc3)) rfl ?_
    refine l_no rfl rfl (by exact congrArg Value.bool (decide_eq_false hc3)) rfl ?_
    refine l_no rfl rfl (by exact congrArg Value.bool (decide_eq_false hc3)) rfl ?_
    refine l_yes rfl rfl rfl (o_val (r_pick (b := false) (congrArg Value.bool (decide_eq_false hc3))) ?_)
    refine l_yes rfl rfl rfl (o_val (r_beq Try.underlying4 rfl rfl) ?_)
    have hk6 : ((decide (checkT (key) (⟨(3 : UInt64), ([97] : List UInt8), (1 : UInt8), f, y, ⟨none, 0, 0, []⟩, hmac (key) (framed [headB ((3 : UInt64)) (([97] : List UInt8)) ((1 : UInt8)) (f) (y)])⟩ : Tok) (n) = 0)) == false) = true := beq_iff_eq.2 (decide_eq_false (by omega))
    refine l_op (o_val (r_pick rfl) ?_)
    refine l_op (o_val (r_mv) ?_)
    refine l_yes rfl rfl (by exact congrArg Value.bool hk6) (o_val (r_mv) ?_)
    refine l_yes rfl rfl (by exact congrArg Value.bool hk6) (o_val (r_bin (a := checkT (key) (⟨(3 : UInt64), ([97] : List UInt8), (1 : UInt8), f, y, ⟨none, 0, 0, []⟩, hmac (key) (framed [headB ((3 : UInt64)) (([97] : List UInt8)) ((1 : UInt8)) (f) (y)])⟩ : Tok) (n)) (b := 0) rfl rfl (fun _ => b_eql)) ?_)
    refine l_yes rfl rfl (by exact congrArg Value.bool hk6) (o_val (r_mv) ?_)
    by_cases hc7 : checkT (key) (⟨(3 : UInt64), ([97] : List UInt8), (1 : UInt8), f, y, ⟨none, 0, 0, []⟩, hmac (key) (framed [headB ((3 : UInt64)) (([97] : List UInt8)) ((1 : UInt8)) (f) (y)])⟩ : Tok) (n) = 0
    · skip
      refine l_no rfl rfl (by exact congrArg Value.bool (decide_eq_true hc7)) rfl ?_
      refine l_no rfl rfl (by exact congrArg Value.bool (decide_eq_true hc7)) rfl ?_
      refine l_yes rfl rfl (by exact congrArg Value.bool hk6) (o_val (r_pick (b := true) (congrArg Value.bool (decide_eq_true hc7))) ?_)
      refine l_op (o_val (r_pick (b := true) (congrArg Value.bool hk6)) ?_)
      refine l_op (o_val (r_as) ?_)
      first | refine l_end ?_ | refine l_nil ?_
      refine c_ret ?_
      try dsimp only [Exit.then, Exit.inBlock]
      refine e_ret1 (v := .bool true) Try.results19 rfl ?_
      refine ⟨_, rfl, ?_⟩
      exact ⟨rfl, H.sub (List.nil_sublist _)⟩
    · skip
      refine l_yes rfl rfl (by exact congrArg Value.bool (decide_eq_false hc7)) (o_val (r_mv) ?_)
      refine l_yes rfl rfl (by exact congrArg Value.bool (decide_eq_false hc7)) (o_val (r_bin (a := checkT (key) (⟨(3 : UInt64), ([97] : List UInt8), (1 : UInt8), f, y, ⟨none, 0, 0, []⟩, hmac (key) (framed [headB ((3 : UInt64)) (([97] : List UInt8)) ((1 : UInt8)) (f) (y)])⟩ : Tok) (n)) (b := 14) rfl rfl (fun _ => b_eqlB true (decide_eq_true (by omega)))) ?_)
      refine l_yes rfl rfl (by exact congrArg Value.bool hk6) (o_val (r_pick (b := false) (congrArg Value.bool (decide_eq_false hc7))) ?_)
      refine l_op (o_val (r_pick (b := true) (congrArg Value.bool hk6)) ?_)
      refine l_op (o_val (r_as) ?_)
      first | refine l_end ?_ | refine l_nil ?_
      refine c_ret ?_
      try dsimp only [Exit.then, Exit.inBlock]
      refine e_ret1 (v := .bool true) Try.results19 rfl ?_
      refine ⟨_, rfl, ?_⟩
      exact ⟨rfl, H.sub (List.nil_sublist _)⟩
end Go.Proofs.Ytjmbbhnpfmblpaa
