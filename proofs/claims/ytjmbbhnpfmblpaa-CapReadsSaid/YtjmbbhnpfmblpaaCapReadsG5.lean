/- Lemmas for the statement CapReads, part 5: rules of operations, walks through functions, plain laws. -/
import Derived.Test.YtjmbbhnpfmblpaaCapReadsG4
namespace Go.Proofs.Ytjmbbhnpfmblpaa
open Go
set_option maxRecDepth 100000
theorem number14_ok (w0 : World) (s : Sl) (hs : s.ok w0) (ai : Int) (a : Nat) (hai : ai = (a : Int)) (hl : a + 8 ≤ s.len) (hm : s.len ≤ 1048576) :
    Ret Try.prog 133 [s.v, VI ai] w0 fun v w' => v = V64 (num s.l a 8) ∧ Hp w0 w' [] [] := by
  refine ret_mk Try.func133 rfl Try.ntmps133 (by simp) ?_
  have H := Hp.refl w0 []
  subst hai
  repeat refine c_seq ?_
  refine c_region ?_
  refine l_op (o_val (r_asV (c64 0 (by decide))) ?_)
  first | refine l_end ?_ | refine l_nil ?_
  repeat refine c_seq ?_
  refine c_region ?_
  refine l_op (o_val (r_mv) ?_)
  refine l_op (o_val (r_mv) ?_)
  refine l_op (o_callR Try.func114 rfl rfl rfl (at1_ok _ s (hs.up H (fun _ => apart_nil _)) a 8 (by omega) (by omega) (by omega) (by omega)) ?_)
  rintro _ w ⟨rfl, Hc⟩
  replace H : Hp _ w _ ([]) := H.call Hc
  clear Hc
  refine l_op (o_val (r_mv) ?_)
  refine l_op (o_val (r_ext rfl rfl) ?_)
  refine l_op (o_val (r_ext rfl rfl) ?_)
  refine l_op (o_val (r_as) ?_)
  refine l_op (o_val (r_as) ?_)
  first | refine l_end ?_ | refine l_nil ?_
  repeat refine c_seq ?_
  refine c_region ?_
  refine l_op (o_val (r_mv) ?_)
  refine l_op (o_val (r_as) ?_)
  first | refine l_end ?_ | refine l_nil ?_
  refine c_ret ?_
  try dsimp only [Exit.then, Exit.inBlock]
  refine e_ret1 (v := V64 (num s.l a 8)) Try.results133 rfl ?_
  refine ⟨_, rfl, ?_⟩
  exact ⟨rfl, H⟩
theorem getD_drop (l : List UInt8) (a j : Nat) : (l.drop a).getD j 0 = l.getD (a + j) 0 := by
  rw [List.getD_eq_getElem?_getD, List.getD_eq_getElem?_getD, List.getElem?_drop]
theorem num_of_drop (l : List UInt8) (a j n : Nat) : num (l.drop a) j n = num l (a + j) n := by rw [num, num, List.drop_drop]
theorem cavsAt_snoc : ∀ (i : Nat) (l : List UInt8), cavsAt (i + 1) l = cavsAt i l ++ [(l.getD (9 * i) 0, zagU (num l (9 * i + 1) 8))]
  | 0, l => by simp [cavsAt]
  | i + 1, l => by
    have ih := cavsAt_snoc i (l.drop 9)
    rw [cavsAt, ih, getD_drop, num_of_drop, show 9 + 9 * i = 9 * (i + 1) by omega, show 9 + (9 * i + 1) = 9 * (i + 1) + 1 by omega]
    simp [cavsAt]
theorem cavsAt_next (l : List UInt8) (b i : Nat) (cs : List Cav) (h : cavsAt i (l.drop b) = cs) : cavsAt (i + 1) (l.drop b) = cs ++ [(l.getD (b + 9 * i) 0, zagU (num l (b + 9 * i + 1) 8))] := by
  rw [cavsAt_snoc, h, getD_drop, num_of_drop, Nat.add_assoc]
theorem bd_of_fits (t : Tok) (h : t.tv.fits) : t.bd := ⟨h.f, h.u, h.c⟩
theorem take14_ret (w0 : World) (s : Sl) (hs : s.ok w0) (hm : s.len ≤ 1048576) :
    Ret Try.prog 103 [s.v] w0 fun v w' => (parseT s.l = none ∧ v = .tuple #[.agg (([V64 0, .string ⟨([] : List UInt8).toArray⟩, V8 0, VI 0, VI 0, .slice none 0 0] : List Value) ++ (List.replicate 32 (0 : UInt8)).map V8).toArray, VI 4] ∧ Hp w0 w' [] []) ∨ ∃ (T : TV) (a : Option Nat) (k : Nat), parseT s.l = some T ∧ v = .tuple #[.agg ([V64 T.serial, .string ⟨T.tenant.toArray⟩, V8 T.rights, VI T.from_, VI T.until_, .slice (hd a) T.cs.length k] ++ T.tag.map V8).toArray, VI 0] ∧ Hp w0 w' [] [.own a T.cs.length k (T.cs.flatMap cavE) 78 2] := by
  refine ret_mk Try.func103 rfl Try.ntmps103 (by simp) ?_
  have H := Hp.refl w0 []
  have hsl := hs.ln
  have hse := hs.le
  have hNlt : tkN s.l < 256 := u8_lt _
  have hKlt : tkK s.l < 256 := u8_lt _
  repeat refine c_seq ?_
  refine c_region ?_
  refine l_op (o_alloc H zc76 (fun b1 w H hb1 => ?_))
  replace H : Hp _ w _ ([.blk b1 ([V64 (0 : UInt64), .string ⟨(([] : List UInt8)).toArray⟩, V8 (0 : UInt8), VI 0, VI 0, .slice none 0 0] ++ (List.replicate 32 (0 : UInt8)).map V8) 76]) := H
  refine l_op (o_val (r_as) ?_)
  first | refine l_end ?_ | refine l_nil ?_
  repeat refine c_seq ?_
  refine c_region ?_
  refine l_op (o_val (r_mv) ?_)
  refine l_op (o_val (r_lens el29 rfl) ?_)
  refine l_op (o_val (r_bin (a := (s.len : Int)) (b := 60) rfl rfl (fun _ => b_lss)) ?_)
  first | refine l_end ?_ | refine l_nil ?_
  by_cases hc2 : (s.len : Int) < 60
  ·
   repeat refine c_seq ?_
   refine c_yes (by exact congrArg Value.bool (decide_eq_true hc2)) ?_
   repeat refine c_seq ?_
   refine c_region ?_
   refine l_op (o_val (r_bld' (cells := ([V64 (0 : UInt64), .string ⟨(([] : List UInt8)).toArray⟩, V8 (0 : UInt8), VI 0, VI 0, .slice none 0 0] ++ (List.replicate 32 (0 : UInt8)).map V8).toArray) (pv := []) bd76 rfl rfl) ?_)
   refine l_op (o_stW (C' := [V64 (0 : UInt64), .string ⟨(([] : List UInt8)).toArray⟩, V8 (0 : UInt8), VI 0, VI 0, .slice none 0 0] ++ (List.replicate 32 (0 : UInt8)).map V8) H (i := 0) rfl rfl rfl cs76 (by simp [Value.oneCell']) (by rw [List.length_append, List.length_map, (show (List.replicate 32 (0 : UInt8)).length = 32 from (List.length_replicate ..))]; rfl) (by rw [List.length_append, List.length_map, (show (List.replicate 32 (0 : UInt8)).length = 32 from (List.length_replicate ..))]; rfl) (fun w H => ?_))
   replace H : Hp _ w _ [_] := H
   refine l_op (o_val (r_as) ?_)
   first | refine l_end ?_ | refine l_nil ?_
   refine c_ret ?_
   try dsimp only [Exit.then, Exit.inBlock]
   refine e_retN (vs := [.agg ([V64 (0 : UInt64), .string ⟨(([] : List UInt8)).toArray⟩, V8 (0 : UInt8), VI 0, VI 0, .slice none 0 0] ++ (List.replicate 32 (0 : UInt8)).map V8).toArray, VI 4]) _ Try.results103 rfl (H.resR (C := [V64 (0 : UInt64), .string ⟨(([] : List UInt8)).toArray⟩, V8 (0 : UInt8), VI 0, VI 0, .slice none 0 0] ++ (List.replicate 32 (0 : UInt8)).map V8) (i := 0) rfl rfl rt76 (by rw [List.length_append, List.length_map, (show (List.replicate 32 (0 : UInt8)).length = 32 from (List.length_replicate ..))]; rfl) (resT (v := VI 4) rfl (resZ))) ?_
   refine ⟨_, rfl, ?_⟩
   refine .inl ⟨?_, rfl, H.sub (List.nil_sublist _)⟩
   exact Classical.byContradiction fun hp => by
     obtain ⟨q1, q2, q3, q4⟩ := parse_len _ hp
     omega
  ·
   repeat refine c_seq ?_
   refine c_no (by exact congrArg Value.bool (decide_eq_false hc2)) ?_
   refine c_skip ?_
   repeat refine c_seq ?_
   refine c_region ?_
   refine l_op (o_val (r_mv) ?_)
   refine l_op (o_callR Try.func133 rfl rfl rfl (number14_ok _ s (hs.up H (fun _ => apart_nil _)) (1) (1) (by omega) (by omega) (by omega)) ?_)
   rintro _ w ⟨rfl, Hc⟩
   replace H : Hp _ w _ ([_]) := H.call Hc
   clear Hc
   refine l_op (o_val (r_bld' (cells := ([V64 (num s.l 1 8), .string ⟨(([] : List UInt8)).toArray⟩, V8 (0 : UInt8), VI 0, VI 0, .slice none 0 0] ++ (List.replicate 32 (0 : UInt8)).map V8).toArray) (pv := [(0, V64 (num s.l 1 8))]) bd76 rfl rfl) ?_)
   refine l_op (o_alloc H zc76 (fun b3 w H hb3 => ?_))
   replace H : Hp _ w _ ([_, .blk b3 ([V64 (0 : UInt64), .string ⟨(([] : List UInt8)).toArray⟩, V8 (0 : UInt8), VI 0, VI 0, .slice none 0 0] ++ (List.replicate 32 (0 : UInt8)).map V8) 76]) := H
   refine l_op (o_stW (C' := [V64 (num s.l 1 8), .string ⟨(([] : List UInt8)).toArray⟩, V8 (0 : UInt8), VI 0, VI 0, .slice none 0 0] ++ (List.replicate 32 (0 : UInt8)).map V8) H (i := 1) rfl rfl rfl cs76 (by simp [Value.oneCell']) (by rw [List.length_append, List.length_map, (show (List.replicate 32 (0 : UInt8)).length = 32 from (List.length_replicate ..))]; rfl) (by rw [List.length_append, List.length_map, (show (List.replicate 32 (0 : UInt8)).length = 32 from (List.length_replicate ..))]; rfl) (fun w H => ?_))
   replace H : Hp _ w _ ([_, .blk b3 ([V64 (num s.l 1 8), .string ⟨(([] : List UInt8)).toArray⟩, V8 (0 : UInt8), VI 0, VI 0, .slice none 0 0] ++ (List.replicate 32 (0 : UInt8)).map V8) 76]) := H
   first | refine l_end ?_ | refine l_nil ?_
   repeat refine c_seq ?_
   refine c_region ?_
   refine l_op (o_val (r_mv) ?_)
   have ah6 := ((hs.up H (fun _ => apart_nil _))).addr (by (try simp only [Sl.cut]); omega)
   obtain ⟨ab4, ao5, ah6⟩ := ah6
   refine l_op (o_val (r_isN 9 rfl rfl el29 ah6 (by omega) (by (try simp only [Sl.cut]); omega)) ?_)
   refine l_op (o_val (r_ldB (s := s) (k := 9) (hs.up H (fun _ => apart_nil _)) ah6 rfl ct5 (by (try simp only [Sl.cut]); omega)) ?_)
   refine l_op (o_val (r_conv Try.underlying5 Try.underlying3 rfl (w_i64_8 _)) ?_)
   refine l_op (o_val (r_as) ?_)
   first | refine l_end ?_ | refine l_nil ?_
   repeat refine c_seq ?_
   refine c_region ?_
   refine l_op (o_val (r_mv) ?_)
   refine l_op (o_val (r_bin (a := (tkN s.l : Int)) (b := 16) rfl rfl (fun _ => b_gtr)) ?_)
   refine l_op (o_val (r_mv) ?_)
   by_cases hc7 : 16 < (tkN s.l : Int)
   ·
    refine l_no rfl rfl (by exact congrArg Value.bool (decide_eq_true hc7)) rfl ?_
    refine l_no rfl rfl (by exact congrArg Value.bool (decide_eq_true hc7)) rfl ?_
    refine l_no rfl rfl (by exact congrArg Value.bool (decide_eq_true hc7)) rfl ?_
    refine l_no rfl rfl (by exact congrArg Value.bool (decide_eq_true hc7)) rfl ?_
    refine l_no rfl rfl (by exact congrArg Value.bool (decide_eq_true hc7)) rfl ?_
    refine l_op (o_val (r_pick (b := true) (congrArg Value.bool (decide_eq_true hc7))) ?_)
    first | refine l_end ?_ | refine l_nil ?_
    repeat refine c_seq ?_
    refine c_yes rfl ?_
    repeat refine c_seq ?_
    refine c_region ?_
    refine l_op (o_val (r_bld' (cells := ([V64 (0 : UInt64), .string ⟨(([] : List UInt8)).toArray⟩, V8 (0 : UInt8), VI 0, VI 0, .slice none 0 0] ++ (List.replicate 32 (0 : UInt8)).map V8).toArray) (pv := []) bd76 rfl rfl) ?_)
    refine l_op (o_stW (C' := [V64 (0 : UInt64), .string ⟨(([] : List UInt8)).toArray⟩, V8 (0 : UInt8), VI 0, VI 0, .slice none 0 0] ++ (List.replicate 32 (0 : UInt8)).map V8) H (i := 0) rfl rfl rfl cs76 (by simp [Value.oneCell']) (by rw [List.length_append, List.length_map, (show (List.replicate 32 (0 : UInt8)).length = 32 from (List.length_replicate ..))]; rfl) (by rw [List.length_append, List.length_map, (show (List.replicate 32 (0 : UInt8)).length = 32 from (List.length_replicate ..))]; rfl) (fun w H => ?_))
    replace H : Hp _ w _ [_, _] := H
    refine l_op (o_val (r_as) ?_)
    first | refine l_end ?_ | refine l_nil ?_
    refine c_ret ?_
    try dsimp only [Exit.then, Exit.inBlock]
    refine e_retN (vs := [.agg ([V64 (0 : UInt64), .string ⟨(([] : List UInt8)).toArray⟩, V8 (0 : UInt8), VI 0, VI 0, .slice none 0 0] ++ (List.replicate 32 (0 : UInt8)).map V8).toArray, VI 4]) _ Try.results103 rfl (H.resR (C := [V64 (0 : UInt64), .string ⟨(([] : List UInt8)).toArray⟩, V8 (0 : UInt8), VI 0, VI 0, .slice none 0 0] ++ (List.replicate 32 (0 : UInt8)).map V8) (i := 0) rfl rfl rt76 (by rw [List.length_append, List.length_map, (show (List.replicate 32 (0 : UInt8)).length = 32 from (List.length_replicate ..))]; rfl) (resT (v := VI 4) rfl (resZ))) ?_
    refine ⟨_, rfl, ?_⟩
    refine .inl ⟨?_, rfl, H.sub (List.nil_sublist _)⟩
    exact Classical.byContradiction fun hp => by
      obtain ⟨q1, q2, q3, q4⟩ := parse_len _ hp
      omega
   ·
    refine l_yes rfl rfl (by exact congrArg Value.bool (decide_eq_false hc7)) (o_val (r_mv) ?_)
    refine l_yes rfl rfl (by exact congrArg Value.bool (decide_eq_false hc7)) (o_val (r_lens el29 rfl) ?_)
    refine l_yes rfl rfl (by exact congrArg Value.bool (decide_eq_false hc7)) (o_val (r_mv) ?_)
    refine l_yes rfl rfl (by exact congrArg Value.bool (decide_eq_false hc7)) (o_val (r_bin (a := 60) (b := (tkN s.l : Int)) rfl rfl (fun _ => b_add (by omega) (by omega))) ?_)
    refine l_yes rfl rfl (by exact congrArg Value.bool (decide_eq_false hc7)) (o_val (r_bin (a := (s.len : Int)) (b := 60 + (tkN s.l : Int)) rfl rfl (fun _ => b_lss)) ?_)
    refine l_op (o_val (r_pick (b := false) (congrArg Value.bool (decide_eq_false hc7))) ?_)
    first | refine l_end ?_ | refine l_nil ?_
    by_cases hc8 : (s.len : Int) < 60 + (tkN s.l : Int)
    ·
     repeat refine c_seq ?_
     refine c_yes (by exact congrArg Value.bool (decide_eq_true hc8)) ?_
     repeat refine c_seq ?_
     refine c_region ?_
     refine l_op (o_val (r_bld' (cells := ([V64 (0 : UInt64), .string ⟨(([] : List UInt8)).toArray⟩, V8 (0 : UInt8), VI 0, VI 0, .slice none 0 0] ++ (List.replicate 32 (0 : UInt8)).map V8).toArray) (pv := []) bd76 rfl rfl) ?_)
     refine l_op (o_stW (C' := [V64 (0 : UInt64), .string ⟨(([] : List UInt8)).toArray⟩, V8 (0 : UInt8), VI 0, VI 0, .slice none 0 0] ++ (List.replicate 32 (0 : UInt8)).map V8) H (i := 0) rfl rfl rfl cs76 (by simp [Value.oneCell']) (by rw [List.length_append, List.length_map, (show (List.replicate 32 (0 : UInt8)).length = 32 from (List.length_replicate ..))]; rfl) (by rw [List.length_append, List.length_map, (show (List.replicate 32 (0 : UInt8)).length = 32 from (List.length_replicate ..))]; rfl) (fun w H => ?_))
     replace H : Hp _ w _ [_, _] := H
     refine l_op (o_val (r_as) ?_)
     first | refine l_end ?_ | refine l_nil ?_
     refine c_ret ?_
     try dsimp only [Exit.then, Exit.inBlock]
     refine e_retN (vs := [.agg ([V64 (0 : UInt64), .string ⟨(([] : List UInt8)).toArray⟩, V8 (0 : UInt8), VI 0, VI 0, .slice none 0 0] ++ (List.replicate 32 (0 : UInt8)).map V8).toArray, VI 4]) _ Try.results103 rfl (H.resR (C := [V64 (0 : UInt64), .string ⟨(([] : List UInt8)).toArray⟩, V8 (0 : UInt8), VI 0, VI 0, .slice none 0 0] ++ (List.replicate 32 (0 : UInt8)).map V8) (i := 0) rfl rfl rt76 (by rw [List.length_append, List.length_map, (show (List.replicate 32 (0 : UInt8)).length = 32 from (List.length_replicate ..))]; rfl) (resT (v := VI 4) rfl (resZ))) ?_
     refine ⟨_, rfl, ?_⟩
     refine .inl ⟨?_, rfl, H.sub (List.nil_sublist _)⟩
     exact Classical.byContradiction fun hp => by
       obtain ⟨q1, q2, q3, q4⟩ := parse_len _ hp
       omega
    ·
     repeat refine c_seq ?_
     refine c_no (by exact congrArg Value.bool (decide_eq_false hc8)) ?_
     refine c_skip ?_
     repeat refine c_seq ?_
     refine c_region ?_
     refine l_op (o_val (r_mv) ?_)
     refine l_op (o_val (r_bin (a := 10) (b := (tkN s.l : Int)) rfl rfl (fun _ => b_add (by omega) (by omega))) ?_)
     refine l_op (o_val (r_as) ?_)
     first | refine l_end ?_ | refine l_nil ?_
     repeat refine c_seq ?_
     refine wp_held (fun w => Hp w0 w [] [.blk b1 ([V64 (0 : UInt64), .string ⟨(([] : List UInt8)).toArray⟩, V8 (0 : UInt8), VI 0, VI 0, .slice none 0 0] ++ (List.replicate 32 (0 : UInt8)).map V8) 76]) mixed ?_
     replace H := H.drew
     have HS := H.sub (.cons_cons _ (List.nil_sublist _))
     refine t_take 0 rfl (by kernel_rfl) (by kernel_rfl) (by kernel_rfl) (fun _ _ _ h => h) (fun w HS => r_mv) HS ?_
     refine t_take 1 rfl (by kernel_rfl) (by kernel_rfl) (by kernel_rfl) (fun _ _ _ h => h) (fun w HS => r_mv) HS ?_
     refine t_take 2 rfl (by kernel_rfl) (by kernel_rfl) (by kernel_rfl) (fun _ _ _ h => h) (fun w HS => r_slS (s := s) 10 (10 + tkN s.l) s.cap (lv := some (VI 10)) (hv := some (VI (10 + (tkN s.l : Int)))) (mv := none) rfl el29 rfl rfl rfl (fun w => by exact sblh 10 (10 + tkN s.l) (by omega) (by omega) (by omega) (by omega) w)) HS ?_
     refine t_take 3 rfl (by kernel_rfl) (by kernel_rfl) (by kernel_rfl) (fun _ _ _ h => h) (fun w HS => r_b2S (s := (Sl.cut s 10 (10 + tkN s.l) s.cap)) Try.underlying29 Try.underlying5 Try.underlying9 rfl ((hs.up HS (fun _ => apart_nil _)).cut (l := 10) (h := 10 + tkN s.l) (m := s.cap) (by omega) (by omega) (by omega) (by omega))) HS ?_
     refine t_take 4 rfl (by kernel_rfl) (by kernel_rfl) (by kernel_rfl) (fun _ _ _ h => h) (fun w HS => r_mv) HS ?_
     refine t_take 5 rfl (by kernel_rfl) (by kernel_rfl) (by kernel_rfl) (fun _ _ _ h => h) (fun w HS => r_mv) HS ?_
     refine t_take 6 rfl (by kernel_rfl) (by kernel_rfl) (by kernel_rfl) (fun _ _ _ h => h) (fun w HS => r_isN (10 + (tkN s.l)) rfl rfl el29 ah6 (by omega) (by (try simp only [Sl.cut]); omega)) HS ?_
     refine t_take 7 rfl (by kernel_rfl) (by kernel_rfl) (by kernel_rfl) (fun _ _ _ h => h) (fun w HS => r_ldB (s := s) (k := 10 + (tkN s.l)) (hs.up HS (fun _ => apart_nil _)) ah6 rfl ct5 (by (try simp only [Sl.cut]); omega)) HS ?_
     refine t_take 8 rfl (by kernel_rfl) (by kernel_rfl) (by kernel_rfl) (fun _ _ _ h => h) (fun w HS => r_fa rfl fo76_1) HS ?_
     refine t_step 9 rfl (by kernel_rfl) (o_st (v := .string ⟨((s.l.drop 10).take (10 + tkN s.l - 10)).toArray⟩) H (i := 1) rfl rfl rfl cs9 rfl (by simp only [List.length_append, List.length_cons, List.length_nil]; omega) (fun w H => ?_))
     replace H : Hp _ w _ ([_, .blk b3 ([V64 (num s.l 1 8), .string ⟨((s.l.drop 10).take (10 + tkN s.l - 10)).toArray⟩, V8 (0 : UInt8), VI 0, VI 0, .slice none 0 0] ++ (List.replicate 32 (0 : UInt8)).map V8) 76]) := H
     refine ⟨H.sub (.cons_cons _ (List.nil_sublist _)), ?_⟩
     replace HS := H.sub (.cons_cons _ (List.nil_sublist _))
     refine t_take 10 rfl (by kernel_rfl) (by kernel_rfl) (by kernel_rfl) (fun _ _ _ h => h) (fun w HS => r_fa rfl fo76_2) HS ?_
     refine t_step 11 rfl (by kernel_rfl) (o_st (v := V8 ((s.l).getD (10 + (tkN s.l)) 0)) H (i := 1) rfl rfl rfl cs73 rfl (by simp only [List.length_append, List.length_cons, List.length_nil]; omega) (fun w H => ?_))
     replace H : Hp _ w _ ([_, .blk b3 ([V64 (num s.l 1 8), .string ⟨((s.l.drop 10).take (10 + tkN s.l - 10)).toArray⟩, V8 ((s.l).getD (10 + (tkN s.l)) 0), VI 0, VI 0, .slice none 0 0] ++ (List.replicate 32 (0 : UInt8)).map V8) 76]) := H
     refine ⟨H.sub (.cons_cons _ (List.nil_sublist _)), ?_⟩
     replace HS := H.sub (.cons_cons _ (List.nil_sublist _))
     refine t_done (by kernel_rfl) ?_
     clear HS
     repeat refine c_seq ?_
     refine c_region ?_
     refine l_op (o_val (r_mv) ?_)
     refine l_op (o_val (r_mv) ?_)
     refine l_op (o_val (r_bin (a := 10 + (tkN s.l : Int)) (b := 1) rfl rfl (fun _ => b_add (by omega) (by omega))) ?_)
     refine l_op (o_callR Try.func133 rfl rfl rfl (number14_ok _ s (hs.up H (fun _ => apart_nil _)) ((10 + (tkN s.l : Int)) + 1) (11 + tkN s.l) (by omega) (by omega) (by omega)) ?_)
     rintro _ w ⟨rfl, Hc⟩
     replace H : Hp _ w _ ([_, _]) := H.call Hc
     clear Hc
     refine l_op (o_callR Try.func134 rfl rfl rfl (zag1_ret _ (num s.l (11 + tkN s.l) 8)) ?_)
     rintro _ w ⟨rfl, Hc⟩
     replace H : Hp _ w _ ([_, _]) := H.call Hc
     clear Hc
     refine l_op (o_val (r_mv) ?_)
     refine l_op (o_val (r_mv) ?_)
     refine l_op (o_val (r_bin (a := 10 + (tkN s.l : Int)) (b := 9) rfl rfl (fun _ => b_add (by omega) (by omega))) ?_)
     refine l_op (o_callR Try.func133 rfl rfl rfl (number14_ok _ s (hs.up H (fun _ => apart_nil _)) ((10 + (tkN s.l : Int)) + 9) (19 + tkN s.l) (by omega) (by omega) (by omega)) ?_)
     rintro _ w ⟨rfl, Hc⟩
     replace H : Hp _ w _ ([_, _]) := H.call Hc
     clear Hc
     refine l_op (o_callR Try.func134 rfl rfl rfl (zag1_ret _ (num s.l (19 + tkN s.l) 8)) ?_)
     rintro _ w ⟨rfl, Hc⟩
     replace H : Hp _ w _ ([_, _]) := H.call Hc
     clear Hc
     refine l_op (o_val (r_fa rfl fo76_3) ?_)
     refine l_op (o_st (v := VI (zagU (num s.l (11 + tkN s.l) 8))) H (i := 1) rfl rfl rfl cs2 rfl (by simp only [List.length_append, List.length_cons, List.length_nil]; omega) (fun w H => ?_))
     replace H : Hp _ w _ ([_, .blk b3 ([V64 (num s.l 1 8), .string ⟨((s.l.drop 10).take (10 + tkN s.l - 10)).toArray⟩, V8 ((s.l).getD (10 + (tkN s.l)) 0), VI (zagU (num s.l (11 + tkN s.l) 8)), VI 0, .slice none 0 0] ++ (List.replicate 32 (0 : UInt8)).map V8) 76]) := H
     refine l_op (o_val (r_fa rfl fo76_4) ?_)
     refine l_op (o_st (v := VI (zagU (num s.l (19 + tkN s.l) 8))) H (i := 1) rfl rfl rfl cs2 rfl (by simp only [List.length_append, List.length_cons, List.length_nil]; omega) (fun w H => ?_))
     replace H : Hp _ w _ ([_, .blk b3 ([V64 (num s.l 1 8), .string ⟨((s.l.drop 10).take (10 + tkN s.l - 10)).toArray⟩, V8 ((s.l).getD (10 + (tkN s.l)) 0), VI (zagU (num s.l (11 + tkN s.l) 8)), VI (zagU (num s.l (19 + tkN s.l) 8)), .slice none 0 0] ++ (List.replicate 32 (0 : UInt8)).map V8) 76]) := H
     first | refine l_end ?_ | refine l_nil ?_
     repeat refine c_seq ?_
     refine c_region ?_
     refine l_op (o_val (r_mv) ?_)
     refine l_op (o_val (r_mv) ?_)
     refine l_op (o_val (r_bin (a := 10 + (tkN s.l : Int)) (b := 17) rfl rfl (fun _ => b_add (by omega) (by omega))) ?_)
     refine l_op (o_val (r_isN (27 + tkN s.l) rfl rfl el29 ah6 (by omega) (by omega)) ?_)
     refine l_op (o_val (r_ldB (s := s) (k := 27 + tkN s.l) (hs.up H (fun _ => apart_nil _)) ah6 rfl ct5 (by (try simp only [Sl.cut]); omega)) ?_)
     refine l_op (o_val (r_conv Try.underlying5 Try.underlying3 rfl (w_i64_8 _)) ?_)
     refine l_op (o_val (r_as) ?_)
     first | refine l_end ?_ | refine l_nil ?_
     repeat refine c_seq ?_
     refine c_region ?_
     refine l_op (o_val (r_mv) ?_)
     refine l_op (o_val (r_bin (a := 10 + (tkN s.l : Int)) (b := 18) rfl rfl (fun _ => b_add (by omega) (by omega))) ?_)
     refine l_op (o_val (r_as) ?_)
     first | refine l_end ?_ | refine l_nil ?_
     repeat refine c_seq ?_
     refine c_region ?_
     refine l_op (o_val (r_mv) ?_)
     refine l_op (o_val (r_bin (a := (tkK s.l : Int)) (b := 8) rfl rfl (fun _ => b_gtr)) ?_)
     refine l_op (o_val (r_mv) ?_)
     by_cases hc9 : 8 < (tkK s.l : Int)
     ·
      refine l_no rfl rfl (by exact congrArg Value.bool (decide_eq_true hc9)) rfl ?_
      refine l_no rfl rfl (by exact congrArg Value.bool (decide_eq_true hc9)) rfl ?_
      refine l_no rfl rfl (by exact congrArg Value.bool (decide_eq_true hc9)) rfl ?_
      refine l_no rfl rfl (by exact congrArg Value.bool (decide_eq_true hc9)) rfl ?_
      refine l_no rfl rfl (by exact congrArg Value.bool (decide_eq_true hc9)) rfl ?_
      refine l_no rfl rfl (by exact congrArg Value.bool (decide_eq_true hc9)) rfl ?_
      refine l_no rfl rfl (by exact congrArg Value.bool (decide_eq_true hc9)) rfl ?_
      refine l_no rfl rfl (by exact congrArg Value.bool (decide_eq_true hc9)) rfl ?_
      refine l_op (o_val (r_pick (b := true) (congrArg Value.bool (decide_eq_true hc9))) ?_)
      first | refine l_end ?_ | refine l_nil ?_
      repeat refine c_seq ?_
      refine c_yes rfl ?_
      repeat refine c_seq ?_
      refine c_region ?_
      refine l_op (o_val (r_bld' (cells := ([V64 (0 : UInt64), .string ⟨(([] : List UInt8)).toArray⟩, V8 (0 : UInt8), VI 0, VI 0, .slice none 0 0] ++ (List.replicate 32 (0 : UInt8)).map V8).toArray) (pv := []) bd76 rfl rfl) ?_)
      refine l_op (o_stW (C' := [V64 (0 : UInt64), .string ⟨(([] : List UInt8)).toArray⟩, V8 (0 : UInt8), VI 0, VI 0, .slice none 0 0] ++ (List.replicate 32 (0 : UInt8)).map V8) H (i := 0) rfl rfl rfl cs76 (by simp [Value.oneCell']) (by rw [List.length_append, List.length_map, (show (List.replicate 32 (0 : UInt8)).length = 32 from (List.length_replicate ..))]; rfl) (by rw [List.length_append, List.length_map, (show (List.replicate 32 (0 : UInt8)).length = 32 from (List.length_replicate ..))]; rfl) (fun w H => ?_))
      replace H : Hp _ w _ [_, _] := H
      refine l_op (o_val (r_as) ?_)
      first | refine l_end ?_ | refine l_nil ?_
      refine c_ret ?_
      try dsimp only [Exit.then, Exit.inBlock]
      refine e_retN (vs := [.agg ([V64 (0 : UInt64), .string ⟨(([] : List UInt8)).toArray⟩, V8 (0 : UInt8), VI 0, VI 0, .slice none 0 0] ++ (List.replicate 32 (0 : UInt8)).map V8).toArray, VI 4]) _ Try.results103 rfl (H.resR (C := [V64 (0 : UInt64), .string ⟨(([] : List UInt8)).toArray⟩, V8 (0 : UInt8), VI 0, VI 0, .slice none 0 0] ++ (List.replicate 32 (0 : UInt8)).map V8) (i := 0) rfl rfl rt76 (by rw [List.length_append, List.length_map, (show (List.replicate 32 (0 : UInt8)).length = 32 from (List.length_replicate ..))]; rfl) (resT (v := VI 4) rfl (resZ))) ?_
      refine ⟨_, rfl, ?_⟩
      refine .inl ⟨?_, rfl, H.sub (List.nil_sublist _)⟩
      exact Classical.byContradiction fun hp => by
        obtain ⟨q1, q2, q3, q4⟩ := parse_len _ hp
        omega
     ·
      refine l_yes rfl rfl (by exact congrArg Value.bool (decide_eq_false hc9)) (o_val (r_mv) ?_)
      refine l_yes rfl rfl (by exact congrArg Value.bool (decide_eq_false hc9)) (o_val (r_lens el29 rfl) ?_)
      refine l_yes rfl rfl (by exact congrArg Value.bool (decide_eq_false hc9)) (o_val (r_mv) ?_)
      refine l_yes rfl rfl (by exact congrArg Value.bool (decide_eq_false hc9)) (o_val (r_mv) ?_)
      refine l_yes rfl rfl (by exact congrArg Value.bool (decide_eq_false hc9)) (o_val (r_bin (a := 9) (b := (tkK s.l : Int)) rfl rfl (fun _ => b_mul (by omega) (by omega))) ?_)
      refine l_yes rfl rfl (by exact congrArg Value.bool (decide_eq_false hc9)) (o_val (r_bin (a := (10 + (tkN s.l : Int)) + 18) (b := 9 * (tkK s.l : Int)) rfl rfl (fun _ => b_add (by omega) (by omega))) ?_)
      refine l_yes rfl rfl (by exact congrArg Value.bool (decide_eq_false hc9)) (o_val (r_bin (a := ((10 + (tkN s.l : Int)) + 18) + (9 * (tkK s.l : Int))) (b := 32) rfl rfl (fun _ => b_add (by omega) (by omega))) ?_)
      refine l_yes rfl rfl (by exact congrArg Value.bool (decide_eq_false hc9)) (o_val (r_bin (a := (s.len : Int)) (b := (((10 + (tkN s.l : Int)) + 18) + (9 * (tkK s.l : Int))) + 32) rfl rfl (fun _ => b_neq)) ?_)
      refine l_op (o_val (r_pick (b := false) (congrArg Value.bool (decide_eq_false hc9))) ?_)
      first | refine l_end ?_ | refine l_nil ?_
      by_cases hc10 : (s.len : Int) ≠ (((10 + (tkN s.l : Int)) + 18) + (9 * (tkK s.l : Int))) + 32
      ·
       repeat refine c_seq ?_
       refine c_yes (by exact congrArg Value.bool (decide_eq_true hc10)) ?_
       repeat refine c_seq ?_
       refine c_region ?_
       refine l_op (o_val (r_bld' (cells := ([V64 (0 : UInt64), .string ⟨(([] : List UInt8)).toArray⟩, V8 (0 : UInt8), VI 0, VI 0, .slice none 0 0] ++ (List.replicate 32 (0 : UInt8)).map V8).toArray) (pv := []) bd76 rfl rfl) ?_)
       refine l_op (o_stW (C' := [V64 (0 : UInt64), .string ⟨(([] : List UInt8)).toArray⟩, V8 (0 : UInt8), VI 0, VI 0, .slice none 0 0] ++ (List.replicate 32 (0 : UInt8)).map V8) H (i := 0) rfl rfl rfl cs76 (by simp [Value.oneCell']) (by rw [List.length_append, List.length_map, (show (List.replicate 32 (0 : UInt8)).length = 32 from (List.length_replicate ..))]; rfl) (by rw [List.length_append, List.length_map, (show (List.replicate 32 (0 : UInt8)).length = 32 from (List.length_replicate ..))]; rfl) (fun w H => ?_))
       replace H : Hp _ w _ [_, _] := H
       refine l_op (o_val (r_as) ?_)
       first | refine l_end ?_ | refine l_nil ?_
       refine c_ret ?_
       try dsimp only [Exit.then, Exit.inBlock]
       refine e_retN (vs := [.agg ([V64 (0 : UInt64), .string ⟨(([] : List UInt8)).toArray⟩, V8 (0 : UInt8), VI 0, VI 0, .slice none 0 0] ++ (List.replicate 32 (0 : UInt8)).map V8).toArray, VI 4]) _ Try.results103 rfl (H.resR (C := [V64 (0 : UInt64), .string ⟨(([] : List UInt8)).toArray⟩, V8 (0 : UInt8), VI 0, VI 0, .slice none 0 0] ++ (List.replicate 32 (0 : UInt8)).map V8) (i := 0) rfl rfl rt76 (by rw [List.length_append, List.length_map, (show (List.replicate 32 (0 : UInt8)).length = 32 from (List.length_replicate ..))]; rfl) (resT (v := VI 4) rfl (resZ))) ?_
       refine ⟨_, rfl, ?_⟩
       refine .inl ⟨?_, rfl, H.sub (List.nil_sublist _)⟩
       exact Classical.byContradiction fun hp => by
         obtain ⟨q1, q2, q3, q4⟩ := parse_len _ hp
         omega
      ·
       repeat refine c_seq ?_
       refine c_no (by exact congrArg Value.bool (decide_eq_false hc10)) ?_
       refine c_skip ?_
       repeat refine c_seq ?_
       refine c_region ?_
       refine l_op (o_val (r_as) ?_)
       first | refine l_end ?_ | refine l_nil ?_
       repeat refine c_seq ?_
       refine c_block ?_
       repeat refine c_seq ?_
       refine c_loop5 (fun (i : Nat) (ai : Int) (cs : List Cav) (a : Option Nat) (k : Nat) => [(0, s.v), (2, .pointer (some ⟨b1, 0, none⟩)), (4, .pointer (some ⟨b3, 0, none⟩)), (6, VI ai), (7, VI (tkK s.l : Int)), (8, VI (i : Int))])
         (fun (i : Nat) (ai : Int) (cs : List Cav) (a : Option Nat) (k : Nat) w => (i ≤ tkK s.l ∧ ai = 28 + tkN s.l + 9 * i ∧ cavsAt i (s.l.drop (28 + tkN s.l)) = cs) ∧ Hp w0 w [] ([.blk b1 ([V64 (0 : UInt64), .string ⟨(([] : List UInt8)).toArray⟩, V8 (0 : UInt8), VI 0, VI 0, .slice none 0 0] ++ (List.replicate 32 (0 : UInt8)).map V8) 76, .blk b3 ([V64 (num s.l 1 8), .string ⟨((s.l.drop 10).take (10 + tkN s.l - 10)).toArray⟩, V8 ((s.l).getD (10 + (tkN s.l)) 0), VI (zagU (num s.l (11 + tkN s.l) 8)), VI (zagU (num s.l (19 + tkN s.l) 8)), .slice (hd a) i k] ++ (List.replicate 32 (0 : UInt8)).map V8) 76, .own a i k ((cs).flatMap cavE) 78 2]))
         (fun (i : Nat) (ai : Int) (cs : List Cav) (a : Option Nat) (k : Nat) => tkK s.l - i) 0 ((10 + (tkN s.l : Int)) + 18) ([]) none 0 ⟨rfl, rfl, rfl, rfl, rfl, rfl, trivial⟩ ⟨⟨Nat.zero_le _, by omega, rfl⟩, (H.nilEnd 78 2)⟩ ?_
       clear H
       rintro i ai cs a k τ w ⟨⟨hi, hai, hcs⟩, H⟩
       repeat refine c_seq ?_
       refine c_region ?_
       refine l_op (o_val (r_mv) ?_)
       refine l_op (o_val (r_mv) ?_)
       refine l_op (o_val (r_bin (a := (i : Int)) (b := (tkK s.l : Int)) rfl rfl (fun _ => b_lss)) ?_)
       first | refine l_end ?_ | refine l_nil ?_
       by_cases hc11 : (i : Int) < (tkK s.l : Int)
       ·
        repeat refine c_seq ?_
        refine c_yes (by exact congrArg Value.bool (decide_eq_true hc11)) ?_
        refine c_skip ?_
        repeat refine c_seq ?_
        refine c_block ?_
        repeat refine c_seq ?_
        refine wp_held (fun w => Hp w0 w [] [.blk b1 ([V64 (0 : UInt64), .string ⟨(([] : List UInt8)).toArray⟩, V8 (0 : UInt8), VI 0, VI 0, .slice none 0 0] ++ (List.replicate 32 (0 : UInt8)).map V8) 76]) mixed ?_
        replace H := H.drew
        have HS := H.sub (.cons_cons _ (List.nil_sublist _))
        refine t_take 0 rfl (by kernel_rfl) (by kernel_rfl) (by kernel_rfl) (fun _ _ _ h => h) (fun w HS => r_fa rfl fo76_5) HS ?_
        refine t_take 2 rfl (by kernel_rfl) (by kernel_rfl) (by kernel_rfl) (fun _ _ _ h => h) (fun w HS => r_mv) HS ?_
        refine t_take 3 rfl (by kernel_rfl) (by kernel_rfl) (by kernel_rfl) (fun _ _ _ h => h) (fun w HS => r_mv) HS ?_
        refine t_take 4 rfl (by kernel_rfl) (by kernel_rfl) (by kernel_rfl) (fun _ _ _ h => h) (fun w HS => r_isN (28 + tkN s.l + 9 * i) rfl rfl el29 ah6 (by omega) (by omega)) HS ?_
        refine t_take 5 rfl (by kernel_rfl) (by kernel_rfl) (by kernel_rfl) (fun _ _ _ h => h) (fun w HS => r_ldB (s := s) (k := 28 + tkN s.l + 9 * i) (hs.up HS (fun _ => apart_nil _)) ah6 rfl ct5 (by (try simp only [Sl.cut]); omega)) HS ?_
        refine t_take 6 rfl (by kernel_rfl) (by kernel_rfl) (by kernel_rfl) (fun _ _ _ h => h) (fun w HS => r_mv) HS ?_
        refine t_take 7 rfl (by kernel_rfl) (by kernel_rfl) (by kernel_rfl) (fun _ _ _ h => h) (fun w HS => r_mv) HS ?_
        refine t_take 8 rfl (by kernel_rfl) (by kernel_rfl) (by kernel_rfl) (fun _ _ _ h => h) (fun w HS => r_bin (a := ai) (b := 1) rfl rfl (fun _ => b_add (by omega) (by omega))) HS ?_
        refine t_all [1, 9] (by kernel_rfl) (by simp) (all_cons (w_op 1 rfl ?_) (all_cons (w_op 9 rfl ?_) (all_nil)))
        ·
         refine (o_val (r_ld (v := .slice (hd a) i k) H (i := 1) rfl rfl ct74 rfl) ?_)
         refine ⟨H.sub (.cons_cons _ (List.nil_sublist _)), ?_⟩
         replace HS := H.sub (.cons_cons _ (List.nil_sublist _))
         refine t_step 9 rfl (by kernel_rfl) (o_callR Try.func133 rfl rfl rfl (number14_ok _ s (hs.up H (fun _ => apart_nil _)) (ai + 1) (28 + tkN s.l + 9 * i + 1) (by omega) (by omega) (by omega)) ?_)
         rintro _ w ⟨rfl, Hc⟩
         replace H : Hp _ w _ ([_, _, _]) := H.call Hc
         clear Hc
         refine ⟨H.sub (.cons_cons _ (List.nil_sublist _)), ?_⟩
         replace HS := H.sub (.cons_cons _ (List.nil_sublist _))
         refine t_step 10 rfl (by kernel_rfl) (o_callR Try.func134 rfl rfl rfl (zag1_ret _ (num s.l (28 + tkN s.l + 9 * i + 1) 8)) ?_)
         rintro _ w ⟨rfl, Hc⟩
         replace H : Hp _ w _ ([_, _, _]) := H.call Hc
         clear Hc
         refine ⟨H.sub (.cons_cons _ (List.nil_sublist _)), ?_⟩
         replace HS := H.sub (.cons_cons _ (List.nil_sublist _))
         refine t_take 11 rfl (by kernel_rfl) (by kernel_rfl) (by kernel_rfl) (fun _ _ _ h => h) (fun w HS => r_bld' (cells := ([V8 ((s.l).getD (28 + tkN s.l + 9 * i) 0), VI (zagU (num s.l (28 + tkN s.l + 9 * i + 1) 8))]).toArray) (pv := [(0, V8 ((s.l).getD (28 + tkN s.l + 9 * i) 0)), (1, VI (zagU (num s.l (28 + tkN s.l + 9 * i + 1) 8)))]) bd78 rfl rfl) HS ?_
         refine t_step 12 rfl (by kernel_rfl) (o_bslG1 (enc := cavE) (((s.l).getD (28 + tkN s.l + 9 * i) 0, zagU (num s.l (28 + tkN s.l + 9 * i + 1) 8))) H sl74 zc78 (by rfl) (by decide) (by decide) rfl rfl (fun b12 w H hb12 => ?_))
         replace H : Hp _ w _ ([_, _, _, .own (some b12) 1 1 (([((s.l).getD (28 + tkN s.l + 9 * i) 0, zagU (num s.l (28 + tkN s.l + 9 * i + 1) 8))]).flatMap cavE) 78 2]) := H
         refine ⟨H.sub (.cons_cons _ (List.nil_sublist _)), ?_⟩
         replace HS := H.sub (.cons_cons _ (List.nil_sublist _))
         refine t_step 13 rfl (by kernel_rfl) (o_appG (enc := cavE) (s := ⟨hd (some b12), 1, 1, [((s.l).getD (28 + tkN s.l + 9 * i) 0, zagU (num s.l (28 + tkN s.l + 9 * i + 1) 8))]⟩) (l' := cs ++ ([((s.l).getD (28 + tkN s.l + 9 * i) 0, zagU (num s.l (28 + tkN s.l + 9 * i + 1) 8))])) (len' := i + 1) rfl rfl H (i := 2) rfl sl74 Try.underlying74 rfl rfl (H.glOwn (i := 3) rfl (by decide) (fun _ _ => rfl)) (by decide) (fun _ _ => rfl) (by omega) (by decide) (fun a13 c14 w H => ?_))
         replace H : Hp _ w _ ([_, _, .own a13 (i + 1) c14 ((cs ++ ([((s.l).getD (28 + tkN s.l + 9 * i) 0, zagU (num s.l (28 + tkN s.l + 9 * i + 1) 8))])).flatMap cavE) 78 2, _]) := H
         refine ⟨H.sub (.cons_cons _ (List.nil_sublist _)), ?_⟩
         replace HS := H.sub (.cons_cons _ (List.nil_sublist _))
         refine t_take 14 rfl (by kernel_rfl) (by kernel_rfl) (by kernel_rfl) (fun _ _ _ h => h) (fun w HS => r_fa rfl fo76_5) HS ?_
         refine t_step 15 rfl (by kernel_rfl) (o_st (v := .slice (hd a13) (i + 1) c14) H (i := 1) rfl rfl rfl cs74 rfl (by simp only [List.length_append, List.length_cons, List.length_nil]; omega) (fun w H => ?_))
         replace H : Hp _ w _ ([_, .blk b3 ([V64 (num s.l 1 8), .string ⟨((s.l.drop 10).take (10 + tkN s.l - 10)).toArray⟩, V8 ((s.l).getD (10 + (tkN s.l)) 0), VI (zagU (num s.l (11 + tkN s.l) 8)), VI (zagU (num s.l (19 + tkN s.l) 8)), .slice (hd a13) (i + 1) c14] ++ (List.replicate 32 (0 : UInt8)).map V8) 76, _, _]) := H
         refine ⟨H.sub (.cons_cons _ (List.nil_sublist _)), ?_⟩
         replace HS := H.sub (.cons_cons _ (List.nil_sublist _))
         refine t_done (by kernel_rfl) ?_
         clear HS
         repeat refine c_seq ?_
         refine c_region ?_
         refine l_op (o_val (r_mv) ?_)
         refine l_op (o_val (r_bin (a := ai) (b := 9) rfl rfl (fun _ => b_add (by omega) (by omega))) ?_)
         refine l_op (o_val (r_as) ?_)
         first | refine l_end ?_ | refine l_nil ?_
         repeat refine c_seq ?_
         refine c_region ?_
         refine l_op (o_val (r_mv) ?_)
         refine l_op (o_val (r_bin (a := (i : Int)) (b := 1) rfl rfl (fun _ => b_add (by omega) (by omega))) ?_)
         refine l_op (o_val (r_as) ?_)
         first | refine l_end ?_ | refine l_nil ?_
         refine round_end (i + 1, ai + 9, cs ++ ([((s.l).getD (28 + tkN s.l + 9 * i) 0, zagU (num s.l (28 + tkN s.l + 9 * i + 1) 8))]), a13, c14) ?_ ?_ ?_
         · exact ⟨rfl, rfl, rfl, show VI (ai + 9) = VI (ai + 9 : Int) from congrArg VI (by omega), rfl, show VI ((i : Int) + 1) = VI ((i + 1 : Nat) : Int) from congrArg VI (by omega), trivial⟩
         · refine ⟨?_, ?_⟩
           · try dsimp only
             exact ⟨by omega, by omega, cavsAt_next s.l (28 + tkN s.l) i cs hcs⟩
           · exact H.sub (.cons_cons _ (.cons_cons _ (.cons_cons _ (List.nil_sublist _))))
         · show tkK s.l - (i + 1 : Nat) < tkK s.l - i; omega
        ·
         refine (o_callR Try.func133 rfl rfl rfl (number14_ok _ s (hs.up H (fun _ => apart_nil _)) (ai + 1) (28 + tkN s.l + 9 * i + 1) (by omega) (by omega) (by omega)) ?_)
         rintro _ w ⟨rfl, Hc⟩
         replace H : Hp _ w _ ([_, _, _]) := H.call Hc
         clear Hc
         refine ⟨H.sub (.cons_cons _ (List.nil_sublist _)), ?_⟩
         replace HS := H.sub (.cons_cons _ (List.nil_sublist _))
         refine t_all [1, 10] (by kernel_rfl) (by simp) (all_cons (w_op 1 rfl ?_) (all_cons (w_op 10 rfl ?_) (all_nil)))
         ·
          refine (o_val (r_ld (v := .slice (hd a) i k) H (i := 1) rfl rfl ct74 rfl) ?_)
          refine ⟨H.sub (.cons_cons _ (List.nil_sublist _)), ?_⟩
          replace HS := H.sub (.cons_cons _ (List.nil_sublist _))
          refine t_step 10 rfl (by kernel_rfl) (o_callR Try.func134 rfl rfl rfl (zag1_ret _ (num s.l (28 + tkN s.l + 9 * i + 1) 8)) ?_)
          rintro _ w ⟨rfl, Hc⟩
          replace H : Hp _ w _ ([_, _, _]) := H.call Hc
          clear Hc
          refine ⟨H.sub (.cons_cons _ (List.nil_sublist _)), ?_⟩
          replace HS := H.sub (.cons_cons _ (List.nil_sublist _))
          refine t_take 11 rfl (by kernel_rfl) (by kernel_rfl) (by kernel_rfl) (fun _ _ _ h => h) (fun w HS => r_bld' (cells := ([V8 ((s.l).getD (28 + tkN s.l + 9 * i) 0), VI (zagU (num s.l (28 + tkN s.l + 9 * i + 1) 8))]).toArray) (pv := [(0, V8 ((s.l).getD (28 + tkN s.l + 9 * i) 0)), (1, VI (zagU (num s.l (28 + tkN s.l + 9 * i + 1) 8)))]) bd78 rfl rfl) HS ?_
          refine t_step 12 rfl (by kernel_rfl) (o_bslG1 (enc := cavE) (((s.l).getD (28 + tkN s.l + 9 * i) 0, zagU (num s.l (28 + tkN s.l + 9 * i + 1) 8))) H sl74 zc78 (by rfl) (by decide) (by decide) rfl rfl (fun b15 w H hb15 => ?_))
          replace H : Hp _ w _ ([_, _, _, .own (some b15) 1 1 (([((s.l).getD (28 + tkN s.l + 9 * i) 0, zagU (num s.l (28 + tkN s.l + 9 * i + 1) 8))]).flatMap cavE) 78 2]) := H
          refine ⟨H.sub (.cons_cons _ (List.nil_sublist _)), ?_⟩
          replace HS := H.sub (.cons_cons _ (List.nil_sublist _))
          refine t_step 13 rfl (by kernel_rfl) (o_appG (enc := cavE) (s := ⟨hd (some b15), 1, 1, [((s.l).getD (28 + tkN s.l + 9 * i) 0, zagU (num s.l (28 + tkN s.l + 9 * i + 1) 8))]⟩) (l' := cs ++ ([((s.l).getD (28 + tkN s.l + 9 * i) 0, zagU (num s.l (28 + tkN s.l + 9 * i + 1) 8))])) (len' := i + 1) rfl rfl H (i := 2) rfl sl74 Try.underlying74 rfl rfl (H.glOwn (i := 3) rfl (by decide) (fun _ _ => rfl)) (by decide) (fun _ _ => rfl) (by omega) (by decide) (fun a16 c17 w H => ?_))
          replace H : Hp _ w _ ([_, _, .own a16 (i + 1) c17 ((cs ++ ([((s.l).getD (28 + tkN s.l + 9 * i) 0, zagU (num s.l (28 + tkN s.l + 9 * i + 1) 8))])).flatMap cavE) 78 2, _]) := H
          refine ⟨H.sub (.cons_cons _ (List.nil_sublist _)), ?_⟩
          replace HS := H.sub (.cons_cons _ (List.nil_sublist _))
          refine t_take 14 rfl (by kernel_rfl) (by kernel_rfl) (by kernel_rfl) (fun _ _ _ h => h) (fun w HS => r_fa rfl fo76_5) HS ?_
          refine t_step 15 rfl (by kernel_rfl) (o_st (v := .slice (hd a16) (i + 1) c17) H (i := 1) rfl rfl rfl cs74 rfl (by simp only [List.length_append, List.length_cons, List.length_nil]; omega) (fun w H => ?_))
          replace H : Hp _ w _ ([_, .blk b3 ([V64 (num s.l 1 8), .string ⟨((s.l.drop 10).take (10 + tkN s.l - 10)).toArray⟩, V8 ((s.l).getD (10 + (tkN s.l)) 0), VI (zagU (num s.l (11 + tkN s.l) 8)), VI (zagU (num s.l (19 + tkN s.l) 8)), .slice (hd a16) (i + 1) c17] ++ (List.replicate 32 (0 : UInt8)).map V8) 76, _, _]) := H
          refine ⟨H.sub (.cons_cons _ (List.nil_sublist _)), ?_⟩
          replace HS := H.sub (.cons_cons _ (List.nil_sublist _))
          refine t_done (by kernel_rfl) ?_
          clear HS
          repeat refine c_seq ?_
          refine c_region ?_
          refine l_op (o_val (r_mv) ?_)
          refine l_op (o_val (r_bin (a := ai) (b := 9) rfl rfl (fun _ => b_add (by omega) (by omega))) ?_)
          refine l_op (o_val (r_as) ?_)
          first | refine l_end ?_ | refine l_nil ?_
          repeat refine c_seq ?_
          refine c_region ?_
          refine l_op (o_val (r_mv) ?_)
          refine l_op (o_val (r_bin (a := (i : Int)) (b := 1) rfl rfl (fun _ => b_add (by omega) (by omega))) ?_)
          refine l_op (o_val (r_as) ?_)
          first | refine l_end ?_ | refine l_nil ?_
          refine round_end (i + 1, ai + 9, cs ++ ([((s.l).getD (28 + tkN s.l + 9 * i) 0, zagU (num s.l (28 + tkN s.l + 9 * i + 1) 8))]), a16, c17) ?_ ?_ ?_
          · exact ⟨rfl, rfl, rfl, show VI (ai + 9) = VI (ai + 9 : Int) from congrArg VI (by omega), rfl, show VI ((i : Int) + 1) = VI ((i + 1 : Nat) : Int) from congrArg VI (by omega), trivial⟩
          · refine ⟨?_, ?_⟩
            · try dsimp only
              exact ⟨by omega, by omega, cavsAt_next s.l (28 + tkN s.l) i cs hcs⟩
            · exact H.sub (.cons_cons _ (.cons_cons _ (.cons_cons _ (List.nil_sublist _))))
          · show tkK s.l - (i + 1 : Nat) < tkK s.l - i; omega
         ·
          refine (o_callR Try.func134 rfl rfl rfl (zag1_ret _ (num s.l (28 + tkN s.l + 9 * i + 1) 8)) ?_)
          rintro _ w ⟨rfl, Hc⟩
          replace H : Hp _ w _ ([_, _, _]) := H.call Hc
          clear Hc
          refine ⟨H.sub (.cons_cons _ (List.nil_sublist _)), ?_⟩
          replace HS := H.sub (.cons_cons _ (List.nil_sublist _))
          refine t_take 11 rfl (by kernel_rfl) (by kernel_rfl) (by kernel_rfl) (fun _ _ _ h => h) (fun w HS => r_bld' (cells := ([V8 ((s.l).getD (28 + tkN s.l + 9 * i) 0), VI (zagU (num s.l (28 + tkN s.l + 9 * i + 1) 8))]).toArray) (pv := [(0, V8 ((s.l).getD (28 + tkN s.l + 9 * i) 0)), (1, VI (zagU (num s.l (28 + tkN s.l + 9 * i + 1) 8)))]) bd78 rfl rfl) HS ?_
          refine t_all [1, 12] (by kernel_rfl) (by simp) (all_cons (w_op 1 rfl ?_) (all_cons (w_op 12 rfl ?_) (all_nil)))
          ·
           refine (o_val (r_ld (v := .slice (hd a) i k) H (i := 1) rfl rfl ct74 rfl) ?_)
           refine ⟨H.sub (.cons_cons _ (List.nil_sublist _)), ?_⟩
           replace HS := H.sub (.cons_cons _ (List.nil_sublist _))
           refine t_step 12 rfl (by kernel_rfl) (o_bslG1 (enc := cavE) (((s.l).getD (28 + tkN s.l + 9 * i) 0, zagU (num s.l (28 + tkN s.l + 9 * i + 1) 8))) H sl74 zc78 (by rfl) (by decide) (by decide) rfl rfl (fun b18 w H hb18 => ?_))
           replace H : Hp _ w _ ([_, _, _, .own (some b18) 1 1 (([((s.l).getD (28 + tkN s.l + 9 * i) 0, zagU (num s.l (28 + tkN s.l + 9 * i + 1) 8))]).flatMap cavE) 78 2]) := H
           refine ⟨H.sub (.cons_cons _ (List.nil_sublist _)), ?_⟩
           replace HS := H.sub (.cons_cons _ (List.nil_sublist _))
           refine t_step 13 rfl (by kernel_rfl) (o_appG (enc := cavE) (s := ⟨hd (some b18), 1, 1, [((s.l).getD (28 + tkN s.l + 9 * i) 0, zagU (num s.l (28 + tkN s.l + 9 * i + 1) 8))]⟩) (l' := cs ++ ([((s.l).getD (28 + tkN s.l + 9 * i) 0, zagU (num s.l (28 + tkN s.l + 9 * i + 1) 8))])) (len' := i + 1) rfl rfl H (i := 2) rfl sl74 Try.underlying74 rfl rfl (H.glOwn (i := 3) rfl (by decide) (fun _ _ => rfl)) (by decide) (fun _ _ => rfl) (by omega) (by decide) (fun a19 c20 w H => ?_))
           replace H : Hp _ w _ ([_, _, .own a19 (i + 1) c20 ((cs ++ ([((s.l).getD (28 + tkN s.l + 9 * i) 0, zagU (num s.l (28 + tkN s.l + 9 * i + 1) 8))])).flatMap cavE) 78 2, _]) := H
           refine ⟨H.sub (.cons_cons _ (List.nil_sublist _)), ?_⟩
           replace HS := H.sub (.cons_cons _ (List.nil_sublist _))
           refine t_take 14 rfl (by kernel_rfl) (by kernel_rfl) (by kernel_rfl) (fun _ _ _ h => h) (fun w HS => r_fa rfl fo76_5) HS ?_
           refine t_step 15 rfl (by kernel_rfl) (o_st (v := .slice (hd a19) (i + 1) c20) H (i := 1) rfl rfl rfl cs74 rfl (by simp only [List.length_append, List.length_cons, List.length_nil]; omega) (fun w H => ?_))
           replace H : Hp _ w _ ([_, .blk b3 ([V64 (num s.l 1 8), .string ⟨((s.l.drop 10).take (10 + tkN s.l - 10)).toArray⟩, V8 ((s.l).getD (10 + (tkN s.l)) 0), VI (zagU (num s.l (11 + tkN s.l) 8)), VI (zagU (num s.l (19 + tkN s.l) 8)), .slice (hd a19) (i + 1) c20] ++ (List.replicate 32 (0 : UInt8)).map V8) 76, _, _]) := H
           refine ⟨H.sub (.cons_cons _ (List.nil_sublist _)), ?_⟩
           replace HS := H.sub (.cons_cons _ (List.nil_sublist _))
           refine t_done (by kernel_rfl) ?_
           clear HS
           repeat refine c_seq ?_
           refine c_region ?_
           refine l_op (o_val (r_mv) ?_)
           refine l_op (o_val (r_bin (a := ai) (b := 9) rfl rfl (fun _ => b_add (by omega) (by omega))) ?_)
           refine l_op (o_val (r_as) ?_)
           first | refine l_end ?_ | refine l_nil ?_
           repeat refine c_seq ?_
           refine c_region ?_
           refine l_op (o_val (r_mv) ?_)
           refine l_op (o_val (r_bin (a := (i : Int)) (b := 1) rfl rfl (fun _ => b_add (by omega) (by omega))) ?_)
           refine l_op (o_val (r_as) ?_)
           first | refine l_end ?_ | refine l_nil ?_
           refine round_end (i + 1, ai + 9, cs ++ ([((s.l).getD (28 + tkN s.l + 9 * i) 0, zagU (num s.l (28 + tkN s.l + 9 * i + 1) 8))]), a19, c20) ?_ ?_ ?_
           · exact ⟨rfl, rfl, rfl, show VI (ai + 9) = VI (ai + 9 : Int) from congrArg VI (by omega), rfl, show VI ((i : Int) + 1) = VI ((i + 1 : Nat) : Int) from congrArg VI (by omega), trivial⟩
           · refine ⟨?_, ?_⟩
             · try dsimp only
               exact ⟨by omega, by omega, cavsAt_next s.l (28 + tkN s.l) i cs hcs⟩
             · exact H.sub (.cons_cons _ (.cons_cons _ (.cons_cons _ (List.nil_sublist _))))
           · show tkK s.l - (i + 1 : Nat) < tkK s.l - i; omega
          ·
           refine (o_bslG1 (enc := cavE) (((s.l).getD (28 + tkN s.l + 9 * i) 0, zagU (num s.l (28 + tkN s.l + 9 * i + 1) 8))) H sl74 zc78 (by rfl) (by decide) (by decide) rfl rfl (fun b21 w H hb21 => ?_))
           replace H : Hp _ w _ ([_, _, _, .own (some b21) 1 1 (([((s.l).getD (28 + tkN s.l + 9 * i) 0, zagU (num s.l (28 + tkN s.l + 9 * i + 1) 8))]).flatMap cavE) 78 2]) := H
           refine ⟨H.sub (.cons_cons _ (List.nil_sublist _)), ?_⟩
           replace HS := H.sub (.cons_cons _ (List.nil_sublist _))
           refine t_step 1 rfl (by kernel_rfl) (o_val (r_ld (v := .slice (hd a) i k) H (i := 1) rfl rfl ct74 rfl) ?_)
           refine ⟨H.sub (.cons_cons _ (List.nil_sublist _)), ?_⟩
           replace HS := H.sub (.cons_cons _ (List.nil_sublist _))
           refine t_step 13 rfl (by kernel_rfl) (o_appG (enc := cavE) (s := ⟨hd (some b21), 1, 1, [((s.l).getD (28 + tkN s.l + 9 * i) 0, zagU (num s.l (28 + tkN s.l + 9 * i + 1) 8))]⟩) (l' := cs ++ ([((s.l).getD (28 + tkN s.l + 9 * i) 0, zagU (num s.l (28 + tkN s.l + 9 * i + 1) 8))])) (len' := i + 1) rfl rfl H (i := 2) rfl sl74 Try.underlying74 rfl rfl (H.glOwn (i := 3) rfl (by decide) (fun _ _ => rfl)) (by decide) (fun _ _ => rfl) (by omega) (by decide) (fun a22 c23 w H => ?_))
           replace H : Hp _ w _ ([_, _, .own a22 (i + 1) c23 ((cs ++ ([((s.l).getD (28 + tkN s.l + 9 * i) 0, zagU (num s.l (28 + tkN s.l + 9 * i + 1) 8))])).flatMap cavE) 78 2, _]) := H
           refine ⟨H.sub (.cons_cons _ (List.nil_sublist _)), ?_⟩
           replace HS := H.sub (.cons_cons _ (List.nil_sublist _))
           refine t_take 14 rfl (by kernel_rfl) (by kernel_rfl) (by kernel_rfl) (fun _ _ _ h => h) (fun w HS => r_fa rfl fo76_5) HS ?_
           refine t_step 15 rfl (by kernel_rfl) (o_st (v := .slice (hd a22) (i + 1) c23) H (i := 1) rfl rfl rfl cs74 rfl (by simp only [List.length_append, List.length_cons, List.length_nil]; omega) (fun w H => ?_))
           replace H : Hp _ w _ ([_, .blk b3 ([V64 (num s.l 1 8), .string ⟨((s.l.drop 10).take (10 + tkN s.l - 10)).toArray⟩, V8 ((s.l).getD (10 + (tkN s.l)) 0), VI (zagU (num s.l (11 + tkN s.l) 8)), VI (zagU (num s.l (19 + tkN s.l) 8)), .slice (hd a22) (i + 1) c23] ++ (List.replicate 32 (0 : UInt8)).map V8) 76, _, _]) := H
           refine ⟨H.sub (.cons_cons _ (List.nil_sublist _)), ?_⟩
           replace HS := H.sub (.cons_cons _ (List.nil_sublist _))
           refine t_done (by kernel_rfl) ?_
           clear HS
           repeat refine c_seq ?_
           refine c_region ?_
           refine l_op (o_val (r_mv) ?_)
           refine l_op (o_val (r_bin (a := ai) (b := 9) rfl rfl (fun _ => b_add (by omega) (by omega))) ?_)
           refine l_op (o_val (r_as) ?_)
           first | refine l_end ?_ | refine l_nil ?_
           repeat refine c_seq ?_
           refine c_region ?_
           refine l_op (o_val (r_mv) ?_)
           refine l_op (o_val (r_bin (a := (i : Int)) (b := 1) rfl rfl (fun _ => b_add (by omega) (by omega))) ?_)
           refine l_op (o_val (r_as) ?_)
           first | refine l_end ?_ | refine l_nil ?_
           refine round_end (i + 1, ai + 9, cs ++ ([((s.l).getD (28 + tkN s.l + 9 * i) 0, zagU (num s.l (28 + tkN s.l + 9 * i + 1) 8))]), a22, c23) ?_ ?_ ?_
           · exact ⟨rfl, rfl, rfl, show VI (ai + 9) = VI (ai + 9 : Int) from congrArg VI (by omega), rfl, show VI ((i : Int) + 1) = VI ((i + 1 : Nat) : Int) from congrArg VI (by omega), trivial⟩
           · refine ⟨?_, ?_⟩
             · try dsimp only
               exact ⟨by omega, by omega, cavsAt_next s.l (28 + tkN s.l) i cs hcs⟩
             · exact H.sub (.cons_cons _ (.cons_cons _ (.cons_cons _ (List.nil_sublist _))))
           · show tkK s.l - (i + 1 : Nat) < tkK s.l - i; omega
       ·
        repeat refine c_seq ?_
        refine c_no (by exact congrArg Value.bool (decide_eq_false hc11)) ?_
        refine c_exit ?_
        repeat refine c_seq ?_
        refine c_region ?_
        refine l_op (o_val (r_mv) ?_)
        refine l_op (o_val (r_mv) ?_)
        refine l_op (o_val (r_mv) ?_)
        refine l_op (o_val (r_bin (a := ai) (b := 32) rfl rfl (fun _ => b_add (by omega) (by omega))) ?_)
        refine l_op (o_val (r_slTl (s := s) (28 + tkN s.l + 9 * tkK s.l) (lv := some (VI ai)) (hv := some (VI (ai + 32))) hsl rfl el29 rfl rfl rfl (fun w => by exact sblh (28 + tkN s.l + 9 * tkK s.l) s.len (by omega) (by omega) (by omega) (by omega) w)) ?_)
        refine l_op (o_val (r_sap Try.underlying31 rfl (by (try simp only [Sl.tl]); omega)) ?_)
        have ah26 := (((hs.up H (fun _ => apart_nil _)).tl (n := 28 + tkN s.l + 9 * tkK s.l) (by omega))).addr (by (try simp only [Sl.tl]); omega)
        obtain ⟨ab24, ao25, ah26⟩ := ah26
        refine l_op (o_val (r_ldSE (s := s.tl (28 + tkN s.l + 9 * tkK s.l)) (k := 32) ((hs.up H (fun _ => apart_nil _)).tl (n := 28 + tkN s.l + 9 * tkK s.l) (by omega)) ah26 rfl rt31 (by decide) (by show s.len - _ = 32; omega)) ?_)
        refine l_op (o_val (r_fa rfl fo76_6) ?_)
        refine l_op (o_stT (pre := [V64 (num s.l 1 8), .string ⟨((s.l.drop 10).take (10 + tkN s.l - 10)).toArray⟩, V8 ((s.l).getD (10 + (tkN s.l)) 0), VI (zagU (num s.l (11 + tkN s.l) 8)), VI (zagU (num s.l (19 + tkN s.l) 8)), .slice (hd a) i k]) (l := List.replicate 32 (0 : UInt8)) (l' := s.l.drop (28 + tkN s.l + 9 * tkK s.l)) H (i := 1) rfl rfl rfl cs31 rfl (show (List.replicate 32 (0 : UInt8)).length = 32 from (List.length_replicate ..)) (show (s.l.drop (28 + tkN s.l + 9 * tkK s.l)).length = 32 from (by rw [List.length_drop]; omega)) (fun w H => ?_))
        replace H : Hp _ w _ ([_, .blk b3 ([V64 (num s.l 1 8), .string ⟨((s.l.drop 10).take (10 + tkN s.l - 10)).toArray⟩, V8 ((s.l).getD (10 + (tkN s.l)) 0), VI (zagU (num s.l (11 + tkN s.l) 8)), VI (zagU (num s.l (19 + tkN s.l) 8)), .slice (hd a) i k] ++ (s.l.drop (28 + tkN s.l + 9 * tkK s.l)).map V8) 76, _]) := H
        first | refine l_end ?_ | refine l_nil ?_
        have hii : i = tkK s.l := by omega
        have hsh : tkShape s.l := ⟨by omega, by omega, by omega, by omega⟩
        have hgl : cs.length = i := ((H.glOwn (i := 2) rfl (by decide) (fun _ _ => rfl))).ln
        have htv : ((⟨num s.l 1 8, (s.l.drop 10).take (10 + tkN s.l - 10), (s.l).getD (10 + (tkN s.l)) 0, zagU (num s.l (11 + tkN s.l) 8), zagU (num s.l (19 + tkN s.l) 8), ⟨hd a, i, k, cs⟩, s.l.drop (28 + tkN s.l + 9 * tkK s.l)⟩ : Tok)).tv = tvAt s.l := by
          rw [tvAt, ← hii, hcs]
          simp only [Tok.tv, show 10 + tkN s.l - 10 = tkN s.l by omega, hii]
        have hbd : Tok.bd (⟨num s.l 1 8, (s.l.drop 10).take (10 + tkN s.l - 10), (s.l).getD (10 + (tkN s.l)) 0, zagU (num s.l (11 + tkN s.l) 8), zagU (num s.l (19 + tkN s.l) 8), ⟨hd a, i, k, cs⟩, s.l.drop (28 + tkN s.l + 9 * tkK s.l)⟩ : Tok) := bd_of_fits _ (by rw [htv]; exact tvAt_fits _ hsh)
        have hby := tvAt_bytes s.l hsh
        have hbt : Tok.bytes (⟨num s.l 1 8, (s.l.drop 10).take (10 + tkN s.l - 10), (s.l).getD (10 + (tkN s.l)) 0, zagU (num s.l (11 + tkN s.l) 8), zagU (num s.l (19 + tkN s.l) 8), ⟨hd a, i, k, cs⟩, s.l.drop (28 + tkN s.l + 9 * tkK s.l)⟩ : Tok) = 1 :: s.l.drop 1 := by rw [bytes_tv _ hgl, htv, hby]
        repeat refine c_seq ?_
        refine c_region ?_
        refine l_op (o_val (r_ldA (C := [V64 (num s.l 1 8), .string ⟨((s.l.drop 10).take (10 + tkN s.l - 10)).toArray⟩, V8 ((s.l).getD (10 + (tkN s.l)) 0), VI (zagU (num s.l (11 + tkN s.l) 8)), VI (zagU (num s.l (19 + tkN s.l) 8)), .slice (hd a) i k] ++ (s.l.drop (28 + tkN s.l + 9 * tkK s.l)).map V8) H (i := 1) rfl rfl rt76 (by rw [List.length_append, List.length_map, (show (s.l.drop (28 + tkN s.l + 9 * tkK s.l)).length = 32 from (by rw [List.length_drop]; omega))]; rfl)) ?_)
        rcases Bool.eq_false_or_eq_true (mayT (⟨num s.l 1 8, (s.l.drop 10).take (10 + tkN s.l - 10), (s.l).getD (10 + (tkN s.l)) 0, zagU (num s.l (11 + tkN s.l) 8), zagU (num s.l (19 + tkN s.l) 8), ⟨hd a, i, k, cs⟩, s.l.drop (28 + tkN s.l + 9 * tkK s.l)⟩ : Tok)) with hc27 | hc27
        ·
         refine l_op (o_callR Try.func82 rfl rfl rfl (bytes14_ok _ (⟨num s.l 1 8, (s.l.drop 10).take (10 + tkN s.l - 10), (s.l).getD (10 + (tkN s.l)) 0, zagU (num s.l (11 + tkN s.l) 8), zagU (num s.l (19 + tkN s.l) 8), ⟨hd a, i, k, cs⟩, s.l.drop (28 + tkN s.l + 9 * tkK s.l)⟩ : Tok) (H.glOwn (i := 2) rfl (by decide) (fun _ _ => rfl)) (show (s.l.drop (28 + tkN s.l + 9 * tkK s.l)).length = 32 from (by rw [List.length_drop]; omega)) (by simp; omega) hbd hc27) ?_)
         rintro _ w ⟨a28, n29, c30, rfl, hn31, Hc⟩
         replace H : Hp _ w _ ([_, _, _, .own a28 n29 c30 ((Tok.bytes (⟨num s.l 1 8, (s.l.drop 10).take (10 + tkN s.l - 10), (s.l).getD (10 + (tkN s.l)) 0, zagU (num s.l (11 + tkN s.l) 8), zagU (num s.l (19 + tkN s.l) 8), ⟨hd a, i, k, cs⟩, s.l.drop (28 + tkN s.l + 9 * tkK s.l)⟩ : Tok)).map V8) 5 1]) := H.call Hc
         clear Hc
         refine l_op (o_val (r_mv) ?_)
         refine l_op (o_val (r_ext rfl rfl) ?_)
         refine l_op (o_val (r_ext rfl rfl) ?_)
         refine l_op (o_val (r_as) ?_)
         refine l_op (o_val (r_as) ?_)
         first | refine l_end ?_ | refine l_nil ?_
         repeat refine c_seq ?_
         refine c_region ?_
         refine l_op (o_val (r_mv) ?_)
         refine l_op (o_val (r_bin (a := 0) (b := 0) rfl rfl (fun _ => b_neqB false (decide_eq_false (by decide)))) ?_)
         refine l_op (o_val (r_mv) ?_)
         refine l_yes rfl rfl rfl (o_val (r_mv) ?_)
         refine l_yes rfl rfl rfl (o_val (r_b2S (s := ⟨hd a28, n29, c30, Tok.bytes (⟨num s.l 1 8, (s.l.drop 10).take (10 + tkN s.l - 10), (s.l).getD (10 + (tkN s.l)) 0, zagU (num s.l (11 + tkN s.l) 8), zagU (num s.l (19 + tkN s.l) 8), ⟨hd a, i, k, cs⟩, s.l.drop (28 + tkN s.l + 9 * tkK s.l)⟩ : Tok)⟩) Try.underlying29 Try.underlying5 Try.underlying9 rfl (H.slOwn (i := 3) rfl)) ?_)
         refine l_yes rfl rfl rfl (o_val (r_mv) ?_)
         refine l_yes rfl rfl rfl (o_val (r_b2S (s := s) Try.underlying29 Try.underlying5 Try.underlying9 rfl (hs.up H (fun _ => apart_nil _))) ?_)
         refine l_yes rfl rfl rfl (o_val (r_strne (a := Tok.bytes (⟨num s.l 1 8, (s.l.drop 10).take (10 + tkN s.l - 10), (s.l).getD (10 + (tkN s.l)) 0, zagU (num s.l (11 + tkN s.l) 8), zagU (num s.l (19 + tkN s.l) 8), ⟨hd a, i, k, cs⟩, s.l.drop (28 + tkN s.l + 9 * tkK s.l)⟩ : Tok)) (b := s.l) rfl rfl) ?_)
         refine l_op (o_val (r_pick rfl) ?_)
         first | refine l_end ?_ | refine l_nil ?_
         by_cases hc32 : Tok.bytes (⟨num s.l 1 8, (s.l.drop 10).take (10 + tkN s.l - 10), (s.l).getD (10 + (tkN s.l)) 0, zagU (num s.l (11 + tkN s.l) 8), zagU (num s.l (19 + tkN s.l) 8), ⟨hd a, i, k, cs⟩, s.l.drop (28 + tkN s.l + 9 * tkK s.l)⟩ : Tok) = s.l
         ·
          repeat refine c_seq ?_
          refine c_no (by exact congrArg Value.bool (congrArg not (decide_eq_true hc32))) ?_
          refine c_skip ?_
          repeat refine c_seq ?_
          refine c_region ?_
          refine l_op (o_val (r_ldA (C := [V64 (num s.l 1 8), .string ⟨((s.l.drop 10).take (10 + tkN s.l - 10)).toArray⟩, V8 ((s.l).getD (10 + (tkN s.l)) 0), VI (zagU (num s.l (11 + tkN s.l) 8)), VI (zagU (num s.l (19 + tkN s.l) 8)), .slice (hd a) i k] ++ (s.l.drop (28 + tkN s.l + 9 * tkK s.l)).map V8) H (i := 1) rfl rfl rt76 (by rw [List.length_append, List.length_map, (show (s.l.drop (28 + tkN s.l + 9 * tkK s.l)).length = 32 from (by rw [List.length_drop]; omega))]; rfl)) ?_)
          refine l_op (o_stW (C' := [V64 (num s.l 1 8), .string ⟨((s.l.drop 10).take (10 + tkN s.l - 10)).toArray⟩, V8 ((s.l).getD (10 + (tkN s.l)) 0), VI (zagU (num s.l (11 + tkN s.l) 8)), VI (zagU (num s.l (19 + tkN s.l) 8)), .slice (hd a) i k] ++ (s.l.drop (28 + tkN s.l + 9 * tkK s.l)).map V8) H (i := 0) rfl rfl rfl cs76 (all_tail (by simp [Value.oneCell'])) (by rw [List.length_append, List.length_map, (show (List.replicate 32 (0 : UInt8)).length = 32 from (List.length_replicate ..))]; rfl) (by rw [List.length_append, List.length_map, (show (s.l.drop (28 + tkN s.l + 9 * tkK s.l)).length = 32 from (by rw [List.length_drop]; omega))]; rfl) (fun w H => ?_))
          replace H : Hp _ w _ ([.blk b1 ([V64 (num s.l 1 8), .string ⟨((s.l.drop 10).take (10 + tkN s.l - 10)).toArray⟩, V8 ((s.l).getD (10 + (tkN s.l)) 0), VI (zagU (num s.l (11 + tkN s.l) 8)), VI (zagU (num s.l (19 + tkN s.l) 8)), .slice (hd a) i k] ++ (s.l.drop (28 + tkN s.l + 9 * tkK s.l)).map V8) 76, _, _, _]) := H
          refine l_op (o_val (r_as) ?_)
          first | refine l_end ?_ | refine l_nil ?_
          refine c_ret ?_
          try dsimp only [Exit.then, Exit.inBlock]
          refine e_retN (vs := [.agg ([V64 (num s.l 1 8), .string ⟨((s.l.drop 10).take (10 + tkN s.l - 10)).toArray⟩, V8 ((s.l).getD (10 + (tkN s.l)) 0), VI (zagU (num s.l (11 + tkN s.l) 8)), VI (zagU (num s.l (19 + tkN s.l) 8)), .slice (hd a) i k] ++ (s.l.drop (28 + tkN s.l + 9 * tkK s.l)).map V8).toArray, VI 0]) _ Try.results103 rfl (H.resR (C := [V64 (num s.l 1 8), .string ⟨((s.l.drop 10).take (10 + tkN s.l - 10)).toArray⟩, V8 ((s.l).getD (10 + (tkN s.l)) 0), VI (zagU (num s.l (11 + tkN s.l) 8)), VI (zagU (num s.l (19 + tkN s.l) 8)), .slice (hd a) i k] ++ (s.l.drop (28 + tkN s.l + 9 * tkK s.l)).map V8) (i := 0) rfl rfl rt76 (by rw [List.length_append, List.length_map, (show (s.l.drop (28 + tkN s.l + 9 * tkK s.l)).length = 32 from (by rw [List.length_drop]; omega))]; rfl) (resT (v := VI 0) rfl (resZ))) ?_
          refine ⟨_, rfl, ?_⟩
          refine .inr ?_
          have h2 : s.l.getD 0 0 = 1 := by
            have e := hc32
            rw [hbt] at e
            rw [← e]; rfl
          have hp : parseT s.l = some (tvAt s.l) := by rw [parseT, if_pos ⟨hsh, h2, by rw [← htv, ← mayT_tv _ hgl]; exact hc27⟩]
          rw [← htv] at hp
          refine ⟨_, a, k, hp, ?_, ?_⟩
          · simp only [Tok.tv, hgl]
          · simp only [Tok.tv, hgl]; exact H.sub (.cons _ (.cons _ (.cons_cons _ (List.nil_sublist _))))
         ·
          repeat refine c_seq ?_
          refine c_yes (by exact congrArg Value.bool (congrArg not (decide_eq_false hc32))) ?_
          repeat refine c_seq ?_
          refine c_region ?_
          refine l_op (o_val (r_bld' (cells := ([V64 (0 : UInt64), .string ⟨(([] : List UInt8)).toArray⟩, V8 (0 : UInt8), VI 0, VI 0, .slice none 0 0] ++ (List.replicate 32 (0 : UInt8)).map V8).toArray) (pv := []) bd76 rfl rfl) ?_)
          refine l_op (o_stW (C' := [V64 (0 : UInt64), .string ⟨(([] : List UInt8)).toArray⟩, V8 (0 : UInt8), VI 0, VI 0, .slice none 0 0] ++ (List.replicate 32 (0 : UInt8)).map V8) H (i := 0) rfl rfl rfl cs76 (by simp [Value.oneCell']) (by rw [List.length_append, List.length_map, (show (List.replicate 32 (0 : UInt8)).length = 32 from (List.length_replicate ..))]; rfl) (by rw [List.length_append, List.length_map, (show (List.replicate 32 (0 : UInt8)).length = 32 from (List.length_replicate ..))]; rfl) (fun w H => ?_))
          replace H : Hp _ w _ [_, _, _, _] := H
          refine l_op (o_val (r_as) ?_)
          first | refine l_end ?_ | refine l_nil ?_
          refine c_ret ?_
          try dsimp only [Exit.then, Exit.inBlock]
          refine e_retN (vs := [.agg ([V64 (0 : UInt64), .string ⟨(([] : List UInt8)).toArray⟩, V8 (0 : UInt8), VI 0, VI 0, .slice none 0 0] ++ (List.replicate 32 (0 : UInt8)).map V8).toArray, VI 4]) _ Try.results103 rfl (H.resR (C := [V64 (0 : UInt64), .string ⟨(([] : List UInt8)).toArray⟩, V8 (0 : UInt8), VI 0, VI 0, .slice none 0 0] ++ (List.replicate 32 (0 : UInt8)).map V8) (i := 0) rfl rfl rt76 (by rw [List.length_append, List.length_map, (show (List.replicate 32 (0 : UInt8)).length = 32 from (List.length_replicate ..))]; rfl) (resT (v := VI 4) rfl (resZ))) ?_
          refine ⟨_, rfl, ?_⟩
          refine .inl ⟨?_, rfl, H.sub (List.nil_sublist _)⟩
          rw [parseT, if_neg]
          rintro ⟨_, h2, _⟩
          apply hc32
          rw [hbt, ← h2]
          exact (by simpa using (getD_cons s.l 0 (by omega)).symm)
        ·
         refine l_op (o_callR Try.func82 rfl rfl rfl (bytes14_no _ (⟨num s.l 1 8, (s.l.drop 10).take (10 + tkN s.l - 10), (s.l).getD (10 + (tkN s.l)) 0, zagU (num s.l (11 + tkN s.l) 8), zagU (num s.l (19 + tkN s.l) 8), ⟨hd a, i, k, cs⟩, s.l.drop (28 + tkN s.l + 9 * tkK s.l)⟩ : Tok) (H.glOwn (i := 2) rfl (by decide) (fun _ _ => rfl)) (show (s.l.drop (28 + tkN s.l + 9 * tkK s.l)).length = 32 from (by rw [List.length_drop]; omega)) (by simp; omega) hc27) ?_)
         rintro _ w ⟨rfl, Hc⟩
         replace H : Hp _ w _ ([_, _, _]) := H.call Hc
         clear Hc
         refine l_op (o_val (r_mv) ?_)
         refine l_op (o_val (r_ext rfl rfl) ?_)
         refine l_op (o_val (r_ext rfl rfl) ?_)
         refine l_op (o_val (r_as) ?_)
         refine l_op (o_val (r_as) ?_)
         first | refine l_end ?_ | refine l_nil ?_
         repeat refine c_seq ?_
         refine c_region ?_
         refine l_op (o_val (r_mv) ?_)
         refine l_op (o_val (r_bin (a := 1) (b := 0) rfl rfl (fun _ => b_neqB true (decide_eq_true (by decide)))) ?_)
         refine l_op (o_val (r_mv) ?_)
         refine l_no rfl rfl rfl rfl ?_
         refine l_no rfl rfl rfl rfl ?_
         refine l_no rfl rfl rfl rfl ?_
         refine l_no rfl rfl rfl rfl ?_
         refine l_no rfl rfl rfl rfl ?_
         refine l_op (o_val (r_pick rfl) ?_)
         first | refine l_end ?_ | refine l_nil ?_
         repeat refine c_seq ?_
         refine c_yes rfl ?_
         repeat refine c_seq ?_
         refine c_region ?_
         refine l_op (o_val (r_bld' (cells := ([V64 (0 : UInt64), .string ⟨(([] : List UInt8)).toArray⟩, V8 (0 : UInt8), VI 0, VI 0, .slice none 0 0] ++ (List.replicate 32 (0 : UInt8)).map V8).toArray) (pv := []) bd76 rfl rfl) ?_)
         refine l_op (o_stW (C' := [V64 (0 : UInt64), .string ⟨(([] : List UInt8)).toArray⟩, V8 (0 : UInt8), VI 0, VI 0, .slice none 0 0] ++ (List.replicate 32 (0 : UInt8)).map V8) H (i := 0) rfl rfl rfl cs76 (by simp [Value.oneCell']) (by rw [List.length_append, List.length_map, (show (List.replicate 32 (0 : UInt8)).length = 32 from (List.length_replicate ..))]; rfl) (by rw [List.length_append, List.length_map, (show (List.replicate 32 (0 : UInt8)).length = 32 from (List.length_replicate ..))]; rfl) (fun w H => ?_))
         replace H : Hp _ w _ [_, _, _] := H
         refine l_op (o_val (r_as) ?_)
         first | refine l_end ?_ | refine l_nil ?_
         refine c_ret ?_
         try dsimp only [Exit.then, Exit.inBlock]
         refine e_retN (vs := [.agg ([V64 (0 : UInt64), .string ⟨(([] : List UInt8)).toArray⟩, V8 (0 : UInt8), VI 0, VI 0, .slice none 0 0] ++ (List.replicate 32 (0 : UInt8)).map V8).toArray, VI 4]) _ Try.results103 rfl (H.resR (C := [V64 (0 : UInt64), .string ⟨(([] : List UInt8)).toArray⟩, V8 (0 : UInt8), VI 0, VI 0, .slice none 0 0] ++ (List.replicate 32 (0 : UInt8)).map V8) (i := 0) rfl rfl rt76 (by rw [List.length_append, List.length_map, (show (List.replicate 32 (0 : UInt8)).length = 32 from (List.length_replicate ..))]; rfl) (resT (v := VI 4) rfl (resZ))) ?_
         refine ⟨_, rfl, ?_⟩
         refine .inl ⟨?_, rfl, H.sub (List.nil_sublist _)⟩
         rw [parseT, if_neg]
         rintro ⟨_, _, h3⟩
         rw [← htv, ← mayT_tv _ hgl, hc27] at h3
         cases h3
end Go.Proofs.Ytjmbbhnpfmblpaa
namespace Go.Proofs.Ytjmbbhnpfmblpaa
open Go
set_option maxRecDepth 100000
theorem spoilN_ret (w0 : World) (b len cap : Nat) (C : List Value) (hH : w0.heap[b]? = some (.cells C.toArray 5 (0, 0))) (hC : C.length = cap) (hlc : len ≤ cap) (hm : cap ≤ maxLen) :
    Ret Try.prog 43 [.slice (some ⟨b, 0, none⟩) len cap] w0 fun v w' => v = .tuple #[] ∧ Hp w0 w' [b] [.blk b (List.replicate cap (V8 90)) 5] := by
  refine ret_mk Try.func43 rfl Try.ntmps43 (by simp) ?_
  have hmL : maxLen = 9223372036854775807 := rfl
  have H := Hp.start w0 (.blk b C 5) b hH rfl
  repeat refine c_seq ?_
  refine c_region ?_
  refine l_op (o_mv ?_)
  refine l_op (o_mv ?_)
  refine l_op (o_caps el29 rfl ?_)
  refine l_op (o_sl (a := some ⟨b, 0, none⟩) (len := len) (cap := cap) rfl el29 rfl rfl rfl (fun w => by exact sb_h (by omega) (by omega) w) ?_)
  refine l_op (o_as ?_)
  first | refine l_end ?_ | refine l_nil ?_
  rw [sa_zero]
  repeat refine c_seq ?_
  refine c_region ?_
  refine l_op (o_as ?_)
  first | refine l_end ?_ | refine l_nil ?_
  repeat refine c_seq ?_
  refine c_block ?_
  have hcap : ((cap : Int).toNat - 0) = cap := by omega
  rw [hcap]
  refine c_loop (ι := Nat) (fun i => [(3, VI i), (2, .slice (some ⟨b, 0, none⟩) cap cap)])
    (fun i w => i ≤ cap ∧ Hp w0 w [b] [.blk b (sp C i) 5])
    (fun i => cap - i) 0 ⟨rfl, rfl, trivial⟩ ⟨by omega, H⟩ ?_
  clear H
  rintro i τ w ⟨hi, H⟩
  have hsl := sp_length C i (by omega)
  repeat refine c_seq ?_
  refine c_region ?_
  refine l_op (o_mv ?_)
  refine l_op (o_mv ?_)
  refine l_op (o_lens el29 rfl ?_)
  refine l_op (o_bin rfl rfl (fun _ => b_lss) ?_)
  first | refine l_end ?_ | refine l_nil ?_
  repeat refine c_seq ?_
  refine c_ifD rfl (fun hlt => ?_) (fun hlt => ?_)
  · have hlt' : i < cap := by omega
    have x1 : 0 + (i : Int).toNat * 1 = i := by omega
    refine c_skip ?_
    repeat refine c_seq ?_
    refine c_block ?_
    repeat refine c_seq ?_
    refine c_region ?_
    refine l_op (o_mv ?_)
    refine l_op (o_mv ?_)
    refine l_op (o_is (a := some ⟨b, 0, none⟩) rfl rfl el29 (by omega) (by omega) (by decide) (Ch.rd_all (H.has _ List.mem_cons_self)) (by omega) (fun b' o' ha => ?_))
    cases ha
    refine l_op (o_st H (i := 0) (v := V8 90) rfl rfl rfl cs5 rfl (by rw [x1]; omega) (fun w H => ?_))
    first | refine l_end ?_ | refine l_nil ?_
    have e1 := sp_set C i (by omega)
    simp only [List.set_cons_zero] at H
    rw [x1, e1] at H
    repeat refine c_seq ?_
    refine c_region ?_
    refine l_op (o_mv ?_)
    refine l_op (o_bin rfl rfl (fun _ => b_add (by omega) (by omega)) ?_)
    refine l_op (o_as ?_)
    first | refine l_end ?_ | refine l_nil ?_
    refine round_end (i + 1) ?_ ?_ ?_
    · exact ⟨rfl, rfl, trivial⟩
    · exact ⟨hlt', H⟩
    · show cap - (i + 1) < cap - i; omega
  · have hi' : i = cap := by omega
    subst hi'
    have e1 : sp C i = List.replicate i (V8 90) := by rw [sp, List.drop_of_length_le (by omega), List.append_nil]
    rw [e1] at H
    refine c_exit ?_
    simp only [Exit.then, Exit.inBlock, ↓reduceIte]
    refine e_norm (e_ret0 Try.results43 ?_)
    exact ⟨_, rfl, rfl, H⟩
end Go.Proofs.Ytjmbbhnpfmblpaa
namespace Go.Proofs.Ytjmbbhnpfmblpaa
open Go
set_option maxRecDepth 100000
/-- a twin: where it stands. -/
def Sl.at (t : Sl) : Prop := ∃ b, t.a = some ⟨b, 0, none⟩ ∧ t.l.length = t.len ∧ t.cap = t.len + 3 ∧ t.len ≤ 1048576
end Go.Proofs.Ytjmbbhnpfmblpaa
namespace Go.Proofs.Ytjmbbhnpfmblpaa
open Go
set_option maxRecDepth 100000
theorem checkT_own (key : List UInt8) (t : Tok) (now : Int) (hm : mayT t = true) (ht : onF (hmac key (framed [t.head])) t.cs.l = t.tag) : checkT key t now = if now < t.from_ ∨ (effF t.rights t.until_ t.cs.l).2 ≤ now then 14 else 0 := by
  rw [checkT, if_neg (by rw [hm]; decide), if_neg (not_not_intro ht)]
theorem checkT_iff (key : List UInt8) (t : Tok) (now : Int) (hm : mayT t = true) (ht : onF (hmac key (framed [t.head])) t.cs.l = t.tag) : (checkT key t now = 0 ∨ checkT key t now = 14) ∧ (checkT key t now = 0 ↔ t.from_ ≤ now ∧ now < (effF t.rights t.until_ t.cs.l).2) := by
  rw [checkT_own key t now hm ht]
  by_cases h : now < t.from_ ∨ (effF t.rights t.until_ t.cs.l).2 ≤ now
  · rw [if_pos h]; exact ⟨.inr rfl, by constructor <;> intro h2 <;> omega⟩
  · rw [if_neg h]; exact ⟨.inl rfl, by constructor <;> intro h2 <;> omega⟩
theorem begun14_ret (w0 : World) :
    Ret Try.prog 65 [] w0 fun v w' => v = .bool true ∧ Hp w0 w' [] [] := by
  refine ret_mk Try.func65 rfl Try.ntmps65 (by simp) ?_
  have H := Hp.refl w0 []
  repeat refine c_seq ?_
  refine c_region ?_
  refine l_op (o_val (r_as) ?_)
  first | refine l_end ?_ | refine l_nil ?_
  repeat refine c_seq ?_
  refine c_region ?_
  refine l_op (o_val (r_bld' (cells := ((((1 : UInt8) :: List.replicate 31 (0 : UInt8))).map V8).toArray) (pv := [(0, V8 (1 : UInt8))]) bd31 rfl rfl) ?_)
  refine l_op (o_alloc H zc31 (fun b1 w H hb1 => ?_))
  replace H : Hp _ w _ ([.blk b1 ((List.replicate 32 (0 : UInt8)).map V8) 31]) := H
  refine l_op (o_stA (l' := ((1 : UInt8) :: List.replicate 31 (0 : UInt8))) H (i := 0) rfl rfl rfl cs31 (show (List.replicate 32 (0 : UInt8)).length = 32 from (List.length_replicate ..)) (show (((1 : UInt8) :: List.replicate 31 (0 : UInt8))).length = 32 from rfl) (fun w H => ?_))
  replace H : Hp _ w _ ([.blk b1 ((((1 : UInt8) :: List.replicate 31 (0 : UInt8))).map V8) 31]) := H
  first | refine l_end ?_ | refine l_nil ?_
  repeat refine c_seq ?_
  refine c_region ?_
  refine l_op (o_val (r_ldAA (l := ((1 : UInt8) :: List.replicate 31 (0 : UInt8))) H (i := 0) rfl rfl rt31 (show (((1 : UInt8) :: List.replicate 31 (0 : UInt8))).length = 32 from rfl)) ?_)
  refine l_op (o_val (r_bld' (cells := ([V64 (1 : UInt64), .string ⟨(([] : List UInt8)).toArray⟩, V8 (7 : UInt8), VI 0, VI 9, .slice none 0 0] ++ (List.replicate 32 (0 : UInt8)).map V8).toArray) (pv := [(0, V64 (1 : UInt64)), (2, V8 (7 : UInt8)), (4, VI 9)]) bd76 rfl rfl) ?_)
  refine l_op (o_callR Try.func68 rfl rfl rfl (issue_ok _ (((1 : UInt8) :: List.replicate 31 (0 : UInt8))) (show (((1 : UInt8) :: List.replicate 31 (0 : UInt8))).length = 32 from rfl) (⟨(1 : UInt64), ([] : List UInt8), (7 : UInt8), 0, 9, ⟨none, 0, 0, []⟩, List.replicate 32 (0 : UInt8)⟩ : Tok) (Gl.ok_nil _) (show (List.replicate 32 (0 : UInt8)).length = 32 from (List.length_replicate ..)) (by first | omega | (dsimp only; omega) | simp) (by first | rfl | (simp [mayT]; decide)) rfl) ?_)
  rintro _ w ⟨rfl, Hc⟩
  replace H : Hp _ w _ ([_]) := H.call Hc
  clear Hc
  refine l_op (o_val (r_mv) ?_)
  refine l_op (o_val (r_ext rfl rfl) ?_)
  refine l_op (o_val (r_ext rfl rfl) ?_)
  refine l_op (o_alloc H zc76 (fun b2 w H hb2 => ?_))
  replace H : Hp _ w _ ([_, .blk b2 ([V64 (0 : UInt64), .string ⟨(([] : List UInt8)).toArray⟩, V8 (0 : UInt8), VI 0, VI 0, .slice none 0 0] ++ (List.replicate 32 (0 : UInt8)).map V8) 76]) := H
  refine l_op (o_stW (C' := [V64 (1 : UInt64), .string ⟨(([] : List UInt8)).toArray⟩, V8 (7 : UInt8), VI 0, VI 9, .slice none 0 0] ++ (hmac (((1 : UInt8) :: List.replicate 31 (0 : UInt8))) (framed [headB ((1 : UInt64)) (([] : List UInt8)) ((7 : UInt8)) (0) (9)])).map V8) H (i := 1) rfl rfl rfl cs76 (by simp [Value.oneCell']) (by rw [List.length_append, List.length_map, (show (List.replicate 32 (0 : UInt8)).length = 32 from (List.length_replicate ..))]; rfl) (by rw [List.length_append, List.length_map, (show (hmac (((1 : UInt8) :: List.replicate 31 (0 : UInt8))) (framed [headB ((1 : UInt64)) (([] : List UInt8)) ((7 : UInt8)) (0) (9)])).length = 32 from hmac_len _ _)]; rfl) (fun w H => ?_))
  replace H : Hp _ w _ ([_, .blk b2 ([V64 (1 : UInt64), .string ⟨(([] : List UInt8)).toArray⟩, V8 (7 : UInt8), VI 0, VI 9, .slice none 0 0] ++ (hmac (((1 : UInt8) :: List.replicate 31 (0 : UInt8))) (framed [headB ((1 : UInt64)) (([] : List UInt8)) ((7 : UInt8)) (0) (9)])).map V8) 76]) := H
  refine l_op (o_val (r_as) ?_)
  first | refine l_end ?_ | refine l_nil ?_
  repeat refine c_seq ?_
  refine c_region ?_
  refine l_op (o_val (r_ldA (C := [V64 (1 : UInt64), .string ⟨(([] : List UInt8)).toArray⟩, V8 (7 : UInt8), VI 0, VI 9, .slice none 0 0] ++ (hmac (((1 : UInt8) :: List.replicate 31 (0 : UInt8))) (framed [headB ((1 : UInt64)) (([] : List UInt8)) ((7 : UInt8)) (0) (9)])).map V8) H (i := 1) rfl rfl rt76 (by rw [List.length_append, List.length_map, (show (hmac (((1 : UInt8) :: List.replicate 31 (0 : UInt8))) (framed [headB ((1 : UInt64)) (([] : List UInt8)) ((7 : UInt8)) (0) (9)])).length = 32 from hmac_len _ _)]; rfl)) ?_)
  refine l_op (o_val (r_bld' (cells := ([V8 (1 : UInt8), VI 5]).toArray) (pv := [(0, V8 (1 : UInt8)), (1, VI 5)]) bd78 rfl rfl) ?_)
  refine l_op (o_callR Try.func70 rfl rfl rfl (less_ok _ (⟨(1 : UInt64), ([] : List UInt8), (7 : UInt8), 0, 9, ⟨none, 0, 0, []⟩, hmac (((1 : UInt8) :: List.replicate 31 (0 : UInt8))) (framed [headB ((1 : UInt64)) (([] : List UInt8)) ((7 : UInt8)) (0) (9)])⟩ : Tok) ((1 : UInt8), 5) (Gl.ok_nil _) (show (hmac (((1 : UInt8) :: List.replicate 31 (0 : UInt8))) (framed [headB ((1 : UInt64)) (([] : List UInt8)) ((7 : UInt8)) (0) (9)])).length = 32 from hmac_len _ _) (by first | omega | (dsimp only; omega) | simp) (by first | rfl | (simp [mayT]; decide)) (by rfl) (by first | omega | (dsimp only; omega) | simp)) ?_)
  rintro _ w ⟨a3, c4, rfl, Hc⟩
  replace H : Hp _ w _ ([_, _, .own a3 (0 + 1) c4 ((([] : List Cav) ++ [((1 : UInt8), 5)]).flatMap cavE) 78 2]) := H.call Hc
  clear Hc
  refine l_op (o_val (r_mv) ?_)
  refine l_op (o_val (r_ext rfl rfl) ?_)
  refine l_op (o_val (r_ext rfl rfl) ?_)
  refine l_op (o_alloc H zc76 (fun b5 w H hb5 => ?_))
  replace H : Hp _ w _ ([_, _, _, .blk b5 ([V64 (0 : UInt64), .string ⟨(([] : List UInt8)).toArray⟩, V8 (0 : UInt8), VI 0, VI 0, .slice none 0 0] ++ (List.replicate 32 (0 : UInt8)).map V8) 76]) := H
  refine l_op (o_stW (C' := [V64 (1 : UInt64), .string ⟨(([] : List UInt8)).toArray⟩, V8 (7 : UInt8), VI 0, VI 9, .slice (hd a3) (0 + 1) c4] ++ (onF (hmac (((1 : UInt8) :: List.replicate 31 (0 : UInt8))) (framed [headB ((1 : UInt64)) (([] : List UInt8)) ((7 : UInt8)) (0) (9)])) [((1 : UInt8), 5)]).map V8) H (i := 3) rfl rfl rfl cs76 (by simp [Value.oneCell']) (by rw [List.length_append, List.length_map, (show (List.replicate 32 (0 : UInt8)).length = 32 from (List.length_replicate ..))]; rfl) (by rw [List.length_append, List.length_map, (show (onF (hmac (((1 : UInt8) :: List.replicate 31 (0 : UInt8))) (framed [headB ((1 : UInt64)) (([] : List UInt8)) ((7 : UInt8)) (0) (9)])) [((1 : UInt8), 5)]).length = 32 from onF_len _ (show (hmac (((1 : UInt8) :: List.replicate 31 (0 : UInt8))) (framed [headB ((1 : UInt64)) (([] : List UInt8)) ((7 : UInt8)) (0) (9)])).length = 32 from hmac_len _ _) _)]; rfl) (fun w H => ?_))
  replace H : Hp _ w _ ([_, _, _, .blk b5 ([V64 (1 : UInt64), .string ⟨(([] : List UInt8)).toArray⟩, V8 (7 : UInt8), VI 0, VI 9, .slice (hd a3) (0 + 1) c4] ++ (onF (hmac (((1 : UInt8) :: List.replicate 31 (0 : UInt8))) (framed [headB ((1 : UInt64)) (([] : List UInt8)) ((7 : UInt8)) (0) (9)])) [((1 : UInt8), 5)]).map V8) 76]) := H
  refine l_op (o_val (r_as) ?_)
  first | refine l_end ?_ | refine l_nil ?_
  repeat refine c_seq ?_
  refine c_region ?_
  refine l_op (o_val (r_ldA (C := [V64 (1 : UInt64), .string ⟨(([] : List UInt8)).toArray⟩, V8 (7 : UInt8), VI 0, VI 9, .slice (hd a3) (0 + 1) c4] ++ (onF (hmac (((1 : UInt8) :: List.replicate 31 (0 : UInt8))) (framed [headB ((1 : UInt64)) (([] : List UInt8)) ((7 : UInt8)) (0) (9)])) [((1 : UInt8), 5)]).map V8) H (i := 3) rfl rfl rt76 (by rw [List.length_append, List.length_map, (show (onF (hmac (((1 : UInt8) :: List.replicate 31 (0 : UInt8))) (framed [headB ((1 : UInt64)) (([] : List UInt8)) ((7 : UInt8)) (0) (9)])) [((1 : UInt8), 5)]).length = 32 from onF_len _ (show (hmac (((1 : UInt8) :: List.replicate 31 (0 : UInt8))) (framed [headB ((1 : UInt64)) (([] : List UInt8)) ((7 : UInt8)) (0) (9)])).length = 32 from hmac_len _ _) _)]; rfl)) ?_)
  refine l_op (o_callR Try.func72 rfl rfl rfl (effect_ret _ (⟨(1 : UInt64), ([] : List UInt8), (7 : UInt8), 0, 9, ⟨hd a3, 0 + 1, c4, ([] : List Cav) ++ [((1 : UInt8), 5)]⟩, onF (hmac (((1 : UInt8) :: List.replicate 31 (0 : UInt8))) (framed [headB ((1 : UInt64)) (([] : List UInt8)) ((7 : UInt8)) (0) (9)])) [((1 : UInt8), 5)]⟩ : Tok) (H.glOwn (i := 2) rfl (by decide) (fun _ _ => rfl)) (show (onF (hmac (((1 : UInt8) :: List.replicate 31 (0 : UInt8))) (framed [headB ((1 : UInt64)) (([] : List UInt8)) ((7 : UInt8)) (0) (9)])) [((1 : UInt8), 5)]).length = 32 from onF_len _ (show (hmac (((1 : UInt8) :: List.replicate 31 (0 : UInt8))) (framed [headB ((1 : UInt64)) (([] : List UInt8)) ((7 : UInt8)) (0) (9)])).length = 32 from hmac_len _ _) _)) ?_)
  rintro _ w ⟨rfl, Hc⟩
  replace H : Hp _ w _ ([_, _, _, _]) := H.call Hc
  clear Hc
  refine l_op (o_val (r_mv) ?_)
  refine l_op (o_val (r_ext rfl rfl) ?_)
  refine l_op (o_val (r_ext rfl rfl) ?_)
  refine l_op (o_val (r_as) ?_)
  refine l_op (o_val (r_as) ?_)
  first | refine l_end ?_ | refine l_nil ?_
  have c1 : ∀ n, (checkT (((1 : UInt8) :: List.replicate 31 (0 : UInt8))) (⟨(1 : UInt64), ([] : List UInt8), (7 : UInt8), 0, 9, ⟨none, 0, 0, []⟩, hmac (((1 : UInt8) :: List.replicate 31 (0 : UInt8))) (framed [headB ((1 : UInt64)) (([] : List UInt8)) ((7 : UInt8)) (0) (9)])⟩ : Tok) n = 0 ∨ checkT (((1 : UInt8) :: List.replicate 31 (0 : UInt8))) (⟨(1 : UInt64), ([] : List UInt8), (7 : UInt8), 0, 9, ⟨none, 0, 0, []⟩, hmac (((1 : UInt8) :: List.replicate 31 (0 : UInt8))) (framed [headB ((1 : UInt64)) (([] : List UInt8)) ((7 : UInt8)) (0) (9)])⟩ : Tok) n = 14) ∧ (checkT (((1 : UInt8) :: List.replicate 31 (0 : UInt8))) (⟨(1 : UInt64), ([] : List UInt8), (7 : UInt8), 0, 9, ⟨none, 0, 0, []⟩, hmac (((1 : UInt8) :: List.replicate 31 (0 : UInt8))) (framed [headB ((1 : UInt64)) (([] : List UInt8)) ((7 : UInt8)) (0) (9)])⟩ : Tok) n = 0 ↔ 0 ≤ n ∧ n < 9) := fun n => checkT_iff (((1 : UInt8) :: List.replicate 31 (0 : UInt8))) (⟨(1 : UInt64), ([] : List UInt8), (7 : UInt8), 0, 9, ⟨none, 0, 0, []⟩, hmac (((1 : UInt8) :: List.replicate 31 (0 : UInt8))) (framed [headB ((1 : UInt64)) (([] : List UInt8)) ((7 : UInt8)) (0) (9)])⟩ : Tok) n (by rfl) (by rfl)
  have c2 : ∀ n, (checkT (((1 : UInt8) :: List.replicate 31 (0 : UInt8))) (⟨(1 : UInt64), ([] : List UInt8), (7 : UInt8), 0, 9, ⟨hd a3, 0 + 1, c4, ([] : List Cav) ++ [((1 : UInt8), 5)]⟩, onF (hmac (((1 : UInt8) :: List.replicate 31 (0 : UInt8))) (framed [headB ((1 : UInt64)) (([] : List UInt8)) ((7 : UInt8)) (0) (9)])) [((1 : UInt8), 5)]⟩ : Tok) n = 0 ∨ checkT (((1 : UInt8) :: List.replicate 31 (0 : UInt8))) (⟨(1 : UInt64), ([] : List UInt8), (7 : UInt8), 0, 9, ⟨hd a3, 0 + 1, c4, ([] : List Cav) ++ [((1 : UInt8), 5)]⟩, onF (hmac (((1 : UInt8) :: List.replicate 31 (0 : UInt8))) (framed [headB ((1 : UInt64)) (([] : List UInt8)) ((7 : UInt8)) (0) (9)])) [((1 : UInt8), 5)]⟩ : Tok) n = 14) ∧ (checkT (((1 : UInt8) :: List.replicate 31 (0 : UInt8))) (⟨(1 : UInt64), ([] : List UInt8), (7 : UInt8), 0, 9, ⟨hd a3, 0 + 1, c4, ([] : List Cav) ++ [((1 : UInt8), 5)]⟩, onF (hmac (((1 : UInt8) :: List.replicate 31 (0 : UInt8))) (framed [headB ((1 : UInt64)) (([] : List UInt8)) ((7 : UInt8)) (0) (9)])) [((1 : UInt8), 5)]⟩ : Tok) n = 0 ↔ 0 ≤ n ∧ n < 5) := fun n => checkT_iff (((1 : UInt8) :: List.replicate 31 (0 : UInt8))) (⟨(1 : UInt64), ([] : List UInt8), (7 : UInt8), 0, 9, ⟨hd a3, 0 + 1, c4, ([] : List Cav) ++ [((1 : UInt8), 5)]⟩, onF (hmac (((1 : UInt8) :: List.replicate 31 (0 : UInt8))) (framed [headB ((1 : UInt64)) (([] : List UInt8)) ((7 : UInt8)) (0) (9)])) [((1 : UInt8), 5)]⟩ : Tok) n (by first | rfl | (simp [mayT]; decide)) (by rfl)
  repeat refine c_seq ?_
  refine c_region ?_
  refine l_op (o_val (r_mv) ?_)
  refine l_op (o_val (r_bin (a := 0) (b := 0) rfl rfl (fun _ => b_eqlB true (decide_eq_true (by decide)))) ?_)
  refine l_op (o_val (r_mv) ?_)
  refine l_yes rfl rfl rfl (o_val (r_mv) ?_)
  refine l_yes rfl rfl rfl (o_val (r_bin (a := 0) (b := 0) rfl rfl (fun _ => b_eqlB true (decide_eq_true (by decide)))) ?_)
  refine l_op (o_val (r_pick rfl) ?_)
  refine l_op (o_val (r_mv) ?_)
  refine l_yes rfl rfl rfl (o_val (r_ldAA (l := ((1 : UInt8) :: List.replicate 31 (0 : UInt8))) H (i := 0) rfl rfl rt31 (show (((1 : UInt8) :: List.replicate 31 (0 : UInt8))).length = 32 from rfl)) ?_)
  refine l_yes rfl rfl rfl (o_val (r_ldA (C := [V64 (1 : UInt64), .string ⟨(([] : List UInt8)).toArray⟩, V8 (7 : UInt8), VI 0, VI 9, .slice none 0 0] ++ (hmac (((1 : UInt8) :: List.replicate 31 (0 : UInt8))) (framed [headB ((1 : UInt64)) (([] : List UInt8)) ((7 : UInt8)) (0) (9)])).map V8) H (i := 1) rfl rfl rt76 (by rw [List.length_append, List.length_map, (show (hmac (((1 : UInt8) :: List.replicate 31 (0 : UInt8))) (framed [headB ((1 : UInt64)) (([] : List UInt8)) ((7 : UInt8)) (0) (9)])).length = 32 from hmac_len _ _)]; rfl)) ?_)
  refine l_yes rfl rfl rfl (o_callR Try.func77 rfl rfl rfl (check14_ret _ (((1 : UInt8) :: List.replicate 31 (0 : UInt8))) (show (((1 : UInt8) :: List.replicate 31 (0 : UInt8))).length = 32 from rfl) (⟨(1 : UInt64), ([] : List UInt8), (7 : UInt8), 0, 9, ⟨none, 0, 0, []⟩, hmac (((1 : UInt8) :: List.replicate 31 (0 : UInt8))) (framed [headB ((1 : UInt64)) (([] : List UInt8)) ((7 : UInt8)) (0) (9)])⟩ : Tok) (Gl.ok_nil _) (show (hmac (((1 : UInt8) :: List.replicate 31 (0 : UInt8))) (framed [headB ((1 : UInt64)) (([] : List UInt8)) ((7 : UInt8)) (0) (9)])).length = 32 from hmac_len _ _) (by first | omega | (dsimp only; omega) | simp) (8)) ?_)
  rintro _ w ⟨rfl, Hc⟩
  replace H : Hp _ w _ ([_, _, _, _]) := H.call Hc
  clear Hc
  refine l_yes rfl rfl rfl (o_val (r_bin (a := checkT (((1 : UInt8) :: List.replicate 31 (0 : UInt8))) (⟨(1 : UInt64), ([] : List UInt8), (7 : UInt8), 0, 9, ⟨none, 0, 0, []⟩, hmac (((1 : UInt8) :: List.replicate 31 (0 : UInt8))) (framed [headB ((1 : UInt64)) (([] : List UInt8)) ((7 : UInt8)) (0) (9)])⟩ : Tok) (8)) (b := 0) rfl rfl (fun _ => b_eqlB true (decide_eq_true (by have := c1 8; omega)))) ?_)
  refine l_op (o_val (r_pick rfl) ?_)
  refine l_op (o_val (r_mv) ?_)
  refine l_yes rfl rfl rfl (o_val (r_ldAA (l := ((1 : UInt8) :: List.replicate 31 (0 : UInt8))) H (i := 0) rfl rfl rt31 (show (((1 : UInt8) :: List.replicate 31 (0 : UInt8))).length = 32 from rfl)) ?_)
  refine l_yes rfl rfl rfl (o_val (r_ldA (C := [V64 (1 : UInt64), .string ⟨(([] : List UInt8)).toArray⟩, V8 (7 : UInt8), VI 0, VI 9, .slice none 0 0] ++ (hmac (((1 : UInt8) :: List.replicate 31 (0 : UInt8))) (framed [headB ((1 : UInt64)) (([] : List UInt8)) ((7 : UInt8)) (0) (9)])).map V8) H (i := 1) rfl rfl rt76 (by rw [List.length_append, List.length_map, (show (hmac (((1 : UInt8) :: List.replicate 31 (0 : UInt8))) (framed [headB ((1 : UInt64)) (([] : List UInt8)) ((7 : UInt8)) (0) (9)])).length = 32 from hmac_len _ _)]; rfl)) ?_)
  refine l_yes rfl rfl rfl (o_callR Try.func77 rfl rfl rfl (check14_ret _ (((1 : UInt8) :: List.replicate 31 (0 : UInt8))) (show (((1 : UInt8) :: List.replicate 31 (0 : UInt8))).length = 32 from rfl) (⟨(1 : UInt64), ([] : List UInt8), (7 : UInt8), 0, 9, ⟨none, 0, 0, []⟩, hmac (((1 : UInt8) :: List.replicate 31 (0 : UInt8))) (framed [headB ((1 : UInt64)) (([] : List UInt8)) ((7 : UInt8)) (0) (9)])⟩ : Tok) (Gl.ok_nil _) (show (hmac (((1 : UInt8) :: List.replicate 31 (0 : UInt8))) (framed [headB ((1 : UInt64)) (([] : List UInt8)) ((7 : UInt8)) (0) (9)])).length = 32 from hmac_len _ _) (by first | omega | (dsimp only; omega) | simp) (9)) ?_)
  rintro _ w ⟨rfl, Hc⟩
  replace H : Hp _ w _ ([_, _, _, _]) := H.call Hc
  clear Hc
  refine l_yes rfl rfl rfl (o_val (r_bin (a := checkT (((1 : UInt8) :: List.replicate 31 (0 : UInt8))) (⟨(1 : UInt64), ([] : List UInt8), (7 : UInt8), 0, 9, ⟨none, 0, 0, []⟩, hmac (((1 : UInt8) :: List.replicate 31 (0 : UInt8))) (framed [headB ((1 : UInt64)) (([] : List UInt8)) ((7 : UInt8)) (0) (9)])⟩ : Tok) (9)) (b := 14) rfl rfl (fun _ => b_eqlB true (decide_eq_true (by have := c1 9; omega)))) ?_)
  refine l_op (o_val (r_pick rfl) ?_)
  refine l_op (o_val (r_mv) ?_)
  refine l_yes rfl rfl rfl (o_val (r_ldAA (l := ((1 : UInt8) :: List.replicate 31 (0 : UInt8))) H (i := 0) rfl rfl rt31 (show (((1 : UInt8) :: List.replicate 31 (0 : UInt8))).length = 32 from rfl)) ?_)
  refine l_yes rfl rfl rfl (o_val (r_ldA (C := [V64 (1 : UInt64), .string ⟨(([] : List UInt8)).toArray⟩, V8 (7 : UInt8), VI 0, VI 9, .slice (hd a3) (0 + 1) c4] ++ (onF (hmac (((1 : UInt8) :: List.replicate 31 (0 : UInt8))) (framed [headB ((1 : UInt64)) (([] : List UInt8)) ((7 : UInt8)) (0) (9)])) [((1 : UInt8), 5)]).map V8) H (i := 3) rfl rfl rt76 (by rw [List.length_append, List.length_map, (show (onF (hmac (((1 : UInt8) :: List.replicate 31 (0 : UInt8))) (framed [headB ((1 : UInt64)) (([] : List UInt8)) ((7 : UInt8)) (0) (9)])) [((1 : UInt8), 5)]).length = 32 from onF_len _ (show (hmac (((1 : UInt8) :: List.replicate 31 (0 : UInt8))) (framed [headB ((1 : UInt64)) (([] : List UInt8)) ((7 : UInt8)) (0) (9)])).length = 32 from hmac_len _ _) _)]; rfl)) ?_)
  refine l_yes rfl rfl rfl (o_callR Try.func77 rfl rfl rfl (check14_ret _ (((1 : UInt8) :: List.replicate 31 (0 : UInt8))) (show (((1 : UInt8) :: List.replicate 31 (0 : UInt8))).length = 32 from rfl) (⟨(1 : UInt64), ([] : List UInt8), (7 : UInt8), 0, 9, ⟨hd a3, 0 + 1, c4, ([] : List Cav) ++ [((1 : UInt8), 5)]⟩, onF (hmac (((1 : UInt8) :: List.replicate 31 (0 : UInt8))) (framed [headB ((1 : UInt64)) (([] : List UInt8)) ((7 : UInt8)) (0) (9)])) [((1 : UInt8), 5)]⟩ : Tok) (H.glOwn (i := 2) rfl (by decide) (fun _ _ => rfl)) (show (onF (hmac (((1 : UInt8) :: List.replicate 31 (0 : UInt8))) (framed [headB ((1 : UInt64)) (([] : List UInt8)) ((7 : UInt8)) (0) (9)])) [((1 : UInt8), 5)]).length = 32 from onF_len _ (show (hmac (((1 : UInt8) :: List.replicate 31 (0 : UInt8))) (framed [headB ((1 : UInt64)) (([] : List UInt8)) ((7 : UInt8)) (0) (9)])).length = 32 from hmac_len _ _) _) (by first | omega | (dsimp only; omega) | simp) (6)) ?_)
  rintro _ w ⟨rfl, Hc⟩
  replace H : Hp _ w _ ([_, _, _, _]) := H.call Hc
  clear Hc
  refine l_yes rfl rfl rfl (o_val (r_bin (a := checkT (((1 : UInt8) :: List.replicate 31 (0 : UInt8))) (⟨(1 : UInt64), ([] : List UInt8), (7 : UInt8), 0, 9, ⟨hd a3, 0 + 1, c4, ([] : List Cav) ++ [((1 : UInt8), 5)]⟩, onF (hmac (((1 : UInt8) :: List.replicate 31 (0 : UInt8))) (framed [headB ((1 : UInt64)) (([] : List UInt8)) ((7 : UInt8)) (0) (9)])) [((1 : UInt8), 5)]⟩ : Tok) (6)) (b := 14) rfl rfl (fun _ => b_eqlB true (decide_eq_true (by have := c2 6; omega)))) ?_)
  refine l_op (o_val (r_pick rfl) ?_)
  refine l_op (o_val (r_mv) ?_)
  refine l_yes rfl rfl rfl (o_val (r_mv) ?_)
  refine l_yes rfl rfl rfl (o_val (r_bin (a := (((effF ((7 : UInt8)) (9) (([] : List Cav) ++ [((1 : UInt8), 5)])).1).toNat : Int)) (b := 1) rfl rfl (fun _ => b_eqlB true (decide_eq_true (by rfl)))) ?_)
  refine l_op (o_val (r_pick rfl) ?_)
  refine l_op (o_val (r_mv) ?_)
  refine l_yes rfl rfl rfl (o_val (r_mv) ?_)
  refine l_yes rfl rfl rfl (o_val (r_bin (a := (effF ((7 : UInt8)) (9) (([] : List Cav) ++ [((1 : UInt8), 5)])).2) (b := 5) rfl rfl (fun _ => b_eqlB true (decide_eq_true (by rfl)))) ?_)
  refine l_op (o_val (r_pick rfl) ?_)
  refine l_op (o_val (r_as) ?_)
  first | refine l_end ?_ | refine l_nil ?_
  refine c_ret ?_
  try dsimp only [Exit.then, Exit.inBlock]
  refine e_ret1 (v := .bool true) Try.results65 rfl ?_
  refine ⟨_, rfl, ?_⟩
  exact ⟨rfl, H.sub (List.nil_sublist _)⟩
end Go.Proofs.Ytjmbbhnpfmblpaa
namespace Go.Proofs.Ytjmbbhnpfmblpaa
open Go
set_option maxRecDepth 100000
theorem eqCav {w : World} (c e : Cav) : (Op.equal 78 (.agg (cavE c).toArray) (.agg (cavE e).toArray)).run Try.prog w = .ok (decide (c = e)) w := by
  refine eqS_of Try.underlying78 (by kernel_rfl) ?_
  have hb : (decide ((c.1.toNat : Int) = (e.1.toNat : Int)) && (decide (c.2 = e.2) && true)) = decide (c = e) := by
    rw [Bool.eq_iff_iff]
    simp only [Bool.and_eq_true, decide_eq_true_eq, and_true]
    constructor
    · rintro ⟨h1, h2⟩
      exact Prod.ext (UInt8.toNat_inj.1 (by omega)) h2
    · rintro rfl; exact ⟨rfl, rfl⟩
  rw [← hb]
  exact eqF_cons (by decide) (part_cell (by kernel_rfl) rfl) (part_cell (by kernel_rfl) rfl) (eqI_int (by kernel_rfl) 9998 _ _)
    (eqF_cons (by decide) (part_cell (by kernel_rfl) rfl) (part_cell (by kernel_rfl) rfl) (eqI_int (by kernel_rfl) 9998 _ _) (eqF_nil _ _ _))
theorem egCav : Try.prog.eqGuardType Try.prog.depth 78 = false := by kernel_rfl
def sameT (t u : Tok) : Bool := decide (t.tv = u.tv)
theorem tv_ext {t u : Tok} (h0 : (t.serial.toNat : Int) = u.serial.toNat) (h1 : t.tenant = u.tenant) (h2 : (t.rights.toNat : Int) = u.rights.toNat) (h3 : t.from_ = u.from_) (h4 : t.until_ = u.until_) (h6 : t.tag = u.tag) (h5 : t.cs.l = u.cs.l) : t.tv = u.tv := by
  simp only [Tok.tv, TV.mk.injEq]
  exact ⟨UInt64.toNat_inj.1 (by omega), h1, UInt8.toNat_inj.1 (by omega), h3, h4, h5, h6⟩
theorem tv_eqs {t u : Tok} (e : t.tv = u.tv) : t.serial.toNat = u.serial.toNat ∧ t.tenant = u.tenant ∧ t.rights.toNat = u.rights.toNat ∧ t.from_ = u.from_ ∧ t.until_ = u.until_ ∧ t.tag = u.tag ∧ t.cs.l = u.cs.l ∧ t.cs.l.length = u.cs.l.length := by
  simp only [Tok.tv, TV.mk.injEq] at e
  obtain ⟨h0, h1, h2, h3, h4, h5, h6⟩ := e
  exact ⟨by rw [h0], h1, by rw [h2], h3, h4, h6, h5, by rw [h5]⟩
theorem same14_ret (w0 : World) (t u : Tok) (hc : t.cs.ok cavE 2 w0) (htag : t.tag.length = 32) (hcu : u.cs.ok cavE 2 w0) (hutag : u.tag.length = 32) :
    Ret Try.prog 74 [.agg ([V64 t.serial, .string ⟨(t.tenant).toArray⟩, V8 t.rights, VI t.from_, VI t.until_, t.cs.v] ++ (t.tag).map V8).toArray, .agg ([V64 u.serial, .string ⟨(u.tenant).toArray⟩, V8 u.rights, VI u.from_, VI u.until_, u.cs.v] ++ (u.tag).map V8).toArray] w0 fun v w' => v = .bool (sameT t u) ∧ Hp w0 w' [] [] := by
  refine ret_mk Try.func74 rfl Try.ntmps74 (by simp) ?_
  have H := Hp.refl w0 []
  have hcl := hc.ln
  have hul := hcu.ln
  have hxl := hc.le
  have hxm := hc.mx
  have hmL : maxLen = 9223372036854775807 := rfl
  repeat refine c_seq ?_
  refine c_region ?_
  refine l_op (o_box (v := .agg ([V64 t.serial, .string ⟨(t.tenant).toArray⟩, V8 t.rights, VI t.from_, VI t.until_, t.cs.v] ++ (t.tag).map V8).toArray) H rfl (fun b1 w H hb1 => ?_))
  replace H : Hp _ w _ ([.blk b1 ([V64 t.serial, .string ⟨(t.tenant).toArray⟩, V8 t.rights, VI t.from_, VI t.until_, t.cs.v] ++ (t.tag).map V8) 76]) := H
  refine l_op (o_box (v := .agg ([V64 u.serial, .string ⟨(u.tenant).toArray⟩, V8 u.rights, VI u.from_, VI u.until_, u.cs.v] ++ (u.tag).map V8).toArray) H rfl (fun b2 w H hb2 => ?_))
  replace H : Hp _ w _ ([_, .blk b2 ([V64 u.serial, .string ⟨(u.tenant).toArray⟩, V8 u.rights, VI u.from_, VI u.until_, u.cs.v] ++ (u.tag).map V8) 76]) := H
  refine l_op (o_val (r_as) ?_)
  first | refine l_end ?_ | refine l_nil ?_
  repeat refine c_seq ?_
  refine c_region ?_
  refine l_op (o_val (r_fa rfl fo76_0) ?_)
  refine l_op (o_val (r_ld (v := V64 t.serial) H (i := 0) rfl rfl ct35 rfl) ?_)
  refine l_op (o_val (r_fa rfl fo76_0) ?_)
  refine l_op (o_val (r_ld (v := V64 u.serial) H (i := 1) rfl rfl ct35 rfl) ?_)
  refine l_op (o_val (r_bin (a := (t.serial.toNat : Int)) (b := (u.serial.toNat : Int)) rfl rfl (fun _ => b_neq)) ?_)
  refine l_op (o_val (r_mv) ?_)
  by_cases hc3 : (t.serial.toNat : Int) ≠ (u.serial.toNat : Int)
  ·
   refine l_no rfl rfl (by exact congrArg Value.bool (decide_eq_true hc3)) rfl ?_
   refine l_no rfl rfl (by exact congrArg Value.bool (decide_eq_true hc3)) rfl ?_
   refine l_no rfl rfl (by exact congrArg Value.bool (decide_eq_true hc3)) rfl ?_
   refine l_no rfl rfl (by exact congrArg Value.bool (decide_eq_true hc3)) rfl ?_
   refine l_no rfl rfl (by exact congrArg Value.bool (decide_eq_true hc3)) rfl ?_
   refine l_op (o_val (r_pick (b := true) (congrArg Value.bool (decide_eq_true hc3))) ?_)
   refine l_op (o_val (r_mv) ?_)
   refine l_no rfl rfl rfl rfl ?_
   refine l_no rfl rfl rfl rfl ?_
   refine l_no rfl rfl rfl rfl ?_
   refine l_no rfl rfl rfl rfl ?_
   refine l_no rfl rfl rfl rfl ?_
   refine l_op (o_val (r_pick rfl) ?_)
   refine l_op (o_val (r_mv) ?_)
   refine l_no rfl rfl rfl rfl ?_
   refine l_no rfl rfl rfl rfl ?_
   refine l_no rfl rfl rfl rfl ?_
   refine l_no rfl rfl rfl rfl ?_
   refine l_no rfl rfl rfl rfl ?_
   refine l_op (o_val (r_pick rfl) ?_)
   refine l_op (o_val (r_mv) ?_)
   refine l_no rfl rfl rfl rfl ?_
   refine l_no rfl rfl rfl rfl ?_
   refine l_no rfl rfl rfl rfl ?_
   refine l_no rfl rfl rfl rfl ?_
   refine l_no rfl rfl rfl rfl ?_
   refine l_op (o_val (r_pick rfl) ?_)
   refine l_op (o_val (r_mv) ?_)
   refine l_no rfl rfl rfl rfl ?_
   refine l_no rfl rfl rfl rfl ?_
   refine l_no rfl rfl rfl rfl ?_
   refine l_no rfl rfl rfl rfl ?_
   refine l_no rfl rfl rfl rfl ?_
   refine l_op (o_val (r_pick rfl) ?_)
   refine l_op (o_val (r_mv) ?_)
   refine l_no rfl rfl rfl rfl ?_
   refine l_no rfl rfl rfl rfl ?_
   refine l_no rfl rfl rfl rfl ?_
   refine l_no rfl rfl rfl rfl ?_
   refine l_no rfl rfl rfl rfl ?_
   refine l_no rfl rfl rfl rfl ?_
   refine l_no rfl rfl rfl rfl ?_
   refine l_op (o_val (r_pick rfl) ?_)
   first | refine l_end ?_ | refine l_nil ?_
   repeat refine c_seq ?_
   refine c_yes rfl ?_
   repeat refine c_seq ?_
   refine c_region ?_
   refine l_op (o_val (r_as) ?_)
   first | refine l_end ?_ | refine l_nil ?_
   refine c_ret ?_
   try dsimp only [Exit.then, Exit.inBlock]
   refine e_ret1 (v := .bool false) Try.results74 rfl ?_
   refine ⟨_, rfl, ?_⟩
   refine ⟨?_, H.sub (List.nil_sublist _)⟩
   have e : sameT t u = false := decide_eq_false fun e => by
     obtain ⟨e0, e1, e2, e3, e4, e5, e6, e7⟩ := tv_eqs e
     first | contradiction | omega
   rw [e]
  ·
   refine l_yes rfl rfl (by exact congrArg Value.bool (decide_eq_false hc3)) (o_val (r_fa rfl fo76_1) ?_)
   refine l_yes rfl rfl (by exact congrArg Value.bool (decide_eq_false hc3)) (o_val (r_ld (v := .string ⟨(t.tenant).toArray⟩) H (i := 0) rfl rfl ct9 rfl) ?_)
   refine l_yes rfl rfl (by exact congrArg Value.bool (decide_eq_false hc3)) (o_val (r_fa rfl fo76_1) ?_)
   refine l_yes rfl rfl (by exact congrArg Value.bool (decide_eq_false hc3)) (o_val (r_ld (v := .string ⟨(u.tenant).toArray⟩) H (i := 1) rfl rfl ct9 rfl) ?_)
   refine l_yes rfl rfl (by exact congrArg Value.bool (decide_eq_false hc3)) (o_val (r_strne (a := t.tenant) (b := u.tenant) rfl rfl) ?_)
   refine l_op (o_val (r_pick (b := false) (congrArg Value.bool (decide_eq_false hc3))) ?_)
   refine l_op (o_val (r_mv) ?_)
   by_cases hc4 : t.tenant = u.tenant
   ·
    refine l_yes rfl rfl (by exact congrArg Value.bool (congrArg not (decide_eq_true hc4))) (o_val (r_fa rfl fo76_2) ?_)
    refine l_yes rfl rfl (by exact congrArg Value.bool (congrArg not (decide_eq_true hc4))) (o_val (r_ld (v := V8 t.rights) H (i := 0) rfl rfl ct73 rfl) ?_)
    refine l_yes rfl rfl (by exact congrArg Value.bool (congrArg not (decide_eq_true hc4))) (o_val (r_fa rfl fo76_2) ?_)
    refine l_yes rfl rfl (by exact congrArg Value.bool (congrArg not (decide_eq_true hc4))) (o_val (r_ld (v := V8 u.rights) H (i := 1) rfl rfl ct73 rfl) ?_)
    refine l_yes rfl rfl (by exact congrArg Value.bool (congrArg not (decide_eq_true hc4))) (o_val (r_bin (a := (t.rights.toNat : Int)) (b := (u.rights.toNat : Int)) rfl rfl (fun _ => b_neq)) ?_)
    refine l_op (o_val (r_pick (b := false) (congrArg Value.bool (congrArg not (decide_eq_true hc4)))) ?_)
    refine l_op (o_val (r_mv) ?_)
    by_cases hc5 : (t.rights.toNat : Int) ≠ (u.rights.toNat : Int)
    ·
     refine l_no rfl rfl (by exact congrArg Value.bool (decide_eq_true hc5)) rfl ?_
     refine l_no rfl rfl (by exact congrArg Value.bool (decide_eq_true hc5)) rfl ?_
     refine l_no rfl rfl (by exact congrArg Value.bool (decide_eq_true hc5)) rfl ?_
     refine l_no rfl rfl (by exact congrArg Value.bool (decide_eq_true hc5)) rfl ?_
     refine l_no rfl rfl (by exact congrArg Value.bool (decide_eq_true hc5)) rfl ?_
     refine l_op (o_val (r_pick (b := true) (congrArg Value.bool (decide_eq_true hc5))) ?_)
     refine l_op (o_val (r_mv) ?_)
     refine l_no rfl rfl rfl rfl ?_
     refine l_no rfl rfl rfl rfl ?_
     refine l_no rfl rfl rfl rfl ?_
     refine l_no rfl rfl rfl rfl ?_
     refine l_no rfl rfl rfl rfl ?_
     refine l_op (o_val (r_pick rfl) ?_)
     refine l_op (o_val (r_mv) ?_)
     refine l_no rfl rfl rfl rfl ?_
     refine l_no rfl rfl rfl rfl ?_
     refine l_no rfl rfl rfl rfl ?_
     refine l_no rfl rfl rfl rfl ?_
     refine l_no rfl rfl rfl rfl ?_
     refine l_op (o_val (r_pick rfl) ?_)
     refine l_op (o_val (r_mv) ?_)
     refine l_no rfl rfl rfl rfl ?_
     refine l_no rfl rfl rfl rfl ?_
     refine l_no rfl rfl rfl rfl ?_
     refine l_no rfl rfl rfl rfl ?_
     refine l_no rfl rfl rfl rfl ?_
     refine l_no rfl rfl rfl rfl ?_
     refine l_no rfl rfl rfl rfl ?_
     refine l_op (o_val (r_pick rfl) ?_)
     first | refine l_end ?_ | refine l_nil ?_
     repeat refine c_seq ?_
     refine c_yes rfl ?_
     repeat refine c_seq ?_
     refine c_region ?_
     refine l_op (o_val (r_as) ?_)
     first | refine l_end ?_ | refine l_nil ?_
     refine c_ret ?_
     try dsimp only [Exit.then, Exit.inBlock]
     refine e_ret1 (v := .bool false) Try.results74 rfl ?_
     refine ⟨_, rfl, ?_⟩
     refine ⟨?_, H.sub (List.nil_sublist _)⟩
     have e : sameT t u = false := decide_eq_false fun e => by
       obtain ⟨e0, e1, e2, e3, e4, e5, e6, e7⟩ := tv_eqs e
       first | contradiction | omega
     rw [e]
    ·
     refine l_yes rfl rfl (by exact congrArg Value.bool (decide_eq_false hc5)) (o_val (r_fa rfl fo76_3) ?_)
     refine l_yes rfl rfl (by exact congrArg Value.bool (decide_eq_false hc5)) (o_val (r_ld (v := VI t.from_) H (i := 0) rfl rfl ct2 rfl) ?_)
     refine l_yes rfl rfl (by exact congrArg Value.bool (decide_eq_false hc5)) (o_val (r_fa rfl fo76_3) ?_)
     refine l_yes rfl rfl (by exact congrArg Value.bool (decide_eq_false hc5)) (o_val (r_ld (v := VI u.from_) H (i := 1) rfl rfl ct2 rfl) ?_)
     refine l_yes rfl rfl (by exact congrArg Value.bool (decide_eq_false hc5)) (o_val (r_bin (a := t.from_) (b := u.from_) rfl rfl (fun _ => b_neq)) ?_)
     refine l_op (o_val (r_pick (b := false) (congrArg Value.bool (decide_eq_false hc5))) ?_)
     refine l_op (o_val (r_mv) ?_)
     by_cases hc6 : t.from_ ≠ u.from_
     ·
      refine l_no rfl rfl (by exact congrArg Value.bool (decide_eq_true hc6)) rfl ?_
      refine l_no rfl rfl (by exact congrArg Value.bool (decide_eq_true hc6)) rfl ?_
      refine l_no rfl rfl (by exact congrArg Value.bool (decide_eq_true hc6)) rfl ?_
      refine l_no rfl rfl (by exact congrArg Value.bool (decide_eq_true hc6)) rfl ?_
      refine l_no rfl rfl (by exact congrArg Value.bool (decide_eq_true hc6)) rfl ?_
      refine l_op (o_val (r_pick (b := true) (congrArg Value.bool (decide_eq_true hc6))) ?_)
      refine l_op (o_val (r_mv) ?_)
      refine l_no rfl rfl rfl rfl ?_
      refine l_no rfl rfl rfl rfl ?_
      refine l_no rfl rfl rfl rfl ?_
      refine l_no rfl rfl rfl rfl ?_
      refine l_no rfl rfl rfl rfl ?_
      refine l_op (o_val (r_pick rfl) ?_)
      refine l_op (o_val (r_mv) ?_)
      refine l_no rfl rfl rfl rfl ?_
      refine l_no rfl rfl rfl rfl ?_
      refine l_no rfl rfl rfl rfl ?_
      refine l_no rfl rfl rfl rfl ?_
      refine l_no rfl rfl rfl rfl ?_
      refine l_no rfl rfl rfl rfl ?_
      refine l_no rfl rfl rfl rfl ?_
      refine l_op (o_val (r_pick rfl) ?_)
      first | refine l_end ?_ | refine l_nil ?_
      repeat refine c_seq ?_
      refine c_yes rfl ?_
      repeat refine c_seq ?_
      refine c_region ?_
      refine l_op (o_val (r_as) ?_)
      first | refine l_end ?_ | refine l_nil ?_
      refine c_ret ?_
      try dsimp only [Exit.then, Exit.inBlock]
      refine e_ret1 (v := .bool false) Try.results74 rfl ?_
      refine ⟨_, rfl, ?_⟩
      refine ⟨?_, H.sub (List.nil_sublist _)⟩
      have e : sameT t u = false := decide_eq_false fun e => by
        obtain ⟨e0, e1, e2, e3, e4, e5, e6, e7⟩ := tv_eqs e
        first | contradiction | omega
      rw [e]
     ·
      refine l_yes rfl rfl (by exact congrArg Value.bool (decide_eq_false hc6)) (o_val (r_fa rfl fo76_4) ?_)
      refine l_yes rfl rfl (by exact congrArg Value.bool (decide_eq_false hc6)) (o_val (r_ld (v := VI t.until_) H (i := 0) rfl rfl ct2 rfl) ?_)
      refine l_yes rfl rfl (by exact congrArg Value.bool (decide_eq_false hc6)) (o_val (r_fa rfl fo76_4) ?_)
      refine l_yes rfl rfl (by exact congrArg Value.bool (decide_eq_false hc6)) (o_val (r_ld (v := VI u.until_) H (i := 1) rfl rfl ct2 rfl) ?_)
      refine l_yes rfl rfl (by exact congrArg Value.bool (decide_eq_false hc6)) (o_val (r_bin (a := t.until_) (b := u.until_) rfl rfl (fun _ => b_neq)) ?_)
      refine l_op (o_val (r_pick (b := false) (congrArg Value.bool (decide_eq_false hc6))) ?_)
      refine l_op (o_val (r_mv) ?_)
      by_cases hc7 : t.until_ ≠ u.until_
      ·
       refine l_no rfl rfl (by exact congrArg Value.bool (decide_eq_true hc7)) rfl ?_
       refine l_no rfl rfl (by exact congrArg Value.bool (decide_eq_true hc7)) rfl ?_
       refine l_no rfl rfl (by exact congrArg Value.bool (decide_eq_true hc7)) rfl ?_
       refine l_no rfl rfl (by exact congrArg Value.bool (decide_eq_true hc7)) rfl ?_
       refine l_no rfl rfl (by exact congrArg Value.bool (decide_eq_true hc7)) rfl ?_
       refine l_op (o_val (r_pick (b := true) (congrArg Value.bool (decide_eq_true hc7))) ?_)
       refine l_op (o_val (r_mv) ?_)
       refine l_no rfl rfl rfl rfl ?_
       refine l_no rfl rfl rfl rfl ?_
       refine l_no rfl rfl rfl rfl ?_
       refine l_no rfl rfl rfl rfl ?_
       refine l_no rfl rfl rfl rfl ?_
       refine l_no rfl rfl rfl rfl ?_
       refine l_no rfl rfl rfl rfl ?_
       refine l_op (o_val (r_pick rfl) ?_)
       first | refine l_end ?_ | refine l_nil ?_
       repeat refine c_seq ?_
       refine c_yes rfl ?_
       repeat refine c_seq ?_
       refine c_region ?_
       refine l_op (o_val (r_as) ?_)
       first | refine l_end ?_ | refine l_nil ?_
       refine c_ret ?_
       try dsimp only [Exit.then, Exit.inBlock]
       refine e_ret1 (v := .bool false) Try.results74 rfl ?_
       refine ⟨_, rfl, ?_⟩
       refine ⟨?_, H.sub (List.nil_sublist _)⟩
       have e : sameT t u = false := decide_eq_false fun e => by
         obtain ⟨e0, e1, e2, e3, e4, e5, e6, e7⟩ := tv_eqs e
         first | contradiction | omega
       rw [e]
      ·
       refine l_yes rfl rfl (by exact congrArg Value.bool (decide_eq_false hc7)) (o_val (r_fa rfl fo76_6) ?_)
       refine l_yes rfl rfl (by exact congrArg Value.bool (decide_eq_false hc7)) (o_val (r_ldT (pre := [V64 t.serial, .string ⟨(t.tenant).toArray⟩, V8 t.rights, VI t.from_, VI t.until_, t.cs.v]) (l := t.tag) H (i := 0) rfl rfl rt31 rfl (show (t.tag).length = 32 from htag)) ?_)
       refine l_yes rfl rfl (by exact congrArg Value.bool (decide_eq_false hc7)) (o_val (r_fa rfl fo76_6) ?_)
       refine l_yes rfl rfl (by exact congrArg Value.bool (decide_eq_false hc7)) (o_val (r_ldT (pre := [V64 u.serial, .string ⟨(u.tenant).toArray⟩, V8 u.rights, VI u.from_, VI u.until_, u.cs.v]) (l := u.tag) H (i := 1) rfl rfl rt31 rfl (show (u.tag).length = 32 from hutag)) ?_)
       refine l_yes rfl rfl (by exact congrArg Value.bool (decide_eq_false hc7)) (o_val (r_nea (a := t.tag) (b := u.tag) Try.underlying31 Try.underlying5 cs5 rfl rfl (show (t.tag).length = 32 from htag) (show (u.tag).length = 32 from hutag)) ?_)
       refine l_op (o_val (r_pick (b := false) (congrArg Value.bool (decide_eq_false hc7))) ?_)
       refine l_op (o_val (r_mv) ?_)
       by_cases hc8 : t.tag = u.tag
       ·
        refine l_yes rfl rfl (by exact congrArg Value.bool (congrArg not (decide_eq_true hc8))) (o_val (r_fa rfl fo76_5) ?_)
        refine l_yes rfl rfl (by exact congrArg Value.bool (congrArg not (decide_eq_true hc8))) (o_val (r_ld (v := t.cs.v) H (i := 0) rfl rfl ct74 rfl) ?_)
        refine l_yes rfl rfl (by exact congrArg Value.bool (congrArg not (decide_eq_true hc8))) (o_val (r_lens el74 rfl) ?_)
        refine l_yes rfl rfl (by exact congrArg Value.bool (congrArg not (decide_eq_true hc8))) (o_val (r_fa rfl fo76_5) ?_)
        refine l_yes rfl rfl (by exact congrArg Value.bool (congrArg not (decide_eq_true hc8))) (o_val (r_ld (v := u.cs.v) H (i := 1) rfl rfl ct74 rfl) ?_)
        refine l_yes rfl rfl (by exact congrArg Value.bool (congrArg not (decide_eq_true hc8))) (o_val (r_lens el74 rfl) ?_)
        refine l_yes rfl rfl (by exact congrArg Value.bool (congrArg not (decide_eq_true hc8))) (o_val (r_bin (a := (t.cs.len : Int)) (b := (u.cs.len : Int)) rfl rfl (fun _ => b_neq)) ?_)
        refine l_op (o_val (r_pick (b := false) (congrArg Value.bool (congrArg not (decide_eq_true hc8)))) ?_)
        first | refine l_end ?_ | refine l_nil ?_
        by_cases hc9 : (t.cs.len : Int) ≠ (u.cs.len : Int)
        ·
         repeat refine c_seq ?_
         refine c_yes (by exact congrArg Value.bool (decide_eq_true hc9)) ?_
         repeat refine c_seq ?_
         refine c_region ?_
         refine l_op (o_val (r_as) ?_)
         first | refine l_end ?_ | refine l_nil ?_
         refine c_ret ?_
         try dsimp only [Exit.then, Exit.inBlock]
         refine e_ret1 (v := .bool false) Try.results74 rfl ?_
         refine ⟨_, rfl, ?_⟩
         refine ⟨?_, H.sub (List.nil_sublist _)⟩
         have e : sameT t u = false := decide_eq_false fun e => by
           obtain ⟨e0, e1, e2, e3, e4, e5, e6, e7⟩ := tv_eqs e
           first | contradiction | omega
         rw [e]
        ·
         repeat refine c_seq ?_
         refine c_no (by exact congrArg Value.bool (decide_eq_false hc9)) ?_
         refine c_skip ?_
         repeat refine c_seq ?_
         refine c_region ?_
         refine l_op (o_val (r_as) ?_)
         first | refine l_end ?_ | refine l_nil ?_
         repeat refine c_seq ?_
         refine c_block ?_
         repeat refine c_seq ?_
         refine c_loop (fun (i : Nat) => [(2, .pointer (some ⟨b1, 0, none⟩)), (3, .pointer (some ⟨b2, 0, none⟩)), (5, VI (i : Int))])
           (fun (i : Nat) w => (i ≤ t.cs.len ∧ ∀ j, j < i → t.cs.l[j]? = u.cs.l[j]?) ∧ Hp w0 w [] ([.blk b1 ([V64 t.serial, .string ⟨(t.tenant).toArray⟩, V8 t.rights, VI t.from_, VI t.until_, t.cs.v] ++ (t.tag).map V8) 76, .blk b2 ([V64 u.serial, .string ⟨(u.tenant).toArray⟩, V8 u.rights, VI u.from_, VI u.until_, u.cs.v] ++ (u.tag).map V8) 76]))
           (fun (i : Nat) => t.cs.len - i) 0 ⟨rfl, rfl, rfl, trivial⟩ ⟨⟨Nat.zero_le _, fun j hj => absurd hj (by omega)⟩, H⟩ ?_
         clear H
         rintro i τ w ⟨⟨hi, hall⟩, H⟩
         repeat refine c_seq ?_
         refine c_region ?_
         refine l_op (o_val (r_mv) ?_)
         refine l_op (o_val (r_fa rfl fo76_5) ?_)
         refine l_op (o_val (r_ld (v := t.cs.v) H (i := 0) rfl rfl ct74 rfl) ?_)
         refine l_op (o_val (r_lens el74 rfl) ?_)
         refine l_op (o_val (r_bin (a := (i : Int)) (b := (t.cs.len : Int)) rfl rfl (fun _ => b_lss)) ?_)
         first | refine l_end ?_ | refine l_nil ?_
         by_cases hc10 : (i : Int) < (t.cs.len : Int)
         ·
          repeat refine c_seq ?_
          refine c_yes (by exact congrArg Value.bool (decide_eq_true hc10)) ?_
          refine c_skip ?_
          repeat refine c_seq ?_
          refine c_block ?_
          repeat refine c_seq ?_
          refine c_still mixed (by kernel_rfl) ?_
          replace H := H.drew
          refine s_op (r_fa rfl fo76_5) ?_
          refine s_op (r_ld (v := t.cs.v) H (i := 0) rfl rfl ct74 rfl) ?_
          refine s_op (r_mv) ?_
          have ah13 := ((hc.up H)).addr (by decide) (by first | omega | (dsimp only; omega))
          obtain ⟨ab11, ao12, ah13⟩ := ah13
          refine s_op (r_isN i rfl rfl el74 ah13 (by omega) (by (try simp only [Sl.cut]); omega)) ?_
          have he15 : ∃ c, t.cs.l[i]? = some c := ⟨_, List.getElem?_eq_getElem (by have := ((hc.up H)).ln; (try dsimp only at this ⊢); omega)⟩
          obtain ⟨e14, he15⟩ := he15
          have hez16 := ((hc.up H)).sz e14 (List.mem_of_getElem? he15)
          refine s_op (r_ldRow (s := t.cs) (k := i) (hc.up H) ah13 rfl rt78 (by decide) he15) ?_
          refine s_op (r_fa rfl fo76_5) ?_
          refine s_op (r_ld (v := u.cs.v) H (i := 1) rfl rfl ct74 rfl) ?_
          refine s_op (r_mv) ?_
          have ah19 := ((hcu.up H)).addr (by decide) (by first | omega | (dsimp only; omega))
          obtain ⟨ab17, ao18, ah19⟩ := ah19
          refine s_op (r_isN i rfl rfl el74 ah19 (by omega) (by (try simp only [Sl.cut]); omega)) ?_
          have he21 : ∃ c, u.cs.l[i]? = some c := ⟨_, List.getElem?_eq_getElem (by have := ((hcu.up H)).ln; (try dsimp only at this ⊢); omega)⟩
          obtain ⟨e20, he21⟩ := he21
          have hez22 := ((hcu.up H)).sz e20 (List.mem_of_getElem? he21)
          refine s_op (r_ldRow (s := u.cs) (k := i) (hcu.up H) ah19 rfl rt78 (by decide) he21) ?_
          refine s_op (r_neS egCav rfl rfl (eqCav e14 e20)) ?_
          refine s_nil ?_
          by_cases hc23 : e14 = e20
          ·
           repeat refine c_seq ?_
           refine c_no (by exact congrArg Value.bool (congrArg not (decide_eq_true hc23))) ?_
           refine c_skip ?_
           repeat refine c_seq ?_
           refine c_region ?_
           refine l_op (o_val (r_mv) ?_)
           refine l_op (o_val (r_bin (a := (i : Int)) (b := 1) rfl rfl (fun _ => b_add (by omega) (by omega))) ?_)
           refine l_op (o_val (r_as) ?_)
           first | refine l_end ?_ | refine l_nil ?_
           refine round_end (i + 1) ?_ ?_ ?_
           · exact ⟨rfl, rfl, show VI ((i : Int) + 1) = VI ((i + 1 : Nat) : Int) from congrArg VI (by omega), trivial⟩
           · refine ⟨?_, ?_⟩
             · try dsimp only
               exact ⟨by omega, fun j hj => by
                 by_cases hji : j < i
                 · exact hall j hji
                 · have e : j = i := by omega
                   rw [e, he15, he21]
                   exact congrArg some (by first | assumption | exact Classical.not_not.1 (by assumption))⟩
             · exact H
           · show t.cs.len - (i + 1 : Nat) < t.cs.len - i; omega
          ·
           repeat refine c_seq ?_
           refine c_yes (by exact congrArg Value.bool (congrArg not (decide_eq_false hc23))) ?_
           repeat refine c_seq ?_
           refine c_region ?_
           refine l_op (o_val (r_as) ?_)
           first | refine l_end ?_ | refine l_nil ?_
           refine c_ret ?_
           try dsimp only [Exit.then, Exit.inBlock]
           refine e_ret1 (v := .bool false) Try.results74 rfl ?_
           refine ⟨_, rfl, ?_⟩
           refine ⟨?_, H.sub (List.nil_sublist _)⟩
           have e : sameT t u = false := decide_eq_false fun e => by
             obtain ⟨e0, e1, e2, e3, e4, e5, e6, e7⟩ := tv_eqs e
             first | contradiction | omega | (rw [e6, he21] at he15; have e9 := Option.some.inj he15; exact absurd e9.symm (by assumption))
           rw [e]
         ·
          repeat refine c_seq ?_
          refine c_no (by exact congrArg Value.bool (decide_eq_false hc10)) ?_
          refine c_exit ?_
          repeat refine c_seq ?_
          refine c_region ?_
          refine l_op (o_val (r_as) ?_)
          first | refine l_end ?_ | refine l_nil ?_
          refine c_ret ?_
          try dsimp only [Exit.then, Exit.inBlock]
          refine e_ret1 (v := .bool true) Try.results74 rfl ?_
          refine ⟨_, rfl, ?_⟩
          refine ⟨?_, H.sub (List.nil_sublist _)⟩
          have e : sameT t u = true := decide_eq_true (tv_ext (by omega) (by first | assumption | exact Classical.not_not.1 (by assumption)) (by omega) (by omega) (by omega) (by first | assumption | exact Classical.not_not.1 (by assumption)) (by
            apply List.ext_getElem?
            intro j
            by_cases hj : j < i
            · exact hall j hj
            · rw [List.getElem?_eq_none (by omega), List.getElem?_eq_none (by omega)]))
          rw [e]
       ·
        refine l_no rfl rfl (by exact congrArg Value.bool (congrArg not (decide_eq_false hc8))) rfl ?_
        refine l_no rfl rfl (by exact congrArg Value.bool (congrArg not (decide_eq_false hc8))) rfl ?_
        refine l_no rfl rfl (by exact congrArg Value.bool (congrArg not (decide_eq_false hc8))) rfl ?_
        refine l_no rfl rfl (by exact congrArg Value.bool (congrArg not (decide_eq_false hc8))) rfl ?_
        refine l_no rfl rfl (by exact congrArg Value.bool (congrArg not (decide_eq_false hc8))) rfl ?_
        refine l_no rfl rfl (by exact congrArg Value.bool (congrArg not (decide_eq_false hc8))) rfl ?_
        refine l_no rfl rfl (by exact congrArg Value.bool (congrArg not (decide_eq_false hc8))) rfl ?_
        refine l_op (o_val (r_pick (b := true) (congrArg Value.bool (congrArg not (decide_eq_false hc8)))) ?_)
        first | refine l_end ?_ | refine l_nil ?_
        repeat refine c_seq ?_
        refine c_yes rfl ?_
        repeat refine c_seq ?_
        refine c_region ?_
        refine l_op (o_val (r_as) ?_)
        first | refine l_end ?_ | refine l_nil ?_
        refine c_ret ?_
        try dsimp only [Exit.then, Exit.inBlock]
        refine e_ret1 (v := .bool false) Try.results74 rfl ?_
        refine ⟨_, rfl, ?_⟩
        refine ⟨?_, H.sub (List.nil_sublist _)⟩
        have e : sameT t u = false := decide_eq_false fun e => by
          obtain ⟨e0, e1, e2, e3, e4, e5, e6, e7⟩ := tv_eqs e
          first | contradiction | omega
        rw [e]
   ·
    refine l_no rfl rfl (by exact congrArg Value.bool (congrArg not (decide_eq_false hc4))) rfl ?_
    refine l_no rfl rfl (by exact congrArg Value.bool (congrArg not (decide_eq_false hc4))) rfl ?_
    refine l_no rfl rfl (by exact congrArg Value.bool (congrArg not (decide_eq_false hc4))) rfl ?_
    refine l_no rfl rfl (by exact congrArg Value.bool (congrArg not (decide_eq_false hc4))) rfl ?_
    refine l_no rfl rfl (by exact congrArg Value.bool (congrArg not (decide_eq_false hc4))) rfl ?_
    refine l_op (o_val (r_pick (b := true) (congrArg Value.bool (congrArg not (decide_eq_false hc4)))) ?_)
    refine l_op (o_val (r_mv) ?_)
    refine l_no rfl rfl rfl rfl ?_
    refine l_no rfl rfl rfl rfl ?_
    refine l_no rfl rfl rfl rfl ?_
    refine l_no rfl rfl rfl rfl ?_
    refine l_no rfl rfl rfl rfl ?_
    refine l_op (o_val (r_pick rfl) ?_)
    refine l_op (o_val (r_mv) ?_)
    refine l_no rfl rfl rfl rfl ?_
    refine l_no rfl rfl rfl rfl ?_
    refine l_no rfl rfl rfl rfl ?_
    refine l_no rfl rfl rfl rfl ?_
    refine l_no rfl rfl rfl rfl ?_
    refine l_op (o_val (r_pick rfl) ?_)
    refine l_op (o_val (r_mv) ?_)
    refine l_no rfl rfl rfl rfl ?_
    refine l_no rfl rfl rfl rfl ?_
    refine l_no rfl rfl rfl rfl ?_
    refine l_no rfl rfl rfl rfl ?_
    refine l_no rfl rfl rfl rfl ?_
    refine l_op (o_val (r_pick rfl) ?_)
    refine l_op (o_val (r_mv) ?_)
    refine l_no rfl rfl rfl rfl ?_
    refine l_no rfl rfl rfl rfl ?_
    refine l_no rfl rfl rfl rfl ?_
    refine l_no rfl rfl rfl rfl ?_
    refine l_no rfl rfl rfl rfl ?_
    refine l_no rfl rfl rfl rfl ?_
    refine l_no rfl rfl rfl rfl ?_
    refine l_op (o_val (r_pick rfl) ?_)
    first | refine l_end ?_ | refine l_nil ?_
    repeat refine c_seq ?_
    refine c_yes rfl ?_
    repeat refine c_seq ?_
    refine c_region ?_
    refine l_op (o_val (r_as) ?_)
    first | refine l_end ?_ | refine l_nil ?_
    refine c_ret ?_
    try dsimp only [Exit.then, Exit.inBlock]
    refine e_ret1 (v := .bool false) Try.results74 rfl ?_
    refine ⟨_, rfl, ?_⟩
    refine ⟨?_, H.sub (List.nil_sublist _)⟩
    have e : sameT t u = false := decide_eq_false fun e => by
      obtain ⟨e0, e1, e2, e3, e4, e5, e6, e7⟩ := tv_eqs e
      first | contradiction | omega
    rw [e]
end Go.Proofs.Ytjmbbhnpfmblpaa
namespace Go.Proofs.Ytjmbbhnpfmblpaa
open Go
set_option maxRecDepth 100000
theorem capTake_ok (w0 : World) (s : Sl) (hs : s.ok w0) (hm : s.len ≤ 1048576) (T : TV) (hp : parseT s.l = some T) : Ret Try.prog 102 [s.v] w0 fun v w' => ∃ (a : Option Nat) (k : Nat), v = .tuple #[.agg ([V64 T.serial, .string ⟨T.tenant.toArray⟩, V8 T.rights, VI T.from_, VI T.until_, .slice (hd a) T.cs.length k] ++ T.tag.map V8).toArray, VI 0] ∧ Hp w0 w' [] [.own a T.cs.length k (T.cs.flatMap cavE) 78 2] := by
  refine (capTake_ret w0 s hs hm).mono fun v w' h => ?_
  rcases h with ⟨h, _⟩ | ⟨T', a, k, h, hv, H⟩
  · rw [hp] at h; cases h
  · rw [hp] at h; cases h; exact ⟨a, k, hv, H⟩
theorem capTake_no (w0 : World) (s : Sl) (hs : s.ok w0) (hm : s.len ≤ 1048576) (hp : parseT s.l = none) : Ret Try.prog 102 [s.v] w0 fun v w' => v = .tuple #[.agg (([V64 0, .string ⟨([] : List UInt8).toArray⟩, V8 0, VI 0, VI 0, .slice none 0 0] : List Value) ++ (List.replicate 32 (0 : UInt8)).map V8).toArray, VI 4] ∧ Hp w0 w' [] [] := by
  refine (capTake_ret w0 s hs hm).mono fun v w' h => ?_
  rcases h with ⟨_, h⟩ | ⟨T', a, k, h, hv, H⟩
  · exact h
  · rw [hp] at h; cases h
theorem take14_ok (w0 : World) (s : Sl) (hs : s.ok w0) (hm : s.len ≤ 1048576) (T : TV) (hp : parseT s.l = some T) : Ret Try.prog 103 [s.v] w0 fun v w' => ∃ (a : Option Nat) (k : Nat), v = .tuple #[.agg ([V64 T.serial, .string ⟨T.tenant.toArray⟩, V8 T.rights, VI T.from_, VI T.until_, .slice (hd a) T.cs.length k] ++ T.tag.map V8).toArray, VI 0] ∧ Hp w0 w' [] [.own a T.cs.length k (T.cs.flatMap cavE) 78 2] := by
  refine (take14_ret w0 s hs hm).mono fun v w' h => ?_
  rcases h with ⟨h, _⟩ | ⟨T', a, k, h, hv, H⟩
  · rw [hp] at h; cases h
  · rw [hp] at h; cases h; exact ⟨a, k, hv, H⟩
theorem take14_no (w0 : World) (s : Sl) (hs : s.ok w0) (hm : s.len ≤ 1048576) (hp : parseT s.l = none) : Ret Try.prog 103 [s.v] w0 fun v w' => v = .tuple #[.agg (([V64 0, .string ⟨([] : List UInt8).toArray⟩, V8 0, VI 0, VI 0, .slice none 0 0] : List Value) ++ (List.replicate 32 (0 : UInt8)).map V8).toArray, VI 4] ∧ Hp w0 w' [] [] := by
  refine (take14_ret w0 s hs hm).mono fun v w' h => ?_
  rcases h with ⟨_, h⟩ | ⟨T', a, k, h, hv, H⟩
  · exact h
  · rw [hp] at h; cases h
theorem parse_no {l : List UInt8} (h : (parseT l).isSome = false) : parseT l = none := by
  cases hp : parseT l with
  | none => rfl
  | some T => rw [hp] at h; cases h
theorem parse_tag {l : List UInt8} {T : TV} (h : parseT l = some T) : T.tag.length = 32 := ((parse_iff l T).1 h).2.1.tag
theorem spoilBlk_ret {w0 w : World} {S : List Nat} {L : List Ch} {i b len cap : Nat} {C : List Value} (H : Hp w0 w S L) (hi : L[i]? = some (.blk b C 5)) (hC : C.length = cap) (hlc : len ≤ cap) (hm : cap ≤ maxLen) :
    Ret Try.prog 43 [.slice (some ⟨b, 0, none⟩) len cap] w fun v w' => v = .tuple #[] ∧ Hp w0 w' S (L.set i (.blk b (List.replicate cap (V8 90)) 5)) := by
  refine (spoilN_ret w b len cap C (H.blk hi) hC hlc hm).mono fun v w' ⟨hv, Hc⟩ => ⟨hv, ?_⟩
  have := H.callAt hi rfl rfl Hc
  rwa [List.append_nil] at this
end Go.Proofs.Ytjmbbhnpfmblpaa
namespace Go.Proofs.Ytjmbbhnpfmblpaa
open Go
set_option maxRecDepth 100000
theorem capReads_ret (w0 : World) (s : Sl) (hs : s.ok w0) :
    Ret Try.prog 28 [s.v] w0 fun v w' => v = .bool true ∧ Hp w0 w' [] [] := by
  refine ret_mk Try.func28 rfl Try.ntmps28 (by simp) ?_
  have H := Hp.refl w0 []
  have hsl := hs.ln
  have hmL : maxLen = 9223372036854775807 := rfl
  repeat refine c_seq ?_
  refine c_region ?_
  refine l_op (o_val (r_as) ?_)
  first | refine l_end ?_ | refine l_nil ?_
  repeat refine c_seq ?_
  refine c_region ?_
  refine l_op (o_callR Try.func65 rfl rfl rfl (begun14_ret _) ?_)
  rintro _ w ⟨rfl, Hc⟩
  replace H : Hp _ w _ ([]) := H.call Hc
  clear Hc
  refine l_op (o_val (r_not rfl) ?_)
  first | refine l_end ?_ | refine l_nil ?_
  repeat refine c_seq ?_
  refine c_no rfl ?_
  refine c_skip ?_
  repeat refine c_seq ?_
  refine c_region ?_
  refine l_op (o_val (r_mv) ?_)
  refine l_op (o_val (r_lens el29 rfl) ?_)
  refine l_op (o_val (r_bin (a := (s.len : Int)) (b := 4096) rfl rfl (fun _ => b_gtr)) ?_)
  first | refine l_end ?_ | refine l_nil ?_
  by_cases hc1 : 4096 < (s.len : Int)
  ·
   repeat refine c_seq ?_
   refine c_yes (by exact congrArg Value.bool (decide_eq_true hc1)) ?_
   repeat refine c_seq ?_
   refine c_region ?_
   refine l_op (o_val (r_as) ?_)
   first | refine l_end ?_ | refine l_nil ?_
   refine c_ret ?_
   try dsimp only [Exit.then, Exit.inBlock]
   refine e_ret1 (v := .bool true) Try.results28 rfl ?_
   refine ⟨_, rfl, ?_⟩
   exact ⟨rfl, H.sub (List.nil_sublist _)⟩
  ·
   repeat refine c_seq ?_
   refine c_no (by exact congrArg Value.bool (decide_eq_false hc1)) ?_
   refine c_skip ?_
   repeat refine c_seq ?_
   refine c_region ?_
   refine l_op (o_val (r_mv) ?_)
   refine l_op (o_callR Try.func42 rfl rfl rfl (twin_ret _ s (hs.up H (fun _ => apart_nil _)) (by omega)) ?_)
   rintro _ w ⟨b2, rfl, Hc⟩
   replace H : Hp _ w _ ([.blk b2 (tw s.l 3) 5]) := H.call Hc
   clear Hc
   refine l_op (o_val (r_as) ?_)
   first | refine l_end ?_ | refine l_nil ?_
   repeat refine c_seq ?_
   refine c_region ?_
   refine l_op (o_val (r_mv) ?_)
   rcases Bool.eq_false_or_eq_true ((parseT (s.l)).isSome) with hc3 | hc3
   ·
    obtain ⟨T4, hT5⟩ := Option.isSome_iff_exists.1 hc3
    have hT5n := may_ten T4 ((parse_iff _ _).1 hT5).1
    refine l_op (o_callR Try.func102 rfl rfl rfl (capTake_ok _ (⟨some ⟨b2, 0, none⟩, s.len, s.len + 3, s.l⟩ : Sl) (kept_of_blk (H.has (.blk b2 (tw s.l 3) 5) (by simp)) s.len hsl (by omega)).ok (by (try simp only []); omega) T4 hT5) ?_)
    rintro _ w ⟨a6, c7, rfl, Hc⟩
    replace H : Hp _ w _ ([_, .own a6 T4.cs.length c7 ((T4.cs).flatMap cavE) 78 2]) := H.call Hc
    clear Hc
    refine l_op (o_val (r_mv) ?_)
    refine l_op (o_val (r_ext rfl rfl) ?_)
    refine l_op (o_val (r_ext rfl rfl) ?_)
    refine l_op (o_alloc H zc76 (fun b8 w H hb8 => ?_))
    replace H : Hp _ w _ ([_, _, .blk b8 ([V64 (0 : UInt64), .string ⟨(([] : List UInt8)).toArray⟩, V8 (0 : UInt8), VI 0, VI 0, .slice none 0 0] ++ (List.replicate 32 (0 : UInt8)).map V8) 76]) := H
    refine l_op (o_stW (C' := [V64 T4.serial, .string ⟨(T4.tenant).toArray⟩, V8 T4.rights, VI T4.from_, VI T4.until_, .slice (hd a6) T4.cs.length c7] ++ (T4.tag).map V8) H (i := 2) rfl rfl rfl cs76 (by simp [Value.oneCell']) (by rw [List.length_append, List.length_map, (show (List.replicate 32 (0 : UInt8)).length = 32 from (List.length_replicate ..))]; rfl) (by rw [List.length_append, List.length_map, (show (T4.tag).length = 32 from (parse_tag hT5))]; rfl) (fun w H => ?_))
    replace H : Hp _ w _ ([_, _, .blk b8 ([V64 T4.serial, .string ⟨(T4.tenant).toArray⟩, V8 T4.rights, VI T4.from_, VI T4.until_, .slice (hd a6) T4.cs.length c7] ++ (T4.tag).map V8) 76]) := H
    refine l_op (o_val (r_as) ?_)
    first | refine l_end ?_ | refine l_nil ?_
    repeat refine c_seq ?_
    refine c_region ?_
    refine l_op (o_val (r_mv) ?_)
    refine l_op (o_callR Try.func103 rfl rfl rfl (take14_ok _ s (hs.up H (fun _ => apart_nil _)) (by (try simp only [Sl.cut]); omega) T4 hT5) ?_)
    rintro _ w ⟨a9, c10, rfl, Hc⟩
    replace H : Hp _ w _ ([_, _, _, .own a9 T4.cs.length c10 ((T4.cs).flatMap cavE) 78 2]) := H.call Hc
    clear Hc
    refine l_op (o_val (r_mv) ?_)
    refine l_op (o_val (r_ext rfl rfl) ?_)
    refine l_op (o_val (r_ext rfl rfl) ?_)
    refine l_op (o_alloc H zc76 (fun b11 w H hb11 => ?_))
    replace H : Hp _ w _ ([_, _, _, _, .blk b11 ([V64 (0 : UInt64), .string ⟨(([] : List UInt8)).toArray⟩, V8 (0 : UInt8), VI 0, VI 0, .slice none 0 0] ++ (List.replicate 32 (0 : UInt8)).map V8) 76]) := H
    refine l_op (o_stW (C' := [V64 T4.serial, .string ⟨(T4.tenant).toArray⟩, V8 T4.rights, VI T4.from_, VI T4.until_, .slice (hd a9) T4.cs.length c10] ++ (T4.tag).map V8) H (i := 4) rfl rfl rfl cs76 (by simp [Value.oneCell']) (by rw [List.length_append, List.length_map, (show (List.replicate 32 (0 : UInt8)).length = 32 from (List.length_replicate ..))]; rfl) (by rw [List.length_append, List.length_map, (show (T4.tag).length = 32 from (parse_tag hT5))]; rfl) (fun w H => ?_))
    replace H : Hp _ w _ ([_, _, _, _, .blk b11 ([V64 T4.serial, .string ⟨(T4.tenant).toArray⟩, V8 T4.rights, VI T4.from_, VI T4.until_, .slice (hd a9) T4.cs.length c10] ++ (T4.tag).map V8) 76]) := H
    refine l_op (o_val (r_as) ?_)
    first | refine l_end ?_ | refine l_nil ?_
    repeat refine c_seq ?_
    refine c_region ?_
    refine l_op (o_val (r_mv) ?_)
    refine l_op (o_val (r_mv) ?_)
    refine l_op (o_val (r_bin (a := 0) (b := 0) rfl rfl (fun _ => b_eqlB true (decide_eq_true (by decide)))) ?_)
    refine l_op (o_val (r_mv) ?_)
    refine l_yes rfl rfl rfl (o_val (r_ldA (C := [V64 T4.serial, .string ⟨(T4.tenant).toArray⟩, V8 T4.rights, VI T4.from_, VI T4.until_, .slice (hd a6) T4.cs.length c7] ++ (T4.tag).map V8) H (i := 2) rfl rfl rt76 (by rw [List.length_append, List.length_map, (show (T4.tag).length = 32 from (parse_tag hT5))]; rfl)) ?_)
    refine l_yes rfl rfl rfl (o_val (r_ldA (C := [V64 T4.serial, .string ⟨(T4.tenant).toArray⟩, V8 T4.rights, VI T4.from_, VI T4.until_, .slice (hd a9) T4.cs.length c10] ++ (T4.tag).map V8) H (i := 4) rfl rfl rt76 (by rw [List.length_append, List.length_map, (show (T4.tag).length = 32 from (parse_tag hT5))]; rfl)) ?_)
    refine l_yes rfl rfl rfl (o_callR Try.func74 rfl rfl rfl (same14_ret _ (⟨T4.serial, T4.tenant, T4.rights, T4.from_, T4.until_, ⟨hd a6, T4.cs.length, c7, T4.cs⟩, T4.tag⟩ : Tok) (⟨T4.serial, T4.tenant, T4.rights, T4.from_, T4.until_, ⟨hd a9, T4.cs.length, c10, T4.cs⟩, T4.tag⟩ : Tok) (H.glOwn (i := 1) rfl (by decide) (fun _ _ => rfl)) (show (T4.tag).length = 32 from (parse_tag hT5)) (H.glOwn (i := 3) rfl (by decide) (fun _ _ => rfl)) (show (T4.tag).length = 32 from (parse_tag hT5))) ?_)
    rintro _ w ⟨rfl, Hc⟩
    replace H : Hp _ w _ ([_, _, _, _, _]) := H.call Hc
    clear Hc
    have hk12 : (sameT (⟨T4.serial, T4.tenant, T4.rights, T4.from_, T4.until_, ⟨hd a6, T4.cs.length, c7, T4.cs⟩, T4.tag⟩ : Tok) (⟨T4.serial, T4.tenant, T4.rights, T4.from_, T4.until_, ⟨hd a9, T4.cs.length, c10, T4.cs⟩, T4.tag⟩ : Tok)) = true := (decide_eq_true rfl)
    refine l_op (o_val (r_pick rfl) ?_)
    refine l_op (o_val (r_mv) ?_)
    refine l_yes rfl rfl (by exact congrArg Value.bool hk12) (o_val (r_mv) ?_)
    refine l_yes rfl rfl (by exact congrArg Value.bool hk12) (o_val (r_mv) ?_)
    refine l_yes rfl rfl (by exact congrArg Value.bool hk12) (o_callR Try.func54 rfl rfl rfl (kept_ret _ (⟨some ⟨b2, 0, none⟩, s.len, s.len + 3, s.l⟩ : Sl) s (kept_of_blk (H.has (.blk b2 (tw s.l 3) 5) (by simp)) s.len hsl (by omega)) (hs.up H (fun _ => apart_nil _)) rfl (by (try dsimp only); omega)) ?_)
    rintro _ w ⟨rfl, Hc⟩
    replace H : Hp _ w _ ([_, _, _, _, _]) := H.call Hc
    clear Hc
    refine l_op (o_val (r_pick (b := true) (congrArg Value.bool hk12)) ?_)
    refine l_op (o_val (r_as) ?_)
    first | refine l_end ?_ | refine l_nil ?_
    repeat refine c_seq ?_
    refine c_region ?_
    refine l_op (o_val (r_mv) ?_)
    refine l_op (o_callR Try.func43 rfl rfl rfl (spoilBlk_ret H (i := 0) (len := s.len) (cap := s.len + 3) rfl (by simp [tw]; omega) (by omega) (by omega)) ?_)
    rintro _ w ⟨rfl, Hc⟩
    clear H
    have H := Hc; clear Hc
    replace H : Hp _ w _ ([.blk b2 (List.replicate (s.len + 3) (V8 90)) 5, _, _, _, _]) := H
    first | refine l_end ?_ | refine l_nil ?_
    repeat refine c_seq ?_
    refine c_region ?_
    refine l_op (o_val (r_mv) ?_)
    refine l_op (o_val (r_mv) ?_)
    refine l_yes rfl rfl rfl (o_val (r_ldA (C := [V64 T4.serial, .string ⟨(T4.tenant).toArray⟩, V8 T4.rights, VI T4.from_, VI T4.until_, .slice (hd a6) T4.cs.length c7] ++ (T4.tag).map V8) H (i := 2) rfl rfl rt76 (by rw [List.length_append, List.length_map, (show (T4.tag).length = 32 from (parse_tag hT5))]; rfl)) ?_)
    refine l_yes rfl rfl rfl (o_val (r_ldA (C := [V64 T4.serial, .string ⟨(T4.tenant).toArray⟩, V8 T4.rights, VI T4.from_, VI T4.until_, .slice (hd a9) T4.cs.length c10] ++ (T4.tag).map V8) H (i := 4) rfl rfl rt76 (by rw [List.length_append, List.length_map, (show (T4.tag).length = 32 from (parse_tag hT5))]; rfl)) ?_)
    refine l_yes rfl rfl rfl (o_callR Try.func74 rfl rfl rfl (same14_ret _ (⟨T4.serial, T4.tenant, T4.rights, T4.from_, T4.until_, ⟨hd a6, T4.cs.length, c7, T4.cs⟩, T4.tag⟩ : Tok) (⟨T4.serial, T4.tenant, T4.rights, T4.from_, T4.until_, ⟨hd a9, T4.cs.length, c10, T4.cs⟩, T4.tag⟩ : Tok) (H.glOwn (i := 1) rfl (by decide) (fun _ _ => rfl)) (show (T4.tag).length = 32 from (parse_tag hT5)) (H.glOwn (i := 3) rfl (by decide) (fun _ _ => rfl)) (show (T4.tag).length = 32 from (parse_tag hT5))) ?_)
    rintro _ w ⟨rfl, Hc⟩
    replace H : Hp _ w _ ([_, _, _, _, _]) := H.call Hc
    clear Hc
    refine l_op (o_val (r_pick rfl) ?_)
    refine l_op (o_val (r_as) ?_)
    first | refine l_end ?_ | refine l_nil ?_
    refine c_ret ?_
    try dsimp only [Exit.then, Exit.inBlock]
    refine e_ret1 (v := .bool (sameT (⟨T4.serial, T4.tenant, T4.rights, T4.from_, T4.until_, ⟨hd a6, T4.cs.length, c7, T4.cs⟩, T4.tag⟩ : Tok) (⟨T4.serial, T4.tenant, T4.rights, T4.from_, T4.until_, ⟨hd a9, T4.cs.length, c10, T4.cs⟩, T4.tag⟩ : Tok))) Try.results28 rfl ?_
    refine ⟨_, rfl, ?_⟩
    exact ⟨congrArg Value.bool hk12, H.sub (List.nil_sublist _)⟩
   ·
    refine l_op (o_callR Try.func102 rfl rfl rfl (capTake_no _ (⟨some ⟨b2, 0, none⟩, s.len, s.len + 3, s.l⟩ : Sl) (kept_of_blk (H.has (.blk b2 (tw s.l 3) 5) (by simp)) s.len hsl (by omega)).ok (by (try simp only []); omega) (parse_no hc3)) ?_)
    rintro _ w ⟨rfl, Hc⟩
    replace H : Hp _ w _ ([_]) := H.call Hc
    clear Hc
    refine l_op (o_val (r_mv) ?_)
    refine l_op (o_val (r_ext rfl rfl) ?_)
    refine l_op (o_val (r_ext rfl rfl) ?_)
    refine l_op (o_alloc H zc76 (fun b13 w H hb13 => ?_))
    replace H : Hp _ w _ ([_, .blk b13 ([V64 (0 : UInt64), .string ⟨(([] : List UInt8)).toArray⟩, V8 (0 : UInt8), VI 0, VI 0, .slice none 0 0] ++ (List.replicate 32 (0 : UInt8)).map V8) 76]) := H
    refine l_op (o_stW (C' := [V64 (0 : UInt64), .string ⟨(([] : List UInt8)).toArray⟩, V8 (0 : UInt8), VI 0, VI 0, .slice none 0 0] ++ (List.replicate 32 (0 : UInt8)).map V8) H (i := 1) rfl rfl rfl cs76 (by simp [Value.oneCell']) (by rw [List.length_append, List.length_map, (show (List.replicate 32 (0 : UInt8)).length = 32 from (List.length_replicate ..))]; rfl) (by rw [List.length_append, List.length_map, (show (List.replicate 32 (0 : UInt8)).length = 32 from (List.length_replicate ..))]; rfl) (fun w H => ?_))
    replace H : Hp _ w _ [_, _] := H
    refine l_op (o_val (r_as) ?_)
    first | refine l_end ?_ | refine l_nil ?_
    repeat refine c_seq ?_
    refine c_region ?_
    refine l_op (o_val (r_mv) ?_)
    refine l_op (o_callR Try.func103 rfl rfl rfl (take14_no _ s (hs.up H (fun _ => apart_nil _)) (by (try simp only [Sl.cut]); omega) (parse_no hc3)) ?_)
    rintro _ w ⟨rfl, Hc⟩
    replace H : Hp _ w _ ([_, _]) := H.call Hc
    clear Hc
    refine l_op (o_val (r_mv) ?_)
    refine l_op (o_val (r_ext rfl rfl) ?_)
    refine l_op (o_val (r_ext rfl rfl) ?_)
    refine l_op (o_alloc H zc76 (fun b14 w H hb14 => ?_))
    replace H : Hp _ w _ ([_, _, .blk b14 ([V64 (0 : UInt64), .string ⟨(([] : List UInt8)).toArray⟩, V8 (0 : UInt8), VI 0, VI 0, .slice none 0 0] ++ (List.replicate 32 (0 : UInt8)).map V8) 76]) := H
    refine l_op (o_stW (C' := [V64 (0 : UInt64), .string ⟨(([] : List UInt8)).toArray⟩, V8 (0 : UInt8), VI 0, VI 0, .slice none 0 0] ++ (List.replicate 32 (0 : UInt8)).map V8) H (i := 2) rfl rfl rfl cs76 (by simp [Value.oneCell']) (by rw [List.length_append, List.length_map, (show (List.replicate 32 (0 : UInt8)).length = 32 from (List.length_replicate ..))]; rfl) (by rw [List.length_append, List.length_map, (show (List.replicate 32 (0 : UInt8)).length = 32 from (List.length_replicate ..))]; rfl) (fun w H => ?_))
    replace H : Hp _ w _ [_, _, _] := H
    refine l_op (o_val (r_as) ?_)
    first | refine l_end ?_ | refine l_nil ?_
    repeat refine c_seq ?_
    refine c_region ?_
    refine l_op (o_val (r_mv) ?_)
    refine l_op (o_val (r_mv) ?_)
    refine l_op (o_val (r_bin (a := 4) (b := 4) rfl rfl (fun _ => b_eqlB true (decide_eq_true (by decide)))) ?_)
    refine l_op (o_val (r_mv) ?_)
    refine l_yes rfl rfl rfl (o_val (r_ldA (C := [V64 (0 : UInt64), .string ⟨(([] : List UInt8)).toArray⟩, V8 (0 : UInt8), VI 0, VI 0, .slice none 0 0] ++ (List.replicate 32 (0 : UInt8)).map V8) H (i := 1) rfl rfl rt76 (by rw [List.length_append, List.length_map, (show (List.replicate 32 (0 : UInt8)).length = 32 from (List.length_replicate ..))]; rfl)) ?_)
    refine l_yes rfl rfl rfl (o_val (r_ldA (C := [V64 (0 : UInt64), .string ⟨(([] : List UInt8)).toArray⟩, V8 (0 : UInt8), VI 0, VI 0, .slice none 0 0] ++ (List.replicate 32 (0 : UInt8)).map V8) H (i := 2) rfl rfl rt76 (by rw [List.length_append, List.length_map, (show (List.replicate 32 (0 : UInt8)).length = 32 from (List.length_replicate ..))]; rfl)) ?_)
    refine l_yes rfl rfl rfl (o_callR Try.func74 rfl rfl rfl (same14_ret _ (⟨(0 : UInt64), ([] : List UInt8), (0 : UInt8), 0, 0, ⟨none, 0, 0, []⟩, List.replicate 32 (0 : UInt8)⟩ : Tok) (⟨(0 : UInt64), ([] : List UInt8), (0 : UInt8), 0, 0, ⟨none, 0, 0, []⟩, List.replicate 32 (0 : UInt8)⟩ : Tok) (Gl.ok_nil _) (show (List.replicate 32 (0 : UInt8)).length = 32 from (List.length_replicate ..)) (Gl.ok_nil _) (show (List.replicate 32 (0 : UInt8)).length = 32 from (List.length_replicate ..))) ?_)
    rintro _ w ⟨rfl, Hc⟩
    replace H : Hp _ w _ ([_, _, _]) := H.call Hc
    clear Hc
    have hk15 : (sameT (⟨(0 : UInt64), ([] : List UInt8), (0 : UInt8), 0, 0, ⟨none, 0, 0, []⟩, List.replicate 32 (0 : UInt8)⟩ : Tok) (⟨(0 : UInt64), ([] : List UInt8), (0 : UInt8), 0, 0, ⟨none, 0, 0, []⟩, List.replicate 32 (0 : UInt8)⟩ : Tok)) = true := (decide_eq_true rfl)
    refine l_op (o_val (r_pick rfl) ?_)
    refine l_op (o_val (r_mv) ?_)
    refine l_yes rfl rfl (by exact congrArg Value.bool hk15) (o_val (r_mv) ?_)
    refine l_yes rfl rfl (by exact congrArg Value.bool hk15) (o_val (r_mv) ?_)
    refine l_yes rfl rfl (by exact congrArg Value.bool hk15) (o_callR Try.func54 rfl rfl rfl (kept_ret _ (⟨some ⟨b2, 0, none⟩, s.len, s.len + 3, s.l⟩ : Sl) s (kept_of_blk (H.has (.blk b2 (tw s.l 3) 5) (by simp)) s.len hsl (by omega)) (hs.up H (fun _ => apart_nil _)) rfl (by (try dsimp only); omega)) ?_)
    rintro _ w ⟨rfl, Hc⟩
    replace H : Hp _ w _ ([_, _, _]) := H.call Hc
    clear Hc
    refine l_op (o_val (r_pick (b := true) (congrArg Value.bool hk15)) ?_)
    refine l_op (o_val (r_as) ?_)
    first | refine l_end ?_ | refine l_nil ?_
    repeat refine c_seq ?_
    refine c_region ?_
    refine l_op (o_val (r_mv) ?_)
    refine l_op (o_callR Try.func43 rfl rfl rfl (spoilBlk_ret H (i := 0) (len := s.len) (cap := s.len + 3) rfl (by simp [tw]; omega) (by omega) (by omega)) ?_)
    rintro _ w ⟨rfl, Hc⟩
    clear H
    have H := Hc; clear Hc
    replace H : Hp _ w _ ([.blk b2 (List.replicate (s.len + 3) (V8 90)) 5, _, _]) := H
    first | refine l_end ?_ | refine l_nil ?_
    repeat refine c_seq ?_
    refine c_region ?_
    refine l_op (o_val (r_mv) ?_)
    refine l_op (o_val (r_mv) ?_)
    refine l_yes rfl rfl rfl (o_val (r_ldA (C := [V64 (0 : UInt64), .string ⟨(([] : List UInt8)).toArray⟩, V8 (0 : UInt8), VI 0, VI 0, .slice none 0 0] ++ (List.replicate 32 (0 : UInt8)).map V8) H (i := 1) rfl rfl rt76 (by rw [List.length_append, List.length_map, (show (List.replicate 32 (0 : UInt8)).length = 32 from (List.length_replicate ..))]; rfl)) ?_)
    refine l_yes rfl rfl rfl (o_val (r_ldA (C := [V64 (0 : UInt64), .string ⟨(([] : List UInt8)).toArray⟩, V8 (0 : UInt8), VI 0, VI 0, .slice none 0 0] ++ (List.replicate 32 (0 : UInt8)).map V8) H (i := 2) rfl rfl rt76 (by rw [List.length_append, List.length_map, (show (List.replicate 32 (0 : UInt8)).length = 32 from (List.length_replicate ..))]; rfl)) ?_)
    refine l_yes rfl rfl rfl (o_callR Try.func74 rfl rfl rfl (same14_ret _ (⟨(0 : UInt64), ([] : List UInt8), (0 : UInt8), 0, 0, ⟨none, 0, 0, []⟩, List.replicate 32 (0 : UInt8)⟩ : Tok) (⟨(0 : UInt64), ([] : List UInt8), (0 : UInt8), 0, 0, ⟨none, 0, 0, []⟩, List.replicate 32 (0 : UInt8)⟩ : Tok) (Gl.ok_nil _) (show (List.replicate 32 (0 : UInt8)).length = 32 from (List.length_replicate ..)) (Gl.ok_nil _) (show (List.replicate 32 (0 : UInt8)).length = 32 from (List.length_replicate ..))) ?_)
    rintro _ w ⟨rfl, Hc⟩
    replace H : Hp _ w _ ([_, _, _]) := H.call Hc
    clear Hc
    refine l_op (o_val (r_pick rfl) ?_)
    refine l_op (o_val (r_as) ?_)
    first | refine l_end ?_ | refine l_nil ?_
    refine c_ret ?_
    try dsimp only [Exit.then, Exit.inBlock]
    refine e_ret1 (v := .bool (sameT (⟨(0 : UInt64), ([] : List UInt8), (0 : UInt8), 0, 0, ⟨none, 0, 0, []⟩, List.replicate 32 (0 : UInt8)⟩ : Tok) (⟨(0 : UInt64), ([] : List UInt8), (0 : UInt8), 0, 0, ⟨none, 0, 0, []⟩, List.replicate 32 (0 : UInt8)⟩ : Tok))) Try.results28 rfl ?_
    refine ⟨_, rfl, ?_⟩
    exact ⟨congrArg Value.bool hk15, H.sub (List.nil_sublist _)⟩
end Go.Proofs.Ytjmbbhnpfmblpaa
