import Derived.Test.YtjmbbhnpfmblpaaFrame
/- frames read, by the document. -/
namespace Go.Proofs.Ytjmbbhnpfmblpaa
open Go
set_option maxRecDepth 100000
theorem ftake10_ret (w0 : World) (s : Sl) (hs : s.ok w0) (hm : s.len ≤ 1048576) :
    Ret Try.prog 64 [s.v] w0 fun v w' => ∃ a c, v = .tuple #[.agg ((takeF s.l).1.map V8).toArray, .slice (hd a) (takeF s.l).2.1.length c, VI ((takeF s.l).2.2.1 : Int), VI ((takeF s.l).2.2.2 : Int)] ∧ Hp w0 w' [] [.own a (takeF s.l).2.1.length c ((takeF s.l).2.1.map V8) 5 1] := by
  refine ret_mk Try.func64 rfl Try.ntmps64 (by simp) ?_
  have H := Hp.refl w0 []
  have hsl := hs.ln
  have hle := hs.le
  repeat refine c_seq ?_
  refine c_region ?_
  refine l_op (o_alloc H zc31 (fun b1 w H hb1 => ?_))
  replace H : Hp w0 w [] ([.blk b1 ((List.replicate 32 (0 : UInt8)).map V8) 31]) := H
  refine l_op (o_val (r_as) ?_)
  refine l_op (o_val (r_as) ?_)
  refine l_op (o_val (r_as) ?_)
  first | refine l_end ?_ | refine l_nil ?_
  repeat refine c_seq ?_
  refine c_region ?_
  refine l_op (o_val (r_mv) ?_)
  refine l_op (o_val (r_lens el29 rfl) ?_)
  refine l_op (o_val (r_bin rfl rfl (fun _ => b_lss)) ?_)
  first | refine l_end ?_ | refine l_nil ?_
  by_cases hc2 : (s.len : Int) < 46
  · skip
    repeat refine c_seq ?_
    refine c_yes (by exact congrArg Value.bool (decide_eq_true hc2)) ?_
    repeat refine c_seq ?_
    refine c_region ?_
    refine l_op (o_val (r_bld' (pv := []) bd31 rfl rfl) ?_)
    refine l_op (o_stA (l' := List.replicate 32 (0 : UInt8)) H (i := 0) rfl rfl rfl cs31 (show (List.replicate 32 (0 : UInt8)).length = 32 from (List.length_replicate ..)) (show (List.replicate 32 (0 : UInt8)).length = 32 from (List.length_replicate ..)) (fun w H => ?_))
    replace H : Hp w0 w [] ([.blk b1 ((List.replicate 32 (0 : UInt8)).map V8) 31]) := H
    refine l_op (o_val (r_as) ?_)
    refine l_op (o_val (r_as) ?_)
    refine l_op (o_val (r_as) ?_)
    first | refine l_end ?_ | refine l_nil ?_
    refine c_ret ?_
    try dsimp only [Exit.then, Exit.inBlock]
    refine e_retN (vs := [.agg ((List.replicate 32 (0 : UInt8)).map V8).toArray, .slice none 0 0, VI 0, VI 3]) _ Try.results64 rfl (H.resA (l := List.replicate 32 (0 : UInt8)) (i := 0) rfl rfl rt31 (show (List.replicate 32 (0 : UInt8)).length = 32 from (List.length_replicate ..)) (resT (v := .slice none 0 0) rfl (resT (v := VI 0) rfl (resT (v := VI 3) rfl (resZ))))) ?_
    refine ⟨_, rfl, ?_⟩
    have e : takeF s.l = (Z32, [], 0, 3) := by rw [takeF, if_pos (by omega)]
    rw [e]
    exact ⟨none, 0, rfl, (H.sub (List.nil_sublist _)).nilEnd 5 1⟩
  · skip
    repeat refine c_seq ?_
    refine c_no (by exact congrArg Value.bool (decide_eq_false hc2)) ?_
    refine c_skip ?_
    repeat refine c_seq ?_
    refine c_region ?_
    refine l_op (o_val (r_mv) ?_)
    have ah5 := ((hs.up H (fun _ => apart_nil _))).addr (by (try simp only [Sl.cut]); omega)
    obtain ⟨ab3, ao4, ah5⟩ := ah5
    refine l_op (o_val (r_isN 0 rfl rfl el29 ah5 (by omega) (by (try simp only [Sl.cut]); omega)) ?_)
    refine l_op (o_val (r_ldB (s := s) (k := 0) (hs.up H (fun _ => apart_nil _)) ah5 rfl ct5 (by (try simp only [Sl.cut]); omega)) ?_)
    refine l_op (o_val (r_bin (a := (((s.l).getD 0 0).toNat : Int)) (b := 199) rfl rfl (fun _ => b_neq)) ?_)
    refine l_op (o_val (r_mv) ?_)
    by_cases hc6 : (((s.l).getD 0 0).toNat : Int) ≠ 199
    · skip
      refine l_no rfl rfl (by exact congrArg Value.bool (decide_eq_true hc6)) rfl ?_
      refine l_no rfl rfl (by exact congrArg Value.bool (decide_eq_true hc6)) rfl ?_
      refine l_no rfl rfl (by exact congrArg Value.bool (decide_eq_true hc6)) rfl ?_
      refine l_no rfl rfl (by exact congrArg Value.bool (decide_eq_true hc6)) rfl ?_
      refine l_op (o_val (r_pick (b := true) (congrArg Value.bool (decide_eq_true hc6))) ?_)
      first | refine l_end ?_ | refine l_nil ?_
      repeat refine c_seq ?_
      refine c_yes rfl ?_
      repeat refine c_seq ?_
      refine c_region ?_
      refine l_op (o_val (r_bld' (pv := []) bd31 rfl rfl) ?_)
      refine l_op (o_stA (l' := List.replicate 32 (0 : UInt8)) H (i := 0) rfl rfl rfl cs31 (show (List.replicate 32 (0 : UInt8)).length = 32 from (List.length_replicate ..)) (show (List.replicate 32 (0 : UInt8)).length = 32 from (List.length_replicate ..)) (fun w H => ?_))
      replace H : Hp w0 w [] ([.blk b1 ((List.replicate 32 (0 : UInt8)).map V8) 31]) := H
      refine l_op (o_val (r_as) ?_)
      refine l_op (o_val (r_as) ?_)
      refine l_op (o_val (r_as) ?_)
      first | refine l_end ?_ | refine l_nil ?_
      refine c_ret ?_
      try dsimp only [Exit.then, Exit.inBlock]
      refine e_retN (vs := [.agg ((List.replicate 32 (0 : UInt8)).map V8).toArray, .slice none 0 0, VI 0, VI 4]) _ Try.results64 rfl (H.resA (l := List.replicate 32 (0 : UInt8)) (i := 0) rfl rfl rt31 (show (List.replicate 32 (0 : UInt8)).length = 32 from (List.length_replicate ..)) (resT (v := .slice none 0 0) rfl (resT (v := VI 0) rfl (resT (v := VI 4) rfl (resZ))))) ?_
      refine ⟨_, rfl, ?_⟩
      have e : takeF s.l = (Z32, [], 0, 4) := by rw [takeF, if_neg (by omega), if_pos (by omega)]
      rw [e]
      exact ⟨none, 0, rfl, (H.sub (List.nil_sublist _)).nilEnd 5 1⟩
    · skip
      refine l_yes rfl rfl (by exact congrArg Value.bool (decide_eq_false hc6)) (o_val (r_mv) ?_)
      refine l_yes rfl rfl (by exact congrArg Value.bool (decide_eq_false hc6)) (o_val (r_isN 1 rfl rfl el29 ah5 (by omega) (by (try simp only [Sl.cut]); omega)) ?_)
      refine l_yes rfl rfl (by exact congrArg Value.bool (decide_eq_false hc6)) (o_val (r_ldB (s := s) (k := 1) (hs.up H (fun _ => apart_nil _)) ah5 rfl ct5 (by (try simp only [Sl.cut]); omega)) ?_)
      refine l_yes rfl rfl (by exact congrArg Value.bool (decide_eq_false hc6)) (o_val (r_bin (a := (((s.l).getD 1 0).toNat : Int)) (b := 70) rfl rfl (fun _ => b_neq)) ?_)
      refine l_op (o_val (r_pick (b := false) (congrArg Value.bool (decide_eq_false hc6))) ?_)
      first | refine l_end ?_ | refine l_nil ?_
      by_cases hc7 : (((s.l).getD 1 0).toNat : Int) ≠ 70
      · skip
        repeat refine c_seq ?_
        refine c_yes (by exact congrArg Value.bool (decide_eq_true hc7)) ?_
        repeat refine c_seq ?_
        refine c_region ?_
        refine l_op (o_val (r_bld' (pv := []) bd31 rfl rfl) ?_)
        refine l_op (o_stA (l' := List.replicate 32 (0 : UInt8)) H (i := 0) rfl rfl rfl cs31 (show (List.replicate 32 (0 : UInt8)).length = 32 from (List.length_replicate ..)) (show (List.replicate 32 (0 : UInt8)).length = 32 from (List.length_replicate ..)) (fun w H => ?_))
        replace H : Hp w0 w [] ([.blk b1 ((List.replicate 32 (0 : UInt8)).map V8) 31]) := H
        refine l_op (o_val (r_as) ?_)
        refine l_op (o_val (r_as) ?_)
        refine l_op (o_val (r_as) ?_)
        first | refine l_end ?_ | refine l_nil ?_
        refine c_ret ?_
        try dsimp only [Exit.then, Exit.inBlock]
        refine e_retN (vs := [.agg ((List.replicate 32 (0 : UInt8)).map V8).toArray, .slice none 0 0, VI 0, VI 4]) _ Try.results64 rfl (H.resA (l := List.replicate 32 (0 : UInt8)) (i := 0) rfl rfl rt31 (show (List.replicate 32 (0 : UInt8)).length = 32 from (List.length_replicate ..)) (resT (v := .slice none 0 0) rfl (resT (v := VI 0) rfl (resT (v := VI 4) rfl (resZ))))) ?_
        refine ⟨_, rfl, ?_⟩
        have e : takeF s.l = (Z32, [], 0, 4) := by rw [takeF, if_neg (by omega), if_pos (by omega)]
        rw [e]
        exact ⟨none, 0, rfl, (H.sub (List.nil_sublist _)).nilEnd 5 1⟩
      · skip
        repeat refine c_seq ?_
        refine c_no (by exact congrArg Value.bool (decide_eq_false hc7)) ?_
        refine c_skip ?_
        repeat refine c_seq ?_
        refine c_region ?_
        refine l_op (o_val (r_mv) ?_)
        have hk8 : (2 + 4 ≤ s.len) := by omega
        refine l_op (o_callR Try.func114 rfl rfl rfl (at1_ok _ s (hs.up H (fun _ => apart_nil _)) 2 4 (by omega) (by omega) (by omega) (by (try dsimp only); omega)) ?_)
        rintro _ w ⟨rfl, Hc⟩
        replace H : Hp w0 w [] ([.blk b1 ((List.replicate 32 (0 : UInt8)).map V8) 31]) := H.call Hc
        clear Hc
        refine l_op (o_val (r_mv) ?_)
        refine l_op (o_val (r_ext rfl rfl) ?_)
        refine l_op (o_val (r_ext rfl rfl) ?_)
        refine l_op (o_val (r_as) ?_)
        refine l_op (o_val (r_as) ?_)
        first | refine l_end ?_ | refine l_nil ?_
        repeat refine c_seq ?_
        refine c_region ?_
        refine l_op (o_val (r_mv) ?_)
        refine l_op (o_val (r_bin (a := ((num (s.l) 2 4).toNat : Int)) (b := 4200) rfl rfl (fun _ => b_gtr)) ?_)
        first | refine l_end ?_ | refine l_nil ?_
        by_cases hc9 : 4200 < ((num (s.l) 2 4).toNat : Int)
        · skip
          repeat refine c_seq ?_
          refine c_yes (by exact congrArg Value.bool (decide_eq_true hc9)) ?_
          repeat refine c_seq ?_
          refine c_region ?_
          refine l_op (o_val (r_bld' (pv := []) bd31 rfl rfl) ?_)
          refine l_op (o_stA (l' := List.replicate 32 (0 : UInt8)) H (i := 0) rfl rfl rfl cs31 (show (List.replicate 32 (0 : UInt8)).length = 32 from (List.length_replicate ..)) (show (List.replicate 32 (0 : UInt8)).length = 32 from (List.length_replicate ..)) (fun w H => ?_))
          replace H : Hp w0 w [] ([.blk b1 ((List.replicate 32 (0 : UInt8)).map V8) 31]) := H
          refine l_op (o_val (r_as) ?_)
          refine l_op (o_val (r_as) ?_)
          refine l_op (o_val (r_as) ?_)
          first | refine l_end ?_ | refine l_nil ?_
          refine c_ret ?_
          try dsimp only [Exit.then, Exit.inBlock]
          refine e_retN (vs := [.agg ((List.replicate 32 (0 : UInt8)).map V8).toArray, .slice none 0 0, VI 0, VI 2]) _ Try.results64 rfl (H.resA (l := List.replicate 32 (0 : UInt8)) (i := 0) rfl rfl rt31 (show (List.replicate 32 (0 : UInt8)).length = 32 from (List.length_replicate ..)) (resT (v := .slice none 0 0) rfl (resT (v := VI 0) rfl (resT (v := VI 2) rfl (resZ))))) ?_
          refine ⟨_, rfl, ?_⟩
          have e : takeF s.l = (Z32, [], 0, 2) := by rw [takeF, if_neg (by omega), if_neg (by omega), if_pos (by omega)]
          rw [e]
          exact ⟨none, 0, rfl, (H.sub (List.nil_sublist _)).nilEnd 5 1⟩
        · skip
          repeat refine c_seq ?_
          refine c_no (by exact congrArg Value.bool (decide_eq_false hc9)) ?_
          refine c_skip ?_
          repeat refine c_seq ?_
          refine c_region ?_
          refine l_op (o_val (r_mv) ?_)
          refine l_op (o_val (r_conv Try.underlying35 Try.underlying3 rfl (w_i64_64 (by omega))) ?_)
          refine l_op (o_val (r_bin rfl rfl (fun _ => b_add (by omega) (by omega))) ?_)
          refine l_op (o_val (r_mv) ?_)
          refine l_op (o_val (r_lens el29 rfl) ?_)
          refine l_op (o_val (r_bin rfl rfl (fun _ => b_gtr)) ?_)
          first | refine l_end ?_ | refine l_nil ?_
          by_cases hc10 : (s.len : Int) < 46 + ((num (s.l) 2 4).toNat : Int)
          · skip
            repeat refine c_seq ?_
            refine c_yes (by exact congrArg Value.bool (decide_eq_true hc10)) ?_
            repeat refine c_seq ?_
            refine c_region ?_
            refine l_op (o_val (r_bld' (pv := []) bd31 rfl rfl) ?_)
            refine l_op (o_stA (l' := List.replicate 32 (0 : UInt8)) H (i := 0) rfl rfl rfl cs31 (show (List.replicate 32 (0 : UInt8)).length = 32 from (List.length_replicate ..)) (show (List.replicate 32 (0 : UInt8)).length = 32 from (List.length_replicate ..)) (fun w H => ?_))
            replace H : Hp w0 w [] ([.blk b1 ((List.replicate 32 (0 : UInt8)).map V8) 31]) := H
            refine l_op (o_val (r_as) ?_)
            refine l_op (o_val (r_as) ?_)
            refine l_op (o_val (r_as) ?_)
            first | refine l_end ?_ | refine l_nil ?_
            refine c_ret ?_
            try dsimp only [Exit.then, Exit.inBlock]
            refine e_retN (vs := [.agg ((List.replicate 32 (0 : UInt8)).map V8).toArray, .slice none 0 0, VI 0, VI 3]) _ Try.results64 rfl (H.resA (l := List.replicate 32 (0 : UInt8)) (i := 0) rfl rfl rt31 (show (List.replicate 32 (0 : UInt8)).length = 32 from (List.length_replicate ..)) (resT (v := .slice none 0 0) rfl (resT (v := VI 0) rfl (resT (v := VI 3) rfl (resZ))))) ?_
            refine ⟨_, rfl, ?_⟩
            have e : takeF s.l = (Z32, [], 0, 3) := by rw [takeF, if_neg (by omega), if_neg (by omega), if_neg (by omega), if_pos (by omega)]
            rw [e]
            exact ⟨none, 0, rfl, (H.sub (List.nil_sublist _)).nilEnd 5 1⟩
          · skip
            repeat refine c_seq ?_
            refine c_no (by exact congrArg Value.bool (decide_eq_false hc10)) ?_
            refine c_skip ?_
            repeat refine c_seq ?_
            refine c_region ?_
            refine l_op (o_val (r_mv) ?_)
            refine l_op (o_val (r_slS (s := s) 14 46 s.cap (lv := some (VI 14)) (hv := some (VI 46)) (mv := none) rfl el29 rfl rfl rfl (fun w => by exact sblh 14 46 (by omega) (by omega) (by (try simp only [Sl.cut]); omega) (by (try simp only [Sl.cut]); omega) w)) ?_)
            refine l_op (o_val (r_sap Try.underlying31 rfl (by (try simp only [Sl.cut]); omega)) ?_)
            have ah13 := (((hs.up H (fun _ => apart_nil _)).cut (l := 14) (h := 46) (m := s.cap) (by omega) (by (try simp only [Sl.cut]); omega) (by omega) (by (try simp only [Sl.cut]); omega))).addr (by (try simp only [Sl.cut]); omega)
            obtain ⟨ab11, ao12, ah13⟩ := ah13
            refine l_op (o_val (r_ldSE (s := (Sl.cut s 14 46 s.cap)) (k := 32) ((hs.up H (fun _ => apart_nil _)).cut (l := 14) (h := 46) (m := s.cap) (by omega) (by (try simp only [Sl.cut]); omega) (by omega) (by (try simp only [Sl.cut]); omega)) ah13 rfl rt31 (by decide) rfl) ?_)
            refine l_op (o_alloc H zc31 (fun b14 w H hb14 => ?_))
            replace H : Hp w0 w [] ([.blk b1 ((List.replicate 32 (0 : UInt8)).map V8) 31, .blk b14 ((List.replicate 32 (0 : UInt8)).map V8) 31]) := H
            refine l_op (o_stA (l' := ((s.l).drop 14).take (32)) H (i := 1) rfl rfl rfl cs31 (show (List.replicate 32 (0 : UInt8)).length = 32 from (List.length_replicate ..)) (show (((s.l).drop 14).take (32)).length = 32 from (by simp only [List.length_take, List.length_drop]; omega)) (fun w H => ?_))
            replace H : Hp w0 w [] ([.blk b1 ((List.replicate 32 (0 : UInt8)).map V8) 31, .blk b14 ((((s.l).drop 14).take (32)).map V8) 31]) := H
            first | refine l_end ?_ | refine l_nil ?_
            repeat refine c_seq ?_
            refine c_region ?_
            refine l_op (o_bslB (([] : List UInt8)) H sl29 zc5 rfl rfl (by decide) (fun b15 w H hb15 => ?_))
            replace H : Hp w0 w [] ([.blk b1 ((List.replicate 32 (0 : UInt8)).map V8) 31, .blk b14 ((((s.l).drop 14).take (32)).map V8) 31, .own (some b15) 0 0 ((([] : List UInt8)).map V8) 5 1]) := H
            refine l_op (o_val (r_mv) ?_)
            refine l_op (o_val (r_mv) ?_)
            refine l_op (o_val (r_conv Try.underlying35 Try.underlying3 rfl (w_i64_64 (by omega))) ?_)
            refine l_op (o_val (r_bin rfl rfl (fun _ => b_add (by omega) (by omega))) ?_)
            refine l_op (o_val (r_sl46 (s := s) (num s.l 2 4).toNat (s.cap) (lv := some (VI 46)) (hv := some (VI (46 + ((num s.l 2 4).toNat : Int)))) (mv := none) rfl el29 rfl rfl rfl (fun w => by exact sblh 46 (46 + (num s.l 2 4).toNat) (by omega) (by omega) (by omega) (by omega) w)) ?_)
            refine l_op (o_appB (s := (Sl.cut46 s (num s.l 2 4).toNat (s.cap))) (l' := ((s.l).drop 46).take (num s.l 2 4).toNat) (len' := (num s.l 2 4).toNat) rfl (Nat.zero_add _) H (i := 2) rfl sl29 Try.underlying29 rfl rfl ((hs.up H (fun _ => apart_nil _)).cut46 (n := (num s.l 2 4).toNat) (m := s.cap) (by omega) (by omega) (by omega)) (by omega) (fun a16 c17 w H => ?_))
            replace H : Hp w0 w [] ([.blk b1 ((List.replicate 32 (0 : UInt8)).map V8) 31, .blk b14 ((((s.l).drop 14).take (32)).map V8) 31, .own a16 ((num s.l 2 4).toNat) c17 ((((s.l).drop 46).take (num s.l 2 4).toNat).map V8) 5 1]) := H
            refine l_op (o_val (r_as) ?_)
            first | refine l_end ?_ | refine l_nil ?_
            repeat refine c_seq ?_
            refine c_region ?_
            refine l_op (o_val (r_ldAA (l := ((s.l).drop 14).take (32)) H (i := 1) rfl rfl rt31 (show (((s.l).drop 14).take (32)).length = 32 from (by simp only [List.length_take, List.length_drop]; omega))) ?_)
            refine l_op (o_val (r_mv) ?_)
            have hk18 : ((num s.l 2 4).toNat ≤ 4200) := by omega
            refine l_op (o_callR Try.func60 rfl rfl rfl (fput10_ok _ (((s.l).drop 14).take (32)) (show (((s.l).drop 14).take (32)).length = 32 from (by simp only [List.length_take, List.length_drop]; omega)) ⟨hd a16, (num s.l 2 4).toNat, c17, ((s.l).drop 46).take (num s.l 2 4).toNat⟩ (H.slOwn (i := 2) rfl) (by (try dsimp only); omega)) ?_)
            rintro _ w ⟨a19, c20, rfl, Hc⟩
            replace H : Hp w0 w [] ([.blk b1 ((List.replicate 32 (0 : UInt8)).map V8) 31, .blk b14 ((((s.l).drop 14).take (32)).map V8) 31, .own a16 ((num s.l 2 4).toNat) c17 ((((s.l).drop 46).take (num s.l 2 4).toNat).map V8) 5 1, .own a19 (46 + (num s.l 2 4).toNat) c20 ((putF (((s.l).drop 14).take (32)) (((s.l).drop 46).take (num s.l 2 4).toNat)).map V8) 5 1]) := H.call Hc
            clear Hc
            refine l_op (o_val (r_mv) ?_)
            refine l_op (o_val (r_ext rfl rfl) ?_)
            refine l_op (o_val (r_ext rfl rfl) ?_)
            refine l_op (o_val (r_as) ?_)
            refine l_op (o_val (r_as) ?_)
            first | refine l_end ?_ | refine l_nil ?_
            repeat refine c_seq ?_
            refine c_still mixed (by kernel_rfl) ?_
            replace H := H.drew
            refine s_op (r_mv) ?_
            refine s_op (r_b2S (s := ⟨hd a19, 46 + (num s.l 2 4).toNat, c20, putF (((s.l).drop 14).take (32)) (((s.l).drop 46).take (num s.l 2 4).toNat)⟩) Try.underlying29 Try.underlying5 Try.underlying9 rfl (H.slOwn (i := 3) rfl)) ?_
            refine s_op (r_mv) ?_
            refine s_op (r_mv) ?_
            refine s_op (r_lens el29 rfl) ?_
            refine s_op (r_slS (s := s) 0 (46 + (num s.l 2 4).toNat) s.cap (lv := none) (hv := some (VI ((46 + (num s.l 2 4).toNat : Nat) : Int))) (mv := none) rfl el29 rfl rfl rfl (fun w => by exact sbh (46 + (num s.l 2 4).toNat) (by omega) (by (try simp only [Sl.cut]); omega) w)) ?_
            refine s_op (r_b2S (s := (Sl.cut s 0 (46 + (num s.l 2 4).toNat) s.cap)) Try.underlying29 Try.underlying5 Try.underlying9 rfl ((hs.up H (fun _ => apart_nil _)).cut (l := 0) (h := 46 + (num s.l 2 4).toNat) (m := s.cap) (by omega) (by (try simp only [Sl.cut]); omega) (by omega) (by (try simp only [Sl.cut]); omega))) ?_
            refine s_op (r_strne (a := putF (((s.l).drop 14).take (32)) (((s.l).drop 46).take (num s.l 2 4).toNat)) (b := ((s.l).drop 0).take (46 + (num s.l 2 4).toNat)) rfl rfl) ?_
            refine s_nil ?_
            by_cases hc21 : putF (((s.l).drop 14).take (32)) (((s.l).drop 46).take (num s.l 2 4).toNat) = ((s.l).drop 0).take (46 + (num s.l 2 4).toNat)
            · skip
              repeat refine c_seq ?_
              refine c_no (by exact congrArg Value.bool (congrArg not (decide_eq_true hc21))) ?_
              refine c_skip ?_
              repeat refine c_seq ?_
              refine c_region ?_
              refine l_op (o_val (r_ldAA (l := ((s.l).drop 14).take (32)) H (i := 1) rfl rfl rt31 (show (((s.l).drop 14).take (32)).length = 32 from (by simp only [List.length_take, List.length_drop]; omega))) ?_)
              refine l_op (o_val (r_mv) ?_)
              refine l_op (o_val (r_mv) ?_)
              refine l_op (o_val (r_lens el29 rfl) ?_)
              refine l_op (o_stA (l' := ((s.l).drop 14).take (32)) H (i := 0) rfl rfl rfl cs31 (show (List.replicate 32 (0 : UInt8)).length = 32 from (List.length_replicate ..)) (show (((s.l).drop 14).take (32)).length = 32 from (by simp only [List.length_take, List.length_drop]; omega)) (fun w H => ?_))
              replace H : Hp w0 w [] ([.blk b1 ((((s.l).drop 14).take (32)).map V8) 31, .blk b14 ((((s.l).drop 14).take (32)).map V8) 31, .own a16 ((num s.l 2 4).toNat) c17 ((((s.l).drop 46).take (num s.l 2 4).toNat).map V8) 5 1, .own a19 (46 + (num s.l 2 4).toNat) c20 ((putF (((s.l).drop 14).take (32)) (((s.l).drop 46).take (num s.l 2 4).toNat)).map V8) 5 1]) := H
              refine l_op (o_val (r_as) ?_)
              refine l_op (o_val (r_as) ?_)
              refine l_op (o_val (r_as) ?_)
              first | refine l_end ?_ | refine l_nil ?_
              refine c_ret ?_
              try dsimp only [Exit.then, Exit.inBlock]
              refine e_retN (vs := [.agg ((((s.l).drop 14).take (32)).map V8).toArray, .slice (hd a16) ((num s.l 2 4).toNat) c17, VI ((46 + (num s.l 2 4).toNat : Nat) : Int), VI 0]) _ Try.results64 rfl (H.resA (l := ((s.l).drop 14).take (32)) (i := 0) rfl rfl rt31 (show (((s.l).drop 14).take (32)).length = 32 from (by simp only [List.length_take, List.length_drop]; omega)) (resT (v := .slice (hd a16) ((num s.l 2 4).toNat) c17) rfl (resT (v := VI ((46 + (num s.l 2 4).toNat : Nat) : Int)) rfl (resT (v := VI 0) rfl (resZ))))) ?_
              refine ⟨_, rfl, ?_⟩
              have e : takeF s.l = ((s.l.drop 14).take 32, (s.l.drop 46).take (num s.l 2 4).toNat, 46 + (num s.l 2 4).toNat, 0) := by rw [takeF, if_neg (by omega), if_neg (by omega), if_neg (by omega), if_neg (by omega), if_neg (not_not_intro ((putF_iff s.l (by omega) (by omega) (by omega) (by omega)).1 (hc21)))]
              rw [e]
              have e2 : ((s.l.drop 46).take (num s.l 2 4).toNat).length = (num s.l 2 4).toNat := by simp; omega
              dsimp only
              rw [e2]
              exact ⟨_, _, rfl, H.sub (.cons _ (.cons _ (.cons_cons _ (List.nil_sublist _))))⟩
            · skip
              repeat refine c_seq ?_
              refine c_yes (by exact congrArg Value.bool (congrArg not (decide_eq_false hc21))) ?_
              repeat refine c_seq ?_
              refine c_region ?_
              refine l_op (o_val (r_bld' (pv := []) bd31 rfl rfl) ?_)
              refine l_op (o_stA (l' := List.replicate 32 (0 : UInt8)) H (i := 0) rfl rfl rfl cs31 (show (List.replicate 32 (0 : UInt8)).length = 32 from (List.length_replicate ..)) (show (List.replicate 32 (0 : UInt8)).length = 32 from (List.length_replicate ..)) (fun w H => ?_))
              replace H : Hp w0 w [] ([.blk b1 ((List.replicate 32 (0 : UInt8)).map V8) 31, .blk b14 ((((s.l).drop 14).take (32)).map V8) 31, .own a16 ((num s.l 2 4).toNat) c17 ((((s.l).drop 46).take (num s.l 2 4).toNat).map V8) 5 1, .own a19 (46 + (num s.l 2 4).toNat) c20 ((putF (((s.l).drop 14).take (32)) (((s.l).drop 46).take (num s.l 2 4).toNat)).map V8) 5 1]) := H
              refine l_op (o_val (r_as) ?_)
              refine l_op (o_val (r_as) ?_)
              refine l_op (o_val (r_as) ?_)
              first | refine l_end ?_ | refine l_nil ?_
              refine c_ret ?_
              try dsimp only [Exit.then, Exit.inBlock]
              refine e_retN (vs := [.agg ((List.replicate 32 (0 : UInt8)).map V8).toArray, .slice none 0 0, VI 0, VI 11]) _ Try.results64 rfl (H.resA (l := List.replicate 32 (0 : UInt8)) (i := 0) rfl rfl rt31 (show (List.replicate 32 (0 : UInt8)).length = 32 from (List.length_replicate ..)) (resT (v := .slice none 0 0) rfl (resT (v := VI 0) rfl (resT (v := VI 11) rfl (resZ))))) ?_
              refine ⟨_, rfl, ?_⟩
              have e : takeF s.l = (Z32, [], 0, 11) := by rw [takeF, if_neg (by omega), if_neg (by omega), if_neg (by omega), if_neg (by omega), if_pos (fun e => hc21 ((putF_iff s.l (by omega) (by omega) (by omega) (by omega)).2 e |>.trans (by simp)))]
              rw [e]
              exact ⟨none, 0, rfl, (H.sub (List.nil_sublist _)).nilEnd 5 1⟩
end Go.Proofs.Ytjmbbhnpfmblpaa
