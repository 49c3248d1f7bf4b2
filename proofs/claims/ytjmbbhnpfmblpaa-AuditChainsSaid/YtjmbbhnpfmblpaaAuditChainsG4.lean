/- Lemmas for the statement AuditChains, part 4: rules of operations, walks through functions, plain laws. -/
import Derived.Test.YtjmbbhnpfmblpaaAuditChainsG3
namespace Go.Proofs.Ytjmbbhnpfmblpaa
open Go
set_option maxRecDepth 100000
set_option maxHeartbeats 2000000 in
theorem aTaker_ret (w0 : World) (s : Sl) (hs : s.ok w0) (hm : s.len ≤ 1048576) :
    Ret Try.prog 92 [s.v] w0 fun v w' => v = .tuple #[.agg (entE (takeE s.l)).toArray, VI ((takeN s.l : Nat) : Int), VI ((takeC s.l : Nat) : Int)] ∧ Hp w0 w' [] [] := by
  refine ret_mk Try.func92 rfl Try.ntmps92 (by simp) ?_
  have H := Hp.refl w0 []
  have hsl := hs.ln
  have hse := hs.le
  have hNlt : aN s.l < 256 := u8_lt _
  have hAN : aN s.l = (s.l.getD 24 0).toNat := rfl
  have hB0 := u8_lt (s.l.getD 0 0)
  have hB26 := u8_lt (s.l.getD (26 + aN s.l) 0)
  have hB27 := u8_lt (s.l.getD (27 + aN s.l) 0)
  repeat refine c_seq ?_
  refine c_region ?_
  refine l_op (o_alloc H zc95 (fun b1 w H hb1 => ?_))
  replace H : Hp _ w _ ([.blk b1 ([VI 0, VI 0, V64 (0 : UInt64), .string ⟨(([] : List UInt8)).toArray⟩, VI 0, VI 0] ++ (List.replicate 32 (0 : UInt8)).map V8) 95]) := H
  refine l_op (o_val (r_as) ?_)
  refine l_op (o_val (r_as) ?_)
  first | refine l_end ?_ | refine l_nil ?_
  repeat refine c_seq ?_
  refine c_region ?_
  refine l_op (o_val (r_as) ?_)
  first | refine l_end ?_ | refine l_nil ?_
  repeat refine c_seq ?_
  refine c_region ?_
  refine l_op (o_val (r_as) ?_)
  first | refine l_end ?_ | refine l_nil ?_
  repeat refine c_seq ?_
  refine c_block ?_
  repeat refine c_seq ?_
  refine c_loop2 (fun (i : Nat) (n : Nat) => [(0, s.v), (2, .pointer (some ⟨b1, 0, none⟩)), (5, VI (n : Int)), (6, VI (i : Int))])
    (fun (i : Nat) (n : Nat) w => (i ≤ s.len ∧ (i ≤ 24 → n = 0) ∧ (24 < i → n = aN s.l ∧ i ≤ 59 + aN s.l ∧ aN s.l ≤ 16) ∧ (0 < i → (s.l.getD 0 0).toNat ≤ 127) ∧ (8 < i → (s.l.getD 8 0).toNat ≤ 127) ∧ (24 < i → 26 + aN s.l < i → (s.l.getD (26 + aN s.l) 0).toNat ≤ 3) ∧ (24 < i → 27 + aN s.l < i → (s.l.getD (26 + aN s.l) 0).toNat * 256 + (s.l.getD (27 + aN s.l) 0).toNat ≤ 999)) ∧ Hp w0 w [] ([.blk b1 ([VI 0, VI 0, V64 (0 : UInt64), .string ⟨(([] : List UInt8)).toArray⟩, VI 0, VI 0] ++ (List.replicate 32 (0 : UInt8)).map V8) 95]))
    (fun (i : Nat) (n : Nat) => s.len - i) 0 0 ⟨rfl, rfl, rfl, rfl, trivial⟩ ⟨⟨by omega, by omega, by omega, by omega, by omega, by omega, by omega⟩, H⟩ ?_
  clear H
  rintro i n τ w ⟨⟨hi, hn0, hn1, hg0, hg8, hg26, hg27⟩, H⟩
  repeat refine c_seq ?_
  refine c_region ?_
  refine l_op (o_val (r_mv) ?_)
  refine l_op (o_val (r_mv) ?_)
  refine l_op (o_val (r_lens el29 rfl) ?_)
  refine l_op (o_val (r_bin (a := (i : Int)) (b := (s.len : Int)) rfl rfl (fun _ => b_lss)) ?_)
  first | refine l_end ?_ | refine l_nil ?_
  by_cases hc2 : (i : Int) < (s.len : Int)
  ·
   repeat refine c_seq ?_
   refine c_yes (by exact congrArg Value.bool (decide_eq_true hc2)) ?_
   refine c_skip ?_
   repeat refine c_seq ?_
   refine c_block ?_
   repeat refine c_seq ?_
   refine c_region ?_
   refine l_op (o_val (r_mv) ?_)
   refine l_op (o_val (r_bin (a := (i : Int)) (b := 0) rfl rfl (fun _ => b_eql)) ?_)
   refine l_op (o_val (r_mv) ?_)
   by_cases hc3 : (i : Int) = 0
   ·
    refine l_no rfl rfl (by exact congrArg Value.bool (decide_eq_true hc3)) rfl ?_
    refine l_no rfl rfl (by exact congrArg Value.bool (decide_eq_true hc3)) rfl ?_
    refine l_op (o_val (r_pick (b := true) (congrArg Value.bool (decide_eq_true hc3))) ?_)
    refine l_op (o_val (r_mv) ?_)
    refine l_yes rfl rfl rfl (o_val (r_mv) ?_)
    refine l_yes rfl rfl rfl (o_val (r_mv) ?_)
    have ah6 := ((hs.up H (fun _ => apart_nil _))).addr (by (try simp only [Sl.cut]); omega)
    obtain ⟨ab4, ao5, ah6⟩ := ah6
    refine l_yes rfl rfl rfl (o_val (r_isN (0) rfl rfl el29 ah6 (by omega) (by omega)) ?_)
    refine l_yes rfl rfl rfl (o_val (r_ldB (s := s) (k := 0) (hs.up H (fun _ => apart_nil _)) ah6 rfl ct5 (by (try simp only [Sl.cut]); omega)) ?_)
    refine l_yes rfl rfl rfl (o_val (r_bin (a := (((s.l).getD 0 0).toNat : Int)) (b := 128) rfl rfl (fun _ => b_geq)) ?_)
    refine l_op (o_val (r_pick rfl) ?_)
    refine l_op (o_val (r_as) ?_)
    first | refine l_end ?_ | refine l_nil ?_
    repeat refine c_seq ?_
    refine c_region ?_
    refine l_op (o_val (r_mv) ?_)
    refine l_op (o_val (r_bin (a := (i : Int)) (b := 24) rfl rfl (fun _ => b_eqlB false (decide_eq_false (by omega)))) ?_)
    first | refine l_end ?_ | refine l_nil ?_
    repeat refine c_seq ?_
    refine c_no rfl ?_
    refine c_skip ?_
    repeat refine c_seq ?_
    refine c_region ?_
    refine l_op (o_val (r_mv) ?_)
    refine l_op (o_val (r_mv) ?_)
    refine l_op (o_val (r_bin (a := 26) (b := (n : Int)) rfl rfl (fun _ => b_add (by omega) (by omega))) ?_)
    refine l_op (o_val (r_bin (a := (i : Int)) (b := 26 + (n : Int)) rfl rfl (fun _ => b_eqlB false (decide_eq_false (by omega)))) ?_)
    refine l_op (o_val (r_mv) ?_)
    refine l_no rfl rfl rfl rfl ?_
    refine l_no rfl rfl rfl rfl ?_
    refine l_op (o_val (r_pick rfl) ?_)
    first | refine l_end ?_ | refine l_nil ?_
    repeat refine c_seq ?_
    refine c_no rfl ?_
    refine c_skip ?_
    repeat refine c_seq ?_
    refine c_region ?_
    refine l_op (o_val (r_mv) ?_)
    refine l_op (o_val (r_mv) ?_)
    refine l_op (o_val (r_bin (a := 27) (b := (n : Int)) rfl rfl (fun _ => b_add (by omega) (by omega))) ?_)
    refine l_op (o_val (r_bin (a := (i : Int)) (b := 27 + (n : Int)) rfl rfl (fun _ => b_eqlB false (decide_eq_false (by omega)))) ?_)
    refine l_op (o_val (r_mv) ?_)
    refine l_no rfl rfl rfl rfl ?_
    refine l_no rfl rfl rfl rfl ?_
    refine l_op (o_val (r_pick rfl) ?_)
    first | refine l_end ?_ | refine l_nil ?_
    repeat refine c_seq ?_
    refine c_no rfl ?_
    refine c_skip ?_
    repeat refine c_seq ?_
    refine c_region ?_
    refine l_op (o_val (r_mv) ?_)
    first | refine l_end ?_ | refine l_nil ?_
    by_cases hc7 : 128 ≤ (((s.l).getD 0 0).toNat : Int)
    ·
     repeat refine c_seq ?_
     refine c_yes (by exact congrArg Value.bool (decide_eq_true hc7)) ?_
     repeat refine c_seq ?_
     refine c_region ?_
     refine l_op (o_val (r_bld' (cells := ([VI 0, VI 0, V64 (0 : UInt64), .string ⟨(([] : List UInt8)).toArray⟩, VI 0, VI 0] ++ (List.replicate 32 (0 : UInt8)).map V8).toArray) (pv := []) bd95 rfl rfl) ?_)
     refine l_op (o_stW (C' := [VI 0, VI 0, V64 (0 : UInt64), .string ⟨(([] : List UInt8)).toArray⟩, VI 0, VI 0] ++ (List.replicate 32 (0 : UInt8)).map V8) H (i := 0) rfl rfl rfl cs95 (by simp [Value.oneCell']) (by rw [List.length_append, List.length_map, (show (List.replicate 32 (0 : UInt8)).length = 32 from (List.length_replicate ..))]; rfl) (by rw [List.length_append, List.length_map, (show (List.replicate 32 (0 : UInt8)).length = 32 from (List.length_replicate ..))]; rfl) (fun w H => ?_))
     replace H : Hp _ w _ [_] := H
     refine l_op (o_val (r_as) ?_)
     refine l_op (o_val (r_as) ?_)
     first | refine l_end ?_ | refine l_nil ?_
     refine c_ret ?_
     try dsimp only [Exit.then, Exit.inBlock]
     refine e_retN (vs := [.agg ([VI 0, VI 0, V64 (0 : UInt64), .string ⟨(([] : List UInt8)).toArray⟩, VI 0, VI 0] ++ (List.replicate 32 (0 : UInt8)).map V8).toArray, VI 0, VI 4]) _ Try.results92 rfl (H.resR (C := [VI 0, VI 0, V64 (0 : UInt64), .string ⟨(([] : List UInt8)).toArray⟩, VI 0, VI 0] ++ (List.replicate 32 (0 : UInt8)).map V8) (i := 0) rfl rfl rt95 (by rw [List.length_append, List.length_map, (show (List.replicate 32 (0 : UInt8)).length = 32 from (List.length_replicate ..))]; rfl) (resT (v := VI 0) rfl (resT (v := VI 4) rfl (resZ)))) ?_
     refine ⟨_, rfl, ?_⟩
     have hbad : badE s.l := by unfold badE; omega
     have hc : takeC s.l = 4 := by unfold takeC; rw [if_pos hbad]
     refine ⟨?_, H.sub (List.nil_sublist _)⟩
     rw [takeE, takeN, hc]
     rfl
    ·
     repeat refine c_seq ?_
     refine c_no (by exact congrArg Value.bool (decide_eq_false hc7)) ?_
     refine c_skip ?_
     repeat refine c_seq ?_
     refine c_region ?_
     refine l_op (o_val (r_mv) ?_)
     refine l_op (o_val (r_bin (a := (i : Int)) (b := 24) rfl rfl (fun _ => b_gtrB false (decide_eq_false (by omega)))) ?_)
     refine l_op (o_val (r_mv) ?_)
     refine l_no rfl rfl rfl rfl ?_
     refine l_no rfl rfl rfl rfl ?_
     refine l_no rfl rfl rfl rfl ?_
     refine l_no rfl rfl rfl rfl ?_
     refine l_op (o_val (r_pick rfl) ?_)
     first | refine l_end ?_ | refine l_nil ?_
     repeat refine c_seq ?_
     refine c_no rfl ?_
     refine c_skip ?_
     repeat refine c_seq ?_
     refine c_region ?_
     refine l_op (o_val (r_mv) ?_)
     refine l_op (o_val (r_bin (a := (i : Int)) (b := 1) rfl rfl (fun _ => b_add (by omega) (by omega))) ?_)
     refine l_op (o_val (r_as) ?_)
     first | refine l_end ?_ | refine l_nil ?_
     refine round_end (i + 1, n) ?_ ?_ ?_
     · exact ⟨rfl, rfl, show VI (n : Int) = VI ((n : Nat) : Int) from congrArg VI (by omega), show VI ((i : Int) + 1) = VI ((i + 1 : Nat) : Int) from congrArg VI (by omega), trivial⟩
     · refine ⟨?_, ?_⟩
       · try dsimp only
         exact ⟨by omega, by omega, by omega, by omega, by omega, by omega, by omega⟩
       · exact H
     · show s.len - (i + 1 : Nat) < s.len - i; omega
   ·
    refine l_yes rfl rfl (by exact congrArg Value.bool (decide_eq_false hc3)) (o_val (r_mv) ?_)
    refine l_yes rfl rfl (by exact congrArg Value.bool (decide_eq_false hc3)) (o_val (r_bin (a := (i : Int)) (b := 8) rfl rfl (fun _ => b_eql)) ?_)
    refine l_op (o_val (r_pick (b := false) (congrArg Value.bool (decide_eq_false hc3))) ?_)
    refine l_op (o_val (r_mv) ?_)
    by_cases hc8 : (i : Int) = 8
    ·
     refine l_yes rfl rfl (by exact congrArg Value.bool (decide_eq_true hc8)) (o_val (r_mv) ?_)
     refine l_yes rfl rfl (by exact congrArg Value.bool (decide_eq_true hc8)) (o_val (r_mv) ?_)
     have ah11 := ((hs.up H (fun _ => apart_nil _))).addr (by (try simp only [Sl.cut]); omega)
     obtain ⟨ab9, ao10, ah11⟩ := ah11
     refine l_yes rfl rfl (by exact congrArg Value.bool (decide_eq_true hc8)) (o_val (r_isN (8) rfl rfl el29 ah11 (by omega) (by omega)) ?_)
     refine l_yes rfl rfl (by exact congrArg Value.bool (decide_eq_true hc8)) (o_val (r_ldB (s := s) (k := 8) (hs.up H (fun _ => apart_nil _)) ah11 rfl ct5 (by (try simp only [Sl.cut]); omega)) ?_)
     refine l_yes rfl rfl (by exact congrArg Value.bool (decide_eq_true hc8)) (o_val (r_bin (a := (((s.l).getD 8 0).toNat : Int)) (b := 128) rfl rfl (fun _ => b_geq)) ?_)
     refine l_op (o_val (r_pick (b := true) (congrArg Value.bool (decide_eq_true hc8))) ?_)
     refine l_op (o_val (r_as) ?_)
     first | refine l_end ?_ | refine l_nil ?_
     repeat refine c_seq ?_
     refine c_region ?_
     refine l_op (o_val (r_mv) ?_)
     refine l_op (o_val (r_bin (a := (i : Int)) (b := 24) rfl rfl (fun _ => b_eqlB false (decide_eq_false (by omega)))) ?_)
     first | refine l_end ?_ | refine l_nil ?_
     repeat refine c_seq ?_
     refine c_no rfl ?_
     refine c_skip ?_
     repeat refine c_seq ?_
     refine c_region ?_
     refine l_op (o_val (r_mv) ?_)
     refine l_op (o_val (r_mv) ?_)
     refine l_op (o_val (r_bin (a := 26) (b := (n : Int)) rfl rfl (fun _ => b_add (by omega) (by omega))) ?_)
     refine l_op (o_val (r_bin (a := (i : Int)) (b := 26 + (n : Int)) rfl rfl (fun _ => b_eqlB false (decide_eq_false (by omega)))) ?_)
     refine l_op (o_val (r_mv) ?_)
     refine l_no rfl rfl rfl rfl ?_
     refine l_no rfl rfl rfl rfl ?_
     refine l_op (o_val (r_pick rfl) ?_)
     first | refine l_end ?_ | refine l_nil ?_
     repeat refine c_seq ?_
     refine c_no rfl ?_
     refine c_skip ?_
     repeat refine c_seq ?_
     refine c_region ?_
     refine l_op (o_val (r_mv) ?_)
     refine l_op (o_val (r_mv) ?_)
     refine l_op (o_val (r_bin (a := 27) (b := (n : Int)) rfl rfl (fun _ => b_add (by omega) (by omega))) ?_)
     refine l_op (o_val (r_bin (a := (i : Int)) (b := 27 + (n : Int)) rfl rfl (fun _ => b_eqlB false (decide_eq_false (by omega)))) ?_)
     refine l_op (o_val (r_mv) ?_)
     refine l_no rfl rfl rfl rfl ?_
     refine l_no rfl rfl rfl rfl ?_
     refine l_op (o_val (r_pick rfl) ?_)
     first | refine l_end ?_ | refine l_nil ?_
     repeat refine c_seq ?_
     refine c_no rfl ?_
     refine c_skip ?_
     repeat refine c_seq ?_
     refine c_region ?_
     refine l_op (o_val (r_mv) ?_)
     first | refine l_end ?_ | refine l_nil ?_
     by_cases hc12 : 128 ≤ (((s.l).getD 8 0).toNat : Int)
     ·
      repeat refine c_seq ?_
      refine c_yes (by exact congrArg Value.bool (decide_eq_true hc12)) ?_
      repeat refine c_seq ?_
      refine c_region ?_
      refine l_op (o_val (r_bld' (cells := ([VI 0, VI 0, V64 (0 : UInt64), .string ⟨(([] : List UInt8)).toArray⟩, VI 0, VI 0] ++ (List.replicate 32 (0 : UInt8)).map V8).toArray) (pv := []) bd95 rfl rfl) ?_)
      refine l_op (o_stW (C' := [VI 0, VI 0, V64 (0 : UInt64), .string ⟨(([] : List UInt8)).toArray⟩, VI 0, VI 0] ++ (List.replicate 32 (0 : UInt8)).map V8) H (i := 0) rfl rfl rfl cs95 (by simp [Value.oneCell']) (by rw [List.length_append, List.length_map, (show (List.replicate 32 (0 : UInt8)).length = 32 from (List.length_replicate ..))]; rfl) (by rw [List.length_append, List.length_map, (show (List.replicate 32 (0 : UInt8)).length = 32 from (List.length_replicate ..))]; rfl) (fun w H => ?_))
      replace H : Hp _ w _ [_] := H
      refine l_op (o_val (r_as) ?_)
      refine l_op (o_val (r_as) ?_)
      first | refine l_end ?_ | refine l_nil ?_
      refine c_ret ?_
      try dsimp only [Exit.then, Exit.inBlock]
      refine e_retN (vs := [.agg ([VI 0, VI 0, V64 (0 : UInt64), .string ⟨(([] : List UInt8)).toArray⟩, VI 0, VI 0] ++ (List.replicate 32 (0 : UInt8)).map V8).toArray, VI 0, VI 4]) _ Try.results92 rfl (H.resR (C := [VI 0, VI 0, V64 (0 : UInt64), .string ⟨(([] : List UInt8)).toArray⟩, VI 0, VI 0] ++ (List.replicate 32 (0 : UInt8)).map V8) (i := 0) rfl rfl rt95 (by rw [List.length_append, List.length_map, (show (List.replicate 32 (0 : UInt8)).length = 32 from (List.length_replicate ..))]; rfl) (resT (v := VI 0) rfl (resT (v := VI 4) rfl (resZ)))) ?_
      refine ⟨_, rfl, ?_⟩
      have hbad : badE s.l := by unfold badE; omega
      have hc : takeC s.l = 4 := by unfold takeC; rw [if_pos hbad]
      refine ⟨?_, H.sub (List.nil_sublist _)⟩
      rw [takeE, takeN, hc]
      rfl
     ·
      repeat refine c_seq ?_
      refine c_no (by exact congrArg Value.bool (decide_eq_false hc12)) ?_
      refine c_skip ?_
      repeat refine c_seq ?_
      refine c_region ?_
      refine l_op (o_val (r_mv) ?_)
      refine l_op (o_val (r_bin (a := (i : Int)) (b := 24) rfl rfl (fun _ => b_gtrB false (decide_eq_false (by omega)))) ?_)
      refine l_op (o_val (r_mv) ?_)
      refine l_no rfl rfl rfl rfl ?_
      refine l_no rfl rfl rfl rfl ?_
      refine l_no rfl rfl rfl rfl ?_
      refine l_no rfl rfl rfl rfl ?_
      refine l_op (o_val (r_pick rfl) ?_)
      first | refine l_end ?_ | refine l_nil ?_
      repeat refine c_seq ?_
      refine c_no rfl ?_
      refine c_skip ?_
      repeat refine c_seq ?_
      refine c_region ?_
      refine l_op (o_val (r_mv) ?_)
      refine l_op (o_val (r_bin (a := (i : Int)) (b := 1) rfl rfl (fun _ => b_add (by omega) (by omega))) ?_)
      refine l_op (o_val (r_as) ?_)
      first | refine l_end ?_ | refine l_nil ?_
      refine round_end (i + 1, n) ?_ ?_ ?_
      · exact ⟨rfl, rfl, show VI (n : Int) = VI ((n : Nat) : Int) from congrArg VI (by omega), show VI ((i : Int) + 1) = VI ((i + 1 : Nat) : Int) from congrArg VI (by omega), trivial⟩
      · refine ⟨?_, ?_⟩
        · try dsimp only
          exact ⟨by omega, by omega, by omega, by omega, by omega, by omega, by omega⟩
        · exact H
      · show s.len - (i + 1 : Nat) < s.len - i; omega
    ·
     refine l_no rfl rfl (by exact congrArg Value.bool (decide_eq_false hc8)) rfl ?_
     refine l_no rfl rfl (by exact congrArg Value.bool (decide_eq_false hc8)) rfl ?_
     refine l_no rfl rfl (by exact congrArg Value.bool (decide_eq_false hc8)) rfl ?_
     refine l_no rfl rfl (by exact congrArg Value.bool (decide_eq_false hc8)) rfl ?_
     refine l_no rfl rfl (by exact congrArg Value.bool (decide_eq_false hc8)) rfl ?_
     refine l_op (o_val (r_pick (b := false) (congrArg Value.bool (decide_eq_false hc8))) ?_)
     refine l_op (o_val (r_as) ?_)
     first | refine l_end ?_ | refine l_nil ?_
     repeat refine c_seq ?_
     refine c_region ?_
     refine l_op (o_val (r_mv) ?_)
     refine l_op (o_val (r_bin (a := (i : Int)) (b := 24) rfl rfl (fun _ => b_eql)) ?_)
     first | refine l_end ?_ | refine l_nil ?_
     by_cases hc13 : (i : Int) = 24
     ·
      repeat refine c_seq ?_
      refine c_yes (by exact congrArg Value.bool (decide_eq_true hc13)) ?_
      repeat refine c_seq ?_
      refine c_region ?_
      refine l_op (o_val (r_mv) ?_)
      refine l_op (o_val (r_mv) ?_)
      have ah16 := ((hs.up H (fun _ => apart_nil _))).addr (by (try simp only [Sl.cut]); omega)
      obtain ⟨ab14, ao15, ah16⟩ := ah16
      refine l_op (o_val (r_isN (24) rfl rfl el29 ah16 (by omega) (by omega)) ?_)
      refine l_op (o_val (r_ldB (s := s) (k := 24) (hs.up H (fun _ => apart_nil _)) ah16 rfl ct5 (by (try simp only [Sl.cut]); omega)) ?_)
      refine l_op (o_val (r_conv Try.underlying5 Try.underlying3 rfl (w_i64_8 _)) ?_)
      refine l_op (o_val (r_as) ?_)
      first | refine l_end ?_ | refine l_nil ?_
      repeat refine c_seq ?_
      refine c_region ?_
      refine l_op (o_val (r_mv) ?_)
      refine l_op (o_val (r_bin (a := (aN s.l : Int)) (b := 16) rfl rfl (fun _ => b_gtr)) ?_)
      refine l_op (o_val (r_as) ?_)
      first | refine l_end ?_ | refine l_nil ?_
      repeat refine c_seq ?_
      refine c_region ?_
      refine l_op (o_val (r_mv) ?_)
      refine l_op (o_val (r_mv) ?_)
      refine l_op (o_val (r_bin (a := 26) (b := (aN s.l : Int)) rfl rfl (fun _ => b_add (by omega) (by omega))) ?_)
      refine l_op (o_val (r_bin (a := (i : Int)) (b := 26 + (aN s.l : Int)) rfl rfl (fun _ => b_eqlB false (decide_eq_false (by omega)))) ?_)
      refine l_op (o_val (r_mv) ?_)
      refine l_no rfl rfl rfl rfl ?_
      refine l_no rfl rfl rfl rfl ?_
      refine l_op (o_val (r_pick rfl) ?_)
      first | refine l_end ?_ | refine l_nil ?_
      repeat refine c_seq ?_
      refine c_no rfl ?_
      refine c_skip ?_
      repeat refine c_seq ?_
      refine c_region ?_
      refine l_op (o_val (r_mv) ?_)
      refine l_op (o_val (r_mv) ?_)
      refine l_op (o_val (r_bin (a := 27) (b := (aN s.l : Int)) rfl rfl (fun _ => b_add (by omega) (by omega))) ?_)
      refine l_op (o_val (r_bin (a := (i : Int)) (b := 27 + (aN s.l : Int)) rfl rfl (fun _ => b_eqlB false (decide_eq_false (by omega)))) ?_)
      refine l_op (o_val (r_mv) ?_)
      refine l_no rfl rfl rfl rfl ?_
      refine l_no rfl rfl rfl rfl ?_
      refine l_op (o_val (r_pick rfl) ?_)
      first | refine l_end ?_ | refine l_nil ?_
      repeat refine c_seq ?_
      refine c_no rfl ?_
      refine c_skip ?_
      repeat refine c_seq ?_
      refine c_region ?_
      refine l_op (o_val (r_mv) ?_)
      first | refine l_end ?_ | refine l_nil ?_
      by_cases hc17 : 16 < (aN s.l : Int)
      ·
       repeat refine c_seq ?_
       refine c_yes (by exact congrArg Value.bool (decide_eq_true hc17)) ?_
       repeat refine c_seq ?_
       refine c_region ?_
       refine l_op (o_val (r_bld' (cells := ([VI 0, VI 0, V64 (0 : UInt64), .string ⟨(([] : List UInt8)).toArray⟩, VI 0, VI 0] ++ (List.replicate 32 (0 : UInt8)).map V8).toArray) (pv := []) bd95 rfl rfl) ?_)
       refine l_op (o_stW (C' := [VI 0, VI 0, V64 (0 : UInt64), .string ⟨(([] : List UInt8)).toArray⟩, VI 0, VI 0] ++ (List.replicate 32 (0 : UInt8)).map V8) H (i := 0) rfl rfl rfl cs95 (by simp [Value.oneCell']) (by rw [List.length_append, List.length_map, (show (List.replicate 32 (0 : UInt8)).length = 32 from (List.length_replicate ..))]; rfl) (by rw [List.length_append, List.length_map, (show (List.replicate 32 (0 : UInt8)).length = 32 from (List.length_replicate ..))]; rfl) (fun w H => ?_))
       replace H : Hp _ w _ [_] := H
       refine l_op (o_val (r_as) ?_)
       refine l_op (o_val (r_as) ?_)
       first | refine l_end ?_ | refine l_nil ?_
       refine c_ret ?_
       try dsimp only [Exit.then, Exit.inBlock]
       refine e_retN (vs := [.agg ([VI 0, VI 0, V64 (0 : UInt64), .string ⟨(([] : List UInt8)).toArray⟩, VI 0, VI 0] ++ (List.replicate 32 (0 : UInt8)).map V8).toArray, VI 0, VI 4]) _ Try.results92 rfl (H.resR (C := [VI 0, VI 0, V64 (0 : UInt64), .string ⟨(([] : List UInt8)).toArray⟩, VI 0, VI 0] ++ (List.replicate 32 (0 : UInt8)).map V8) (i := 0) rfl rfl rt95 (by rw [List.length_append, List.length_map, (show (List.replicate 32 (0 : UInt8)).length = 32 from (List.length_replicate ..))]; rfl) (resT (v := VI 0) rfl (resT (v := VI 4) rfl (resZ)))) ?_
       refine ⟨_, rfl, ?_⟩
       have hbad : badE s.l := by unfold badE; omega
       have hc : takeC s.l = 4 := by unfold takeC; rw [if_pos hbad]
       refine ⟨?_, H.sub (List.nil_sublist _)⟩
       rw [takeE, takeN, hc]
       rfl
      ·
       repeat refine c_seq ?_
       refine c_no (by exact congrArg Value.bool (decide_eq_false hc17)) ?_
       refine c_skip ?_
       repeat refine c_seq ?_
       refine c_region ?_
       refine l_op (o_val (r_mv) ?_)
       refine l_op (o_val (r_bin (a := (i : Int)) (b := 24) rfl rfl (fun _ => b_gtrB false (decide_eq_false (by omega)))) ?_)
       refine l_op (o_val (r_mv) ?_)
       refine l_no rfl rfl rfl rfl ?_
       refine l_no rfl rfl rfl rfl ?_
       refine l_no rfl rfl rfl rfl ?_
       refine l_no rfl rfl rfl rfl ?_
       refine l_op (o_val (r_pick rfl) ?_)
       first | refine l_end ?_ | refine l_nil ?_
       repeat refine c_seq ?_
       refine c_no rfl ?_
       refine c_skip ?_
       repeat refine c_seq ?_
       refine c_region ?_
       refine l_op (o_val (r_mv) ?_)
       refine l_op (o_val (r_bin (a := (i : Int)) (b := 1) rfl rfl (fun _ => b_add (by omega) (by omega))) ?_)
       refine l_op (o_val (r_as) ?_)
       first | refine l_end ?_ | refine l_nil ?_
       refine round_end (i + 1, aN s.l) ?_ ?_ ?_
       · exact ⟨rfl, rfl, show VI (aN s.l : Int) = VI ((aN s.l : Nat) : Int) from congrArg VI (by omega), show VI ((i : Int) + 1) = VI ((i + 1 : Nat) : Int) from congrArg VI (by omega), trivial⟩
       · refine ⟨?_, ?_⟩
         · try dsimp only
           exact ⟨by omega, by omega, by omega, by omega, by omega, by omega, by omega⟩
         · exact H
       · show s.len - (i + 1 : Nat) < s.len - i; omega
     ·
      repeat refine c_seq ?_
      refine c_no (by exact congrArg Value.bool (decide_eq_false hc13)) ?_
      refine c_skip ?_
      repeat refine c_seq ?_
      refine c_region ?_
      refine l_op (o_val (r_mv) ?_)
      refine l_op (o_val (r_mv) ?_)
      refine l_op (o_val (r_bin (a := 26) (b := (n : Int)) rfl rfl (fun _ => b_add (by omega) (by omega))) ?_)
      refine l_op (o_val (r_bin (a := (i : Int)) (b := 26 + (n : Int)) rfl rfl (fun _ => b_eql)) ?_)
      refine l_op (o_val (r_mv) ?_)
      by_cases hc18 : (i : Int) = 26 + (n : Int)
      ·
       refine l_yes rfl rfl (by exact congrArg Value.bool (decide_eq_true hc18)) (o_val (r_mv) ?_)
       refine l_yes rfl rfl (by exact congrArg Value.bool (decide_eq_true hc18)) (o_val (r_bin (a := (i : Int)) (b := 24) rfl rfl (fun _ => b_gtrB true (decide_eq_true (by omega)))) ?_)
       refine l_op (o_val (r_pick (b := true) (congrArg Value.bool (decide_eq_true hc18))) ?_)
       first | refine l_end ?_ | refine l_nil ?_
       repeat refine c_seq ?_
       refine c_yes rfl ?_
       repeat refine c_seq ?_
       refine c_region ?_
       refine l_op (o_val (r_mv) ?_)
       refine l_op (o_val (r_mv) ?_)
       have ah21 := ((hs.up H (fun _ => apart_nil _))).addr (by (try simp only [Sl.cut]); omega)
       obtain ⟨ab19, ao20, ah21⟩ := ah21
       refine l_op (o_val (r_isN (26 + aN s.l) rfl rfl el29 ah21 (by omega) (by omega)) ?_)
       refine l_op (o_val (r_ldB (s := s) (k := 26 + aN s.l) (hs.up H (fun _ => apart_nil _)) ah21 rfl ct5 (by (try simp only [Sl.cut]); omega)) ?_)
       refine l_op (o_val (r_bin (a := (((s.l).getD (26 + aN s.l) 0).toNat : Int)) (b := 3) rfl rfl (fun _ => b_gtr)) ?_)
       refine l_op (o_val (r_as) ?_)
       first | refine l_end ?_ | refine l_nil ?_
       repeat refine c_seq ?_
       refine c_region ?_
       refine l_op (o_val (r_mv) ?_)
       refine l_op (o_val (r_mv) ?_)
       refine l_op (o_val (r_bin (a := 27) (b := (n : Int)) rfl rfl (fun _ => b_add (by omega) (by omega))) ?_)
       refine l_op (o_val (r_bin (a := (i : Int)) (b := 27 + (n : Int)) rfl rfl (fun _ => b_eqlB false (decide_eq_false (by omega)))) ?_)
       refine l_op (o_val (r_mv) ?_)
       refine l_no rfl rfl rfl rfl ?_
       refine l_no rfl rfl rfl rfl ?_
       refine l_op (o_val (r_pick rfl) ?_)
       first | refine l_end ?_ | refine l_nil ?_
       repeat refine c_seq ?_
       refine c_no rfl ?_
       refine c_skip ?_
       repeat refine c_seq ?_
       refine c_region ?_
       refine l_op (o_val (r_mv) ?_)
       first | refine l_end ?_ | refine l_nil ?_
       by_cases hc22 : 3 < (((s.l).getD (26 + aN s.l) 0).toNat : Int)
       ·
        repeat refine c_seq ?_
        refine c_yes (by exact congrArg Value.bool (decide_eq_true hc22)) ?_
        repeat refine c_seq ?_
        refine c_region ?_
        refine l_op (o_val (r_bld' (cells := ([VI 0, VI 0, V64 (0 : UInt64), .string ⟨(([] : List UInt8)).toArray⟩, VI 0, VI 0] ++ (List.replicate 32 (0 : UInt8)).map V8).toArray) (pv := []) bd95 rfl rfl) ?_)
        refine l_op (o_stW (C' := [VI 0, VI 0, V64 (0 : UInt64), .string ⟨(([] : List UInt8)).toArray⟩, VI 0, VI 0] ++ (List.replicate 32 (0 : UInt8)).map V8) H (i := 0) rfl rfl rfl cs95 (by simp [Value.oneCell']) (by rw [List.length_append, List.length_map, (show (List.replicate 32 (0 : UInt8)).length = 32 from (List.length_replicate ..))]; rfl) (by rw [List.length_append, List.length_map, (show (List.replicate 32 (0 : UInt8)).length = 32 from (List.length_replicate ..))]; rfl) (fun w H => ?_))
        replace H : Hp _ w _ [_] := H
        refine l_op (o_val (r_as) ?_)
        refine l_op (o_val (r_as) ?_)
        first | refine l_end ?_ | refine l_nil ?_
        refine c_ret ?_
        try dsimp only [Exit.then, Exit.inBlock]
        refine e_retN (vs := [.agg ([VI 0, VI 0, V64 (0 : UInt64), .string ⟨(([] : List UInt8)).toArray⟩, VI 0, VI 0] ++ (List.replicate 32 (0 : UInt8)).map V8).toArray, VI 0, VI 4]) _ Try.results92 rfl (H.resR (C := [VI 0, VI 0, V64 (0 : UInt64), .string ⟨(([] : List UInt8)).toArray⟩, VI 0, VI 0] ++ (List.replicate 32 (0 : UInt8)).map V8) (i := 0) rfl rfl rt95 (by rw [List.length_append, List.length_map, (show (List.replicate 32 (0 : UInt8)).length = 32 from (List.length_replicate ..))]; rfl) (resT (v := VI 0) rfl (resT (v := VI 4) rfl (resZ)))) ?_
        refine ⟨_, rfl, ?_⟩
        have hbad : badE s.l := by unfold badE; omega
        have hc : takeC s.l = 4 := by unfold takeC; rw [if_pos hbad]
        refine ⟨?_, H.sub (List.nil_sublist _)⟩
        rw [takeE, takeN, hc]
        rfl
       ·
        repeat refine c_seq ?_
        refine c_no (by exact congrArg Value.bool (decide_eq_false hc22)) ?_
        refine c_skip ?_
        repeat refine c_seq ?_
        refine c_region ?_
        refine l_op (o_val (r_mv) ?_)
        refine l_op (o_val (r_bin (a := (i : Int)) (b := 24) rfl rfl (fun _ => b_gtrB true (decide_eq_true (by omega)))) ?_)
        refine l_op (o_val (r_mv) ?_)
        refine l_yes rfl rfl rfl (o_val (r_mv) ?_)
        refine l_yes rfl rfl rfl (o_val (r_mv) ?_)
        refine l_yes rfl rfl rfl (o_val (r_bin (a := 59) (b := (n : Int)) rfl rfl (fun _ => b_add (by omega) (by omega))) ?_)
        refine l_yes rfl rfl rfl (o_val (r_bin (a := (i : Int)) (b := 59 + (n : Int)) rfl rfl (fun _ => b_eqlB false (decide_eq_false (by omega)))) ?_)
        refine l_op (o_val (r_pick rfl) ?_)
        first | refine l_end ?_ | refine l_nil ?_
        repeat refine c_seq ?_
        refine c_no rfl ?_
        refine c_skip ?_
        repeat refine c_seq ?_
        refine c_region ?_
        refine l_op (o_val (r_mv) ?_)
        refine l_op (o_val (r_bin (a := (i : Int)) (b := 1) rfl rfl (fun _ => b_add (by omega) (by omega))) ?_)
        refine l_op (o_val (r_as) ?_)
        first | refine l_end ?_ | refine l_nil ?_
        refine round_end (i + 1, n) ?_ ?_ ?_
        · exact ⟨rfl, rfl, show VI (n : Int) = VI ((n : Nat) : Int) from congrArg VI (by omega), show VI ((i : Int) + 1) = VI ((i + 1 : Nat) : Int) from congrArg VI (by omega), trivial⟩
        · refine ⟨?_, ?_⟩
          · try dsimp only
            exact ⟨by omega, by omega, by omega, by omega, by omega, by omega, by omega⟩
          · exact H
        · show s.len - (i + 1 : Nat) < s.len - i; omega
      ·
       refine l_no rfl rfl (by exact congrArg Value.bool (decide_eq_false hc18)) rfl ?_
       refine l_no rfl rfl (by exact congrArg Value.bool (decide_eq_false hc18)) rfl ?_
       refine l_op (o_val (r_pick (b := false) (congrArg Value.bool (decide_eq_false hc18))) ?_)
       first | refine l_end ?_ | refine l_nil ?_
       repeat refine c_seq ?_
       refine c_no rfl ?_
       refine c_skip ?_
       repeat refine c_seq ?_
       refine c_region ?_
       refine l_op (o_val (r_mv) ?_)
       refine l_op (o_val (r_mv) ?_)
       refine l_op (o_val (r_bin (a := 27) (b := (n : Int)) rfl rfl (fun _ => b_add (by omega) (by omega))) ?_)
       refine l_op (o_val (r_bin (a := (i : Int)) (b := 27 + (n : Int)) rfl rfl (fun _ => b_eql)) ?_)
       refine l_op (o_val (r_mv) ?_)
       by_cases hc23 : (i : Int) = 27 + (n : Int)
       ·
        refine l_yes rfl rfl (by exact congrArg Value.bool (decide_eq_true hc23)) (o_val (r_mv) ?_)
        refine l_yes rfl rfl (by exact congrArg Value.bool (decide_eq_true hc23)) (o_val (r_bin (a := (i : Int)) (b := 25) rfl rfl (fun _ => b_gtrB true (decide_eq_true (by omega)))) ?_)
        refine l_op (o_val (r_pick (b := true) (congrArg Value.bool (decide_eq_true hc23))) ?_)
        first | refine l_end ?_ | refine l_nil ?_
        repeat refine c_seq ?_
        refine c_yes rfl ?_
        repeat refine c_seq ?_
        refine c_still mixed (by kernel_rfl) ?_
        replace H := H.drew
        refine s_op (r_mv) ?_
        refine s_op (r_mv) ?_
        refine s_op (r_bin (a := (i : Int)) (b := 1) rfl rfl (fun _ => b_sub (by omega) (by omega))) ?_
        have ah26 := ((hs.up H (fun _ => apart_nil _))).addr (by (try simp only [Sl.cut]); omega)
        obtain ⟨ab24, ao25, ah26⟩ := ah26
        refine s_op (r_isN (26 + aN s.l) rfl rfl el29 ah26 (by omega) (by omega)) ?_
        refine s_op (r_ldB (s := s) (k := 26 + aN s.l) (hs.up H (fun _ => apart_nil _)) ah26 rfl ct5 (by (try simp only [Sl.cut]); omega)) ?_
        refine s_op (r_conv Try.underlying5 Try.underlying3 rfl (w_i64_8 _)) ?_
        refine s_op (r_bin (a := (((s.l).getD (26 + aN s.l) 0).toNat : Int)) (b := 256) rfl rfl (fun _ => b_mul (by omega) (by omega))) ?_
        refine s_op (r_mv) ?_
        refine s_op (r_mv) ?_
        refine s_op (r_isN (27 + aN s.l) rfl rfl el29 ah26 (by omega) (by omega)) ?_
        refine s_op (r_ldB (s := s) (k := 27 + aN s.l) (hs.up H (fun _ => apart_nil _)) ah26 rfl ct5 (by (try simp only [Sl.cut]); omega)) ?_
        refine s_op (r_conv Try.underlying5 Try.underlying3 rfl (w_i64_8 _)) ?_
        refine s_op (r_bin (a := (((s.l).getD (26 + aN s.l) 0).toNat : Int) * 256) (b := (((s.l).getD (27 + aN s.l) 0).toNat : Int)) rfl rfl (fun _ => b_add (by omega) (by omega))) ?_
        refine s_op (r_bin (a := ((((s.l).getD (26 + aN s.l) 0).toNat : Int) * 256) + (((s.l).getD (27 + aN s.l) 0).toNat : Int)) (b := 999) rfl rfl (fun _ => b_gtr)) ?_
        refine s_op (r_as) ?_
        refine s_nil ?_
        repeat refine c_seq ?_
        refine c_region ?_
        refine l_op (o_val (r_mv) ?_)
        first | refine l_end ?_ | refine l_nil ?_
        by_cases hc27 : 999 < ((((s.l).getD (26 + aN s.l) 0).toNat : Int) * 256) + (((s.l).getD (27 + aN s.l) 0).toNat : Int)
        ·
         repeat refine c_seq ?_
         refine c_yes (by exact congrArg Value.bool (decide_eq_true hc27)) ?_
         repeat refine c_seq ?_
         refine c_region ?_
         refine l_op (o_val (r_bld' (cells := ([VI 0, VI 0, V64 (0 : UInt64), .string ⟨(([] : List UInt8)).toArray⟩, VI 0, VI 0] ++ (List.replicate 32 (0 : UInt8)).map V8).toArray) (pv := []) bd95 rfl rfl) ?_)
         refine l_op (o_stW (C' := [VI 0, VI 0, V64 (0 : UInt64), .string ⟨(([] : List UInt8)).toArray⟩, VI 0, VI 0] ++ (List.replicate 32 (0 : UInt8)).map V8) H (i := 0) rfl rfl rfl cs95 (by simp [Value.oneCell']) (by rw [List.length_append, List.length_map, (show (List.replicate 32 (0 : UInt8)).length = 32 from (List.length_replicate ..))]; rfl) (by rw [List.length_append, List.length_map, (show (List.replicate 32 (0 : UInt8)).length = 32 from (List.length_replicate ..))]; rfl) (fun w H => ?_))
         replace H : Hp _ w _ [_] := H
         refine l_op (o_val (r_as) ?_)
         refine l_op (o_val (r_as) ?_)
         first | refine l_end ?_ | refine l_nil ?_
         refine c_ret ?_
         try dsimp only [Exit.then, Exit.inBlock]
         refine e_retN (vs := [.agg ([VI 0, VI 0, V64 (0 : UInt64), .string ⟨(([] : List UInt8)).toArray⟩, VI 0, VI 0] ++ (List.replicate 32 (0 : UInt8)).map V8).toArray, VI 0, VI 4]) _ Try.results92 rfl (H.resR (C := [VI 0, VI 0, V64 (0 : UInt64), .string ⟨(([] : List UInt8)).toArray⟩, VI 0, VI 0] ++ (List.replicate 32 (0 : UInt8)).map V8) (i := 0) rfl rfl rt95 (by rw [List.length_append, List.length_map, (show (List.replicate 32 (0 : UInt8)).length = 32 from (List.length_replicate ..))]; rfl) (resT (v := VI 0) rfl (resT (v := VI 4) rfl (resZ)))) ?_
         refine ⟨_, rfl, ?_⟩
         have hbad : badE s.l := by unfold badE; omega
         have hc : takeC s.l = 4 := by unfold takeC; rw [if_pos hbad]
         refine ⟨?_, H.sub (List.nil_sublist _)⟩
         rw [takeE, takeN, hc]
         rfl
        ·
         repeat refine c_seq ?_
         refine c_no (by exact congrArg Value.bool (decide_eq_false hc27)) ?_
         refine c_skip ?_
         repeat refine c_seq ?_
         refine c_region ?_
         refine l_op (o_val (r_mv) ?_)
         refine l_op (o_val (r_bin (a := (i : Int)) (b := 24) rfl rfl (fun _ => b_gtrB true (decide_eq_true (by omega)))) ?_)
         refine l_op (o_val (r_mv) ?_)
         refine l_yes rfl rfl rfl (o_val (r_mv) ?_)
         refine l_yes rfl rfl rfl (o_val (r_mv) ?_)
         refine l_yes rfl rfl rfl (o_val (r_bin (a := 59) (b := (n : Int)) rfl rfl (fun _ => b_add (by omega) (by omega))) ?_)
         refine l_yes rfl rfl rfl (o_val (r_bin (a := (i : Int)) (b := 59 + (n : Int)) rfl rfl (fun _ => b_eqlB false (decide_eq_false (by omega)))) ?_)
         refine l_op (o_val (r_pick rfl) ?_)
         first | refine l_end ?_ | refine l_nil ?_
         repeat refine c_seq ?_
         refine c_no rfl ?_
         refine c_skip ?_
         repeat refine c_seq ?_
         refine c_region ?_
         refine l_op (o_val (r_mv) ?_)
         refine l_op (o_val (r_bin (a := (i : Int)) (b := 1) rfl rfl (fun _ => b_add (by omega) (by omega))) ?_)
         refine l_op (o_val (r_as) ?_)
         first | refine l_end ?_ | refine l_nil ?_
         refine round_end (i + 1, n) ?_ ?_ ?_
         · exact ⟨rfl, rfl, show VI (n : Int) = VI ((n : Nat) : Int) from congrArg VI (by omega), show VI ((i : Int) + 1) = VI ((i + 1 : Nat) : Int) from congrArg VI (by omega), trivial⟩
         · refine ⟨?_, ?_⟩
           · try dsimp only
             exact ⟨by omega, by omega, by omega, by omega, by omega, by omega, by omega⟩
           · exact H
         · show s.len - (i + 1 : Nat) < s.len - i; omega
       ·
        refine l_no rfl rfl (by exact congrArg Value.bool (decide_eq_false hc23)) rfl ?_
        refine l_no rfl rfl (by exact congrArg Value.bool (decide_eq_false hc23)) rfl ?_
        refine l_op (o_val (r_pick (b := false) (congrArg Value.bool (decide_eq_false hc23))) ?_)
        first | refine l_end ?_ | refine l_nil ?_
        repeat refine c_seq ?_
        refine c_no rfl ?_
        refine c_skip ?_
        repeat refine c_seq ?_
        refine c_region ?_
        refine l_op (o_val (r_mv) ?_)
        first | refine l_end ?_ | refine l_nil ?_
        repeat refine c_seq ?_
        refine c_no rfl ?_
        refine c_skip ?_
        repeat refine c_seq ?_
        refine c_region ?_
        refine l_op (o_val (r_mv) ?_)
        refine l_op (o_val (r_bin (a := (i : Int)) (b := 24) rfl rfl (fun _ => b_gtr)) ?_)
        refine l_op (o_val (r_mv) ?_)
        by_cases hc28 : 24 < (i : Int)
        ·
         refine l_yes rfl rfl (by exact congrArg Value.bool (decide_eq_true hc28)) (o_val (r_mv) ?_)
         refine l_yes rfl rfl (by exact congrArg Value.bool (decide_eq_true hc28)) (o_val (r_mv) ?_)
         refine l_yes rfl rfl (by exact congrArg Value.bool (decide_eq_true hc28)) (o_val (r_bin (a := 59) (b := (n : Int)) rfl rfl (fun _ => b_add (by omega) (by omega))) ?_)
         refine l_yes rfl rfl (by exact congrArg Value.bool (decide_eq_true hc28)) (o_val (r_bin (a := (i : Int)) (b := 59 + (n : Int)) rfl rfl (fun _ => b_eql)) ?_)
         refine l_op (o_val (r_pick (b := true) (congrArg Value.bool (decide_eq_true hc28))) ?_)
         first | refine l_end ?_ | refine l_nil ?_
         by_cases hc29 : (i : Int) = 59 + (n : Int)
         ·
          repeat refine c_seq ?_
          refine c_yes (by exact congrArg Value.bool (decide_eq_true hc29)) ?_
          refine c_exit ?_
          repeat refine c_seq ?_
          refine c_region ?_
          refine l_op (o_val (r_mv) ?_)
          refine l_op (o_val (r_lens el29 rfl) ?_)
          refine l_op (o_val (r_bin (a := (s.len : Int)) (b := 25) rfl rfl (fun _ => b_lss)) ?_)
          refine l_op (o_val (r_mv) ?_)
          by_cases hc30 : (s.len : Int) < 25
          ·
           refine l_no rfl rfl (by exact congrArg Value.bool (decide_eq_true hc30)) rfl ?_
           refine l_no rfl rfl (by exact congrArg Value.bool (decide_eq_true hc30)) rfl ?_
           refine l_no rfl rfl (by exact congrArg Value.bool (decide_eq_true hc30)) rfl ?_
           refine l_no rfl rfl (by exact congrArg Value.bool (decide_eq_true hc30)) rfl ?_
           refine l_no rfl rfl (by exact congrArg Value.bool (decide_eq_true hc30)) rfl ?_
           refine l_op (o_val (r_pick (b := true) (congrArg Value.bool (decide_eq_true hc30))) ?_)
           first | refine l_end ?_ | refine l_nil ?_
           repeat refine c_seq ?_
           refine c_yes rfl ?_
           repeat refine c_seq ?_
           refine c_region ?_
           refine l_op (o_val (r_bld' (cells := ([VI 0, VI 0, V64 (0 : UInt64), .string ⟨(([] : List UInt8)).toArray⟩, VI 0, VI 0] ++ (List.replicate 32 (0 : UInt8)).map V8).toArray) (pv := []) bd95 rfl rfl) ?_)
           refine l_op (o_stW (C' := [VI 0, VI 0, V64 (0 : UInt64), .string ⟨(([] : List UInt8)).toArray⟩, VI 0, VI 0] ++ (List.replicate 32 (0 : UInt8)).map V8) H (i := 0) rfl rfl rfl cs95 (by simp [Value.oneCell']) (by rw [List.length_append, List.length_map, (show (List.replicate 32 (0 : UInt8)).length = 32 from (List.length_replicate ..))]; rfl) (by rw [List.length_append, List.length_map, (show (List.replicate 32 (0 : UInt8)).length = 32 from (List.length_replicate ..))]; rfl) (fun w H => ?_))
           replace H : Hp _ w _ [_] := H
           refine l_op (o_val (r_as) ?_)
           refine l_op (o_val (r_as) ?_)
           first | refine l_end ?_ | refine l_nil ?_
           refine c_ret ?_
           try dsimp only [Exit.then, Exit.inBlock]
           refine e_retN (vs := [.agg ([VI 0, VI 0, V64 (0 : UInt64), .string ⟨(([] : List UInt8)).toArray⟩, VI 0, VI 0] ++ (List.replicate 32 (0 : UInt8)).map V8).toArray, VI 0, VI 3]) _ Try.results92 rfl (H.resR (C := [VI 0, VI 0, V64 (0 : UInt64), .string ⟨(([] : List UInt8)).toArray⟩, VI 0, VI 0] ++ (List.replicate 32 (0 : UInt8)).map V8) (i := 0) rfl rfl rt95 (by rw [List.length_append, List.length_map, (show (List.replicate 32 (0 : UInt8)).length = 32 from (List.length_replicate ..))]; rfl) (resT (v := VI 0) rfl (resT (v := VI 3) rfl (resZ)))) ?_
           refine ⟨_, rfl, ?_⟩
           have hbad : ¬ badE s.l := by unfold badE; omega
           have hc : takeC s.l = 3 := by unfold takeC; rw [if_neg hbad, if_pos (by omega)]
           refine ⟨?_, H.sub (List.nil_sublist _)⟩
           rw [takeE, takeN, hc]
           rfl
          ·
           refine l_yes rfl rfl (by exact congrArg Value.bool (decide_eq_false hc30)) (o_val (r_mv) ?_)
           refine l_yes rfl rfl (by exact congrArg Value.bool (decide_eq_false hc30)) (o_val (r_lens el29 rfl) ?_)
           refine l_yes rfl rfl (by exact congrArg Value.bool (decide_eq_false hc30)) (o_val (r_mv) ?_)
           refine l_yes rfl rfl (by exact congrArg Value.bool (decide_eq_false hc30)) (o_val (r_bin (a := 60) (b := (n : Int)) rfl rfl (fun _ => b_add (by omega) (by omega))) ?_)
           refine l_yes rfl rfl (by exact congrArg Value.bool (decide_eq_false hc30)) (o_val (r_bin (a := (s.len : Int)) (b := 60 + (n : Int)) rfl rfl (fun _ => b_lss)) ?_)
           refine l_op (o_val (r_pick (b := false) (congrArg Value.bool (decide_eq_false hc30))) ?_)
           first | refine l_end ?_ | refine l_nil ?_
           by_cases hc31 : (s.len : Int) < 60 + (n : Int)
           ·
            repeat refine c_seq ?_
            refine c_yes (by exact congrArg Value.bool (decide_eq_true hc31)) ?_
            repeat refine c_seq ?_
            refine c_region ?_
            refine l_op (o_val (r_bld' (cells := ([VI 0, VI 0, V64 (0 : UInt64), .string ⟨(([] : List UInt8)).toArray⟩, VI 0, VI 0] ++ (List.replicate 32 (0 : UInt8)).map V8).toArray) (pv := []) bd95 rfl rfl) ?_)
            refine l_op (o_stW (C' := [VI 0, VI 0, V64 (0 : UInt64), .string ⟨(([] : List UInt8)).toArray⟩, VI 0, VI 0] ++ (List.replicate 32 (0 : UInt8)).map V8) H (i := 0) rfl rfl rfl cs95 (by simp [Value.oneCell']) (by rw [List.length_append, List.length_map, (show (List.replicate 32 (0 : UInt8)).length = 32 from (List.length_replicate ..))]; rfl) (by rw [List.length_append, List.length_map, (show (List.replicate 32 (0 : UInt8)).length = 32 from (List.length_replicate ..))]; rfl) (fun w H => ?_))
            replace H : Hp _ w _ [_] := H
            refine l_op (o_val (r_as) ?_)
            refine l_op (o_val (r_as) ?_)
            first | refine l_end ?_ | refine l_nil ?_
            refine c_ret ?_
            try dsimp only [Exit.then, Exit.inBlock]
            refine e_retN (vs := [.agg ([VI 0, VI 0, V64 (0 : UInt64), .string ⟨(([] : List UInt8)).toArray⟩, VI 0, VI 0] ++ (List.replicate 32 (0 : UInt8)).map V8).toArray, VI 0, VI 3]) _ Try.results92 rfl (H.resR (C := [VI 0, VI 0, V64 (0 : UInt64), .string ⟨(([] : List UInt8)).toArray⟩, VI 0, VI 0] ++ (List.replicate 32 (0 : UInt8)).map V8) (i := 0) rfl rfl rt95 (by rw [List.length_append, List.length_map, (show (List.replicate 32 (0 : UInt8)).length = 32 from (List.length_replicate ..))]; rfl) (resT (v := VI 0) rfl (resT (v := VI 3) rfl (resZ)))) ?_
            refine ⟨_, rfl, ?_⟩
            have hbad : ¬ badE s.l := by unfold badE; omega
            have hc : takeC s.l = 3 := by unfold takeC; rw [if_neg hbad, if_pos (by omega)]
            refine ⟨?_, H.sub (List.nil_sublist _)⟩
            rw [takeE, takeN, hc]
            rfl
           ·
            repeat refine c_seq ?_
            refine c_no (by exact congrArg Value.bool (decide_eq_false hc31)) ?_
            refine c_skip ?_
            repeat refine c_seq ?_
            refine c_region ?_
            refine l_op (o_val (r_mv) ?_)
            have hk32 : (0 + 8 ≤ s.len) := by omega
            refine l_op (o_callR Try.func114 rfl rfl rfl (at1_ok _ s (hs.up H (fun _ => apart_nil _)) 0 8 (by omega) (by omega) (by omega) (by (try dsimp only); omega)) ?_)
            rintro _ w ⟨rfl, Hc⟩
            replace H : Hp _ w _ ([_]) := H.call Hc
            clear Hc
            refine l_op (o_val (r_mv) ?_)
            refine l_op (o_val (r_ext rfl rfl) ?_)
            refine l_op (o_val (r_ext rfl rfl) ?_)
            refine l_op (o_val (r_as) ?_)
            refine l_op (o_val (r_as) ?_)
            first | refine l_end ?_ | refine l_nil ?_
            repeat refine c_seq ?_
            refine c_region ?_
            refine l_op (o_val (r_mv) ?_)
            have hk33 : (8 + 8 ≤ s.len) := by omega
            refine l_op (o_callR Try.func114 rfl rfl rfl (at1_ok _ s (hs.up H (fun _ => apart_nil _)) 8 8 (by omega) (by omega) (by omega) (by (try dsimp only); omega)) ?_)
            rintro _ w ⟨rfl, Hc⟩
            replace H : Hp _ w _ ([_]) := H.call Hc
            clear Hc
            refine l_op (o_val (r_mv) ?_)
            refine l_op (o_val (r_ext rfl rfl) ?_)
            refine l_op (o_val (r_ext rfl rfl) ?_)
            refine l_op (o_val (r_as) ?_)
            refine l_op (o_val (r_as) ?_)
            first | refine l_end ?_ | refine l_nil ?_
            repeat refine c_seq ?_
            refine c_region ?_
            refine l_op (o_val (r_mv) ?_)
            have hk34 : (16 + 8 ≤ s.len) := by omega
            refine l_op (o_callR Try.func114 rfl rfl rfl (at1_ok _ s (hs.up H (fun _ => apart_nil _)) 16 8 (by omega) (by omega) (by omega) (by (try dsimp only); omega)) ?_)
            rintro _ w ⟨rfl, Hc⟩
            replace H : Hp _ w _ ([_]) := H.call Hc
            clear Hc
            refine l_op (o_val (r_mv) ?_)
            refine l_op (o_val (r_ext rfl rfl) ?_)
            refine l_op (o_val (r_ext rfl rfl) ?_)
            refine l_op (o_val (r_as) ?_)
            refine l_op (o_val (r_as) ?_)
            first | refine l_end ?_ | refine l_nil ?_
            repeat refine c_seq ?_
            refine c_region ?_
            refine l_op (o_val (r_mv) ?_)
            refine l_op (o_val (r_bin (a := 25) (b := (n : Int)) rfl rfl (fun _ => b_add (by omega) (by omega))) ?_)
            refine l_op (o_val (r_as) ?_)
            first | refine l_end ?_ | refine l_nil ?_
            have hbd := (show ¬ badE s.l by unfold badE; omega)
            unfold badE at hbd
            have k0 := num_small s.l 0 (by omega) (by omega)
            have k8 := num_small s.l 8 (by omega) (by omega)
            repeat refine c_seq ?_
            refine wp_held (fun w => Hp w0 w [] [.blk b1 ([VI 0, VI 0, V64 (0 : UInt64), .string ⟨(([] : List UInt8)).toArray⟩, VI 0, VI 0] ++ (List.replicate 32 (0 : UInt8)).map V8) 95]) mixed ?_
            replace H := H.drew
            have HS := H
            refine t_take 0 rfl (by kernel_rfl) (by kernel_rfl) (by kernel_rfl) (fun _ _ _ h => h) (fun w HS => r_mv) HS ?_
            refine t_take 1 rfl (by kernel_rfl) (by kernel_rfl) (by kernel_rfl) (fun _ _ _ h => h) (fun w HS => r_conv Try.underlying35 Try.underlying2 rfl (w_i64_64 (by omega))) HS ?_
            refine t_take 2 rfl (by kernel_rfl) (by kernel_rfl) (by kernel_rfl) (fun _ _ _ h => h) (fun w HS => r_mv) HS ?_
            refine t_take 3 rfl (by kernel_rfl) (by kernel_rfl) (by kernel_rfl) (fun _ _ _ h => h) (fun w HS => r_conv Try.underlying35 Try.underlying2 rfl (w_i64_64 (by omega))) HS ?_
            refine t_take 4 rfl (by kernel_rfl) (by kernel_rfl) (by kernel_rfl) (fun _ _ _ h => h) (fun w HS => r_mv) HS ?_
            refine t_take 5 rfl (by kernel_rfl) (by kernel_rfl) (by kernel_rfl) (fun _ _ _ h => h) (fun w HS => r_mv) HS ?_
            refine t_take 6 rfl (by kernel_rfl) (by kernel_rfl) (by kernel_rfl) (fun _ _ _ h => h) (fun w HS => r_mv) HS ?_
            refine t_take 7 rfl (by kernel_rfl) (by kernel_rfl) (by kernel_rfl) (fun _ _ _ h => h) (fun w HS => r_slS (s := s) 25 (25 + aN s.l) s.cap (lv := some (VI 25)) (hv := some (VI (25 + (n : Int)))) (mv := none) rfl el29 rfl rfl rfl (fun w => by exact sblh 25 (25 + aN s.l) (by omega) (by omega) (by omega) (by omega) w)) HS ?_
            refine t_take 8 rfl (by kernel_rfl) (by kernel_rfl) (by kernel_rfl) (fun _ _ _ h => h) (fun w HS => r_b2S (s := (Sl.cut s 25 (25 + aN s.l) s.cap)) Try.underlying29 Try.underlying5 Try.underlying9 rfl ((hs.up HS (fun _ => apart_nil _)).cut (l := 25) (h := 25 + aN s.l) (m := s.cap) (by omega) (by omega) (by omega) (by omega))) HS ?_
            refine t_take 9 rfl (by kernel_rfl) (by kernel_rfl) (by kernel_rfl) (fun _ _ _ h => h) (fun w HS => r_mv) HS ?_
            refine t_take 10 rfl (by kernel_rfl) (by kernel_rfl) (by kernel_rfl) (fun _ _ _ h => h) (fun w HS => r_mv) HS ?_
            have ah37 := ((hs.up HS (fun _ => apart_nil _))).addr (by (try simp only [Sl.cut]); omega)
            obtain ⟨ab35, ao36, ah37⟩ := ah37
            refine t_take 11 rfl (by kernel_rfl) (by kernel_rfl) (by kernel_rfl) (fun _ _ _ h => h) (fun w HS => r_isN (25 + aN s.l) rfl rfl el29 ah37 (by omega) (by omega)) HS ?_
            refine t_take 12 rfl (by kernel_rfl) (by kernel_rfl) (by kernel_rfl) (fun _ _ _ h => h) (fun w HS => r_ldB (s := s) (k := 25 + aN s.l) (hs.up HS (fun _ => apart_nil _)) ah37 rfl ct5 (by (try simp only [Sl.cut]); omega)) HS ?_
            refine t_take 13 rfl (by kernel_rfl) (by kernel_rfl) (by kernel_rfl) (fun _ _ _ h => h) (fun w HS => r_conv Try.underlying5 Try.underlying3 rfl (w_i64_8 _)) HS ?_
            refine t_take 14 rfl (by kernel_rfl) (by kernel_rfl) (by kernel_rfl) (fun _ _ _ h => h) (fun w HS => r_mv) HS ?_
            refine t_take 15 rfl (by kernel_rfl) (by kernel_rfl) (by kernel_rfl) (fun _ _ _ h => h) (fun w HS => r_mv) HS ?_
            refine t_take 16 rfl (by kernel_rfl) (by kernel_rfl) (by kernel_rfl) (fun _ _ _ h => h) (fun w HS => r_bin (a := 25 + (n : Int)) (b := 1) rfl rfl (fun _ => b_add (by omega) (by omega))) HS ?_
            refine t_take 17 rfl (by kernel_rfl) (by kernel_rfl) (by kernel_rfl) (fun _ _ _ h => h) (fun w HS => r_isN (26 + aN s.l) rfl rfl el29 ah37 (by omega) (by omega)) HS ?_
            refine t_take 18 rfl (by kernel_rfl) (by kernel_rfl) (by kernel_rfl) (fun _ _ _ h => h) (fun w HS => r_ldB (s := s) (k := 26 + aN s.l) (hs.up HS (fun _ => apart_nil _)) ah37 rfl ct5 (by (try simp only [Sl.cut]); omega)) HS ?_
            refine t_take 19 rfl (by kernel_rfl) (by kernel_rfl) (by kernel_rfl) (fun _ _ _ h => h) (fun w HS => r_conv Try.underlying5 Try.underlying3 rfl (w_i64_8 _)) HS ?_
            refine t_take 20 rfl (by kernel_rfl) (by kernel_rfl) (by kernel_rfl) (fun _ _ _ h => h) (fun w HS => r_bin (a := (((s.l).getD (26 + aN s.l) 0).toNat : Int)) (b := 256) rfl rfl (fun _ => b_mul (by omega) (by omega))) HS ?_
            refine t_take 21 rfl (by kernel_rfl) (by kernel_rfl) (by kernel_rfl) (fun _ _ _ h => h) (fun w HS => r_mv) HS ?_
            refine t_take 22 rfl (by kernel_rfl) (by kernel_rfl) (by kernel_rfl) (fun _ _ _ h => h) (fun w HS => r_mv) HS ?_
            refine t_take 23 rfl (by kernel_rfl) (by kernel_rfl) (by kernel_rfl) (fun _ _ _ h => h) (fun w HS => r_bin (a := 25 + (n : Int)) (b := 2) rfl rfl (fun _ => b_add (by omega) (by omega))) HS ?_
            refine t_take 24 rfl (by kernel_rfl) (by kernel_rfl) (by kernel_rfl) (fun _ _ _ h => h) (fun w HS => r_isN (27 + aN s.l) rfl rfl el29 ah37 (by omega) (by omega)) HS ?_
            refine t_take 25 rfl (by kernel_rfl) (by kernel_rfl) (by kernel_rfl) (fun _ _ _ h => h) (fun w HS => r_ldB (s := s) (k := 27 + aN s.l) (hs.up HS (fun _ => apart_nil _)) ah37 rfl ct5 (by (try simp only [Sl.cut]); omega)) HS ?_
            refine t_take 26 rfl (by kernel_rfl) (by kernel_rfl) (by kernel_rfl) (fun _ _ _ h => h) (fun w HS => r_conv Try.underlying5 Try.underlying3 rfl (w_i64_8 _)) HS ?_
            refine t_take 27 rfl (by kernel_rfl) (by kernel_rfl) (by kernel_rfl) (fun _ _ _ h => h) (fun w HS => r_bin (a := (((s.l).getD (26 + aN s.l) 0).toNat : Int) * 256) (b := (((s.l).getD (27 + aN s.l) 0).toNat : Int)) rfl rfl (fun _ => b_add (by omega) (by omega))) HS ?_
            refine t_take 28 rfl (by kernel_rfl) (by kernel_rfl) (by kernel_rfl) (fun _ _ _ h => h) (fun w HS => r_mv) HS ?_
            refine t_take 29 rfl (by kernel_rfl) (by kernel_rfl) (by kernel_rfl) (fun _ _ _ h => h) (fun w HS => r_mv) HS ?_
            refine t_take 30 rfl (by kernel_rfl) (by kernel_rfl) (by kernel_rfl) (fun _ _ _ h => h) (fun w HS => r_bin (a := 25 + (n : Int)) (b := 3) rfl rfl (fun _ => b_add (by omega) (by omega))) HS ?_
            refine t_take 31 rfl (by kernel_rfl) (by kernel_rfl) (by kernel_rfl) (fun _ _ _ h => h) (fun w HS => r_mv) HS ?_
            refine t_take 32 rfl (by kernel_rfl) (by kernel_rfl) (by kernel_rfl) (fun _ _ _ h => h) (fun w HS => r_bin (a := 25 + (n : Int)) (b := 35) rfl rfl (fun _ => b_add (by omega) (by omega))) HS ?_
            refine t_take 33 rfl (by kernel_rfl) (by kernel_rfl) (by kernel_rfl) (fun _ _ _ h => h) (fun w HS => r_slS (s := s) (28 + aN s.l) (60 + aN s.l) s.cap (lv := some (VI ((25 + (n : Int)) + 3))) (hv := some (VI ((25 + (n : Int)) + 35))) (mv := none) rfl el29 rfl rfl rfl (fun w => by exact sblh (28 + aN s.l) (60 + aN s.l) (by omega) (by omega) (by omega) (by omega) w)) HS ?_
            refine t_take 34 rfl (by kernel_rfl) (by kernel_rfl) (by kernel_rfl) (fun _ _ _ h => h) (fun w HS => r_sap Try.underlying31 rfl (by (try simp only [Sl.cut]); omega)) HS ?_
            have ah40 := (((hs.up HS (fun _ => apart_nil _)).cut (l := 28 + aN s.l) (h := 60 + aN s.l) (m := s.cap) (by omega) (by omega) (by omega) (by omega))).addr (by (try simp only [Sl.cut]); omega)
            obtain ⟨ab38, ao39, ah40⟩ := ah40
            refine t_take 35 rfl (by kernel_rfl) (by kernel_rfl) (by kernel_rfl) (fun _ _ _ h => h) (fun w HS => r_ldSE (s := Sl.cut s (28 + aN s.l) (60 + aN s.l) s.cap) (k := 32) ((hs.up HS (fun _ => apart_nil _)).cut (l := 28 + aN s.l) (h := 60 + aN s.l) (m := s.cap) (by omega) (by omega) (by omega) (by omega)) ah40 rfl rt31 (by decide) (by show 60 + aN s.l - (28 + aN s.l) = 32; omega)) HS ?_
            refine t_take 36 rfl (by kernel_rfl) (by kernel_rfl) (by kernel_rfl) (fun _ _ _ h => h) (fun w HS => r_bldT (pv := [(0, VI ((num s.l 0 8).toNat : Int)), (1, VI ((num s.l 8 8).toNat : Int)), (2, V64 (num (s.l) 16 8)), (3, .string ⟨((s.l.drop 25).take (25 + aN s.l - 25)).toArray⟩), (4, VI (((s.l).getD (25 + aN s.l) 0).toNat : Int)), (5, VI (((((s.l).getD (26 + aN s.l) 0).toNat : Int) * 256) + (((s.l).getD (27 + aN s.l) 0).toNat : Int))), (6, .agg (((s.l.drop (28 + aN s.l)).take (60 + aN s.l - (28 + aN s.l))).map V8).toArray)]) (pre := [VI ((num s.l 0 8).toNat : Int), VI ((num s.l 8 8).toNat : Int), V64 (num (s.l) 16 8), .string ⟨((s.l.drop 25).take (25 + aN s.l - 25)).toArray⟩, VI (((s.l).getD (25 + aN s.l) 0).toNat : Int), VI (((((s.l).getD (26 + aN s.l) 0).toNat : Int) * 256) + (((s.l).getD (27 + aN s.l) 0).toNat : Int))]) (l := (s.l.drop (28 + aN s.l)).take (60 + aN s.l - (28 + aN s.l))) bd95 rfl rfl rfl rfl rfl rfl rfl (show ((s.l.drop (28 + aN s.l)).take (60 + aN s.l - (28 + aN s.l))).length = 32 from (by rw [List.length_take, List.length_drop]; omega))) HS ?_
            refine t_step 37 rfl (by kernel_rfl) (o_alloc H zc95 (fun b41 w H hb41 => ?_))
            replace H : Hp _ w _ ([_, .blk b41 ([VI 0, VI 0, V64 (0 : UInt64), .string ⟨(([] : List UInt8)).toArray⟩, VI 0, VI 0] ++ (List.replicate 32 (0 : UInt8)).map V8) 95]) := H
            refine ⟨H.sub (.cons_cons _ (List.nil_sublist _)), ?_⟩
            replace HS := H.sub (.cons_cons _ (List.nil_sublist _))
            refine t_step 38 rfl (by kernel_rfl) (o_stW (C' := [VI ((num s.l 0 8).toNat : Int), VI ((num s.l 8 8).toNat : Int), V64 (num (s.l) 16 8), .string ⟨((s.l.drop 25).take (25 + aN s.l - 25)).toArray⟩, VI (((s.l).getD (25 + aN s.l) 0).toNat : Int), VI (((((s.l).getD (26 + aN s.l) 0).toNat : Int) * 256) + (((s.l).getD (27 + aN s.l) 0).toNat : Int))] ++ ((s.l.drop (28 + aN s.l)).take (60 + aN s.l - (28 + aN s.l))).map V8) H (i := 1) rfl rfl rfl cs95 (all_tail (by simp [Value.oneCell'])) (by rw [List.length_append, List.length_map, (show (List.replicate 32 (0 : UInt8)).length = 32 from (List.length_replicate ..))]; rfl) (by rw [List.length_append, List.length_map, (show ((s.l.drop (28 + aN s.l)).take (60 + aN s.l - (28 + aN s.l))).length = 32 from (by rw [List.length_take, List.length_drop]; omega))]; rfl) (fun w H => ?_))
            replace H : Hp _ w _ ([_, .blk b41 ([VI ((num s.l 0 8).toNat : Int), VI ((num s.l 8 8).toNat : Int), V64 (num (s.l) 16 8), .string ⟨((s.l.drop 25).take (25 + aN s.l - 25)).toArray⟩, VI (((s.l).getD (25 + aN s.l) 0).toNat : Int), VI (((((s.l).getD (26 + aN s.l) 0).toNat : Int) * 256) + (((s.l).getD (27 + aN s.l) 0).toNat : Int))] ++ ((s.l.drop (28 + aN s.l)).take (60 + aN s.l - (28 + aN s.l))).map V8) 95]) := H
            refine ⟨H.sub (.cons_cons _ (List.nil_sublist _)), ?_⟩
            replace HS := H.sub (.cons_cons _ (List.nil_sublist _))
            refine t_done (by kernel_rfl) ?_
            clear HS
            repeat refine c_seq ?_
            refine c_region ?_
            refine l_op (o_val (r_ldA (C := [VI ((num s.l 0 8).toNat : Int), VI ((num s.l 8 8).toNat : Int), V64 (num (s.l) 16 8), .string ⟨((s.l.drop 25).take (25 + aN s.l - 25)).toArray⟩, VI (((s.l).getD (25 + aN s.l) 0).toNat : Int), VI (((((s.l).getD (26 + aN s.l) 0).toNat : Int) * 256) + (((s.l).getD (27 + aN s.l) 0).toNat : Int))] ++ ((s.l.drop (28 + aN s.l)).take (60 + aN s.l - (28 + aN s.l))).map V8) H (i := 1) rfl rfl rt95 (by rw [List.length_append, List.length_map, (show ((s.l.drop (28 + aN s.l)).take (60 + aN s.l - (28 + aN s.l))).length = 32 from (by rw [List.length_take, List.length_drop]; omega))]; rfl)) ?_)
            refine l_op (o_val (r_mv) ?_)
            refine l_op (o_val (r_bin (a := 25 + (n : Int)) (b := 35) rfl rfl (fun _ => b_add (by omega) (by omega))) ?_)
            refine l_op (o_stW (C' := [VI ((num s.l 0 8).toNat : Int), VI ((num s.l 8 8).toNat : Int), V64 (num (s.l) 16 8), .string ⟨((s.l.drop 25).take (25 + aN s.l - 25)).toArray⟩, VI (((s.l).getD (25 + aN s.l) 0).toNat : Int), VI (((((s.l).getD (26 + aN s.l) 0).toNat : Int) * 256) + (((s.l).getD (27 + aN s.l) 0).toNat : Int))] ++ ((s.l.drop (28 + aN s.l)).take (60 + aN s.l - (28 + aN s.l))).map V8) H (i := 0) rfl rfl rfl cs95 (all_tail (by simp [Value.oneCell'])) (by rw [List.length_append, List.length_map, (show (List.replicate 32 (0 : UInt8)).length = 32 from (List.length_replicate ..))]; rfl) (by rw [List.length_append, List.length_map, (show ((s.l.drop (28 + aN s.l)).take (60 + aN s.l - (28 + aN s.l))).length = 32 from (by rw [List.length_take, List.length_drop]; omega))]; rfl) (fun w H => ?_))
            replace H : Hp _ w _ ([.blk b1 ([VI ((num s.l 0 8).toNat : Int), VI ((num s.l 8 8).toNat : Int), V64 (num (s.l) 16 8), .string ⟨((s.l.drop 25).take (25 + aN s.l - 25)).toArray⟩, VI (((s.l).getD (25 + aN s.l) 0).toNat : Int), VI (((((s.l).getD (26 + aN s.l) 0).toNat : Int) * 256) + (((s.l).getD (27 + aN s.l) 0).toNat : Int))] ++ ((s.l.drop (28 + aN s.l)).take (60 + aN s.l - (28 + aN s.l))).map V8) 95, _]) := H
            refine l_op (o_val (r_as) ?_)
            refine l_op (o_val (r_as) ?_)
            first | refine l_end ?_ | refine l_nil ?_
            refine c_ret ?_
            try dsimp only [Exit.then, Exit.inBlock]
            refine e_retN (vs := [.agg ([VI ((num s.l 0 8).toNat : Int), VI ((num s.l 8 8).toNat : Int), V64 (num (s.l) 16 8), .string ⟨((s.l.drop 25).take (25 + aN s.l - 25)).toArray⟩, VI (((s.l).getD (25 + aN s.l) 0).toNat : Int), VI (((((s.l).getD (26 + aN s.l) 0).toNat : Int) * 256) + (((s.l).getD (27 + aN s.l) 0).toNat : Int))] ++ ((s.l.drop (28 + aN s.l)).take (60 + aN s.l - (28 + aN s.l))).map V8).toArray, VI ((25 + (n : Int)) + 35), VI 0]) _ Try.results92 rfl (H.resR (C := [VI ((num s.l 0 8).toNat : Int), VI ((num s.l 8 8).toNat : Int), V64 (num (s.l) 16 8), .string ⟨((s.l.drop 25).take (25 + aN s.l - 25)).toArray⟩, VI (((s.l).getD (25 + aN s.l) 0).toNat : Int), VI (((((s.l).getD (26 + aN s.l) 0).toNat : Int) * 256) + (((s.l).getD (27 + aN s.l) 0).toNat : Int))] ++ ((s.l.drop (28 + aN s.l)).take (60 + aN s.l - (28 + aN s.l))).map V8) (i := 0) rfl rfl rt95 (by rw [List.length_append, List.length_map, (show ((s.l.drop (28 + aN s.l)).take (60 + aN s.l - (28 + aN s.l))).length = 32 from (by rw [List.length_take, List.length_drop]; omega))]; rfl) (resT (v := VI ((25 + (n : Int)) + 35)) rfl (resT (v := VI 0) rfl (resZ)))) ?_
            refine ⟨_, rfl, ?_⟩
            have hbad : ¬ badE s.l := by unfold badE; omega
            have hc : takeC s.l = 0 := (takeC_ok _).2 ⟨hbad, by omega, by omega⟩
            refine ⟨?_, H.sub (List.nil_sublist _)⟩
            rw [takeE, takeN, hc, if_pos rfl, if_pos rfl]
            have e1 : (⟨((num s.l 0 8).toNat : Int), ((num s.l 8 8).toNat : Int), num (s.l) 16 8, (s.l.drop 25).take (25 + aN s.l - 25), (((s.l).getD (25 + aN s.l) 0).toNat : Int), ((((s.l).getD (26 + aN s.l) 0).toNat : Int) * 256) + (((s.l).getD (27 + aN s.l) 0).toNat : Int), (s.l.drop (28 + aN s.l)).take (60 + aN s.l - (28 + aN s.l))⟩ : Ent) = entAt s.l := by
              rw [entAt]
              first | rfl | (congr 1 <;> first | rfl | omega | (congr 1; omega) | (congr 1 <;> congr 1 <;> omega))
            have e2 : ((25 + (n : Int)) + 35 : Int) = ((60 + aN s.l : Nat) : Int) := by omega
            rw [← e1, e2]
            rfl
         ·
          repeat refine c_seq ?_
          refine c_no (by exact congrArg Value.bool (decide_eq_false hc29)) ?_
          refine c_skip ?_
          repeat refine c_seq ?_
          refine c_region ?_
          refine l_op (o_val (r_mv) ?_)
          refine l_op (o_val (r_bin (a := (i : Int)) (b := 1) rfl rfl (fun _ => b_add (by omega) (by omega))) ?_)
          refine l_op (o_val (r_as) ?_)
          first | refine l_end ?_ | refine l_nil ?_
          refine round_end (i + 1, n) ?_ ?_ ?_
          · exact ⟨rfl, rfl, show VI (n : Int) = VI ((n : Nat) : Int) from congrArg VI (by omega), show VI ((i : Int) + 1) = VI ((i + 1 : Nat) : Int) from congrArg VI (by omega), trivial⟩
          · refine ⟨?_, ?_⟩
            · try dsimp only
              exact ⟨by omega, by omega, by omega, by omega, by omega, by omega, by omega⟩
            · exact H
          · show s.len - (i + 1 : Nat) < s.len - i; omega
        ·
         refine l_no rfl rfl (by exact congrArg Value.bool (decide_eq_false hc28)) rfl ?_
         refine l_no rfl rfl (by exact congrArg Value.bool (decide_eq_false hc28)) rfl ?_
         refine l_no rfl rfl (by exact congrArg Value.bool (decide_eq_false hc28)) rfl ?_
         refine l_no rfl rfl (by exact congrArg Value.bool (decide_eq_false hc28)) rfl ?_
         refine l_op (o_val (r_pick (b := false) (congrArg Value.bool (decide_eq_false hc28))) ?_)
         first | refine l_end ?_ | refine l_nil ?_
         repeat refine c_seq ?_
         refine c_no rfl ?_
         refine c_skip ?_
         repeat refine c_seq ?_
         refine c_region ?_
         refine l_op (o_val (r_mv) ?_)
         refine l_op (o_val (r_bin (a := (i : Int)) (b := 1) rfl rfl (fun _ => b_add (by omega) (by omega))) ?_)
         refine l_op (o_val (r_as) ?_)
         first | refine l_end ?_ | refine l_nil ?_
         refine round_end (i + 1, n) ?_ ?_ ?_
         · exact ⟨rfl, rfl, show VI (n : Int) = VI ((n : Nat) : Int) from congrArg VI (by omega), show VI ((i : Int) + 1) = VI ((i + 1 : Nat) : Int) from congrArg VI (by omega), trivial⟩
         · refine ⟨?_, ?_⟩
           · try dsimp only
             exact ⟨by omega, by omega, by omega, by omega, by omega, by omega, by omega⟩
           · exact H
         · show s.len - (i + 1 : Nat) < s.len - i; omega
  ·
   repeat refine c_seq ?_
   refine c_no (by exact congrArg Value.bool (decide_eq_false hc2)) ?_
   refine c_exit ?_
   repeat refine c_seq ?_
   refine c_region ?_
   refine l_op (o_val (r_mv) ?_)
   refine l_op (o_val (r_lens el29 rfl) ?_)
   refine l_op (o_val (r_bin (a := (s.len : Int)) (b := 25) rfl rfl (fun _ => b_lss)) ?_)
   refine l_op (o_val (r_mv) ?_)
   by_cases hc42 : (s.len : Int) < 25
   ·
    refine l_no rfl rfl (by exact congrArg Value.bool (decide_eq_true hc42)) rfl ?_
    refine l_no rfl rfl (by exact congrArg Value.bool (decide_eq_true hc42)) rfl ?_
    refine l_no rfl rfl (by exact congrArg Value.bool (decide_eq_true hc42)) rfl ?_
    refine l_no rfl rfl (by exact congrArg Value.bool (decide_eq_true hc42)) rfl ?_
    refine l_no rfl rfl (by exact congrArg Value.bool (decide_eq_true hc42)) rfl ?_
    refine l_op (o_val (r_pick (b := true) (congrArg Value.bool (decide_eq_true hc42))) ?_)
    first | refine l_end ?_ | refine l_nil ?_
    repeat refine c_seq ?_
    refine c_yes rfl ?_
    repeat refine c_seq ?_
    refine c_region ?_
    refine l_op (o_val (r_bld' (cells := ([VI 0, VI 0, V64 (0 : UInt64), .string ⟨(([] : List UInt8)).toArray⟩, VI 0, VI 0] ++ (List.replicate 32 (0 : UInt8)).map V8).toArray) (pv := []) bd95 rfl rfl) ?_)
    refine l_op (o_stW (C' := [VI 0, VI 0, V64 (0 : UInt64), .string ⟨(([] : List UInt8)).toArray⟩, VI 0, VI 0] ++ (List.replicate 32 (0 : UInt8)).map V8) H (i := 0) rfl rfl rfl cs95 (by simp [Value.oneCell']) (by rw [List.length_append, List.length_map, (show (List.replicate 32 (0 : UInt8)).length = 32 from (List.length_replicate ..))]; rfl) (by rw [List.length_append, List.length_map, (show (List.replicate 32 (0 : UInt8)).length = 32 from (List.length_replicate ..))]; rfl) (fun w H => ?_))
    replace H : Hp _ w _ [_] := H
    refine l_op (o_val (r_as) ?_)
    refine l_op (o_val (r_as) ?_)
    first | refine l_end ?_ | refine l_nil ?_
    refine c_ret ?_
    try dsimp only [Exit.then, Exit.inBlock]
    refine e_retN (vs := [.agg ([VI 0, VI 0, V64 (0 : UInt64), .string ⟨(([] : List UInt8)).toArray⟩, VI 0, VI 0] ++ (List.replicate 32 (0 : UInt8)).map V8).toArray, VI 0, VI 3]) _ Try.results92 rfl (H.resR (C := [VI 0, VI 0, V64 (0 : UInt64), .string ⟨(([] : List UInt8)).toArray⟩, VI 0, VI 0] ++ (List.replicate 32 (0 : UInt8)).map V8) (i := 0) rfl rfl rt95 (by rw [List.length_append, List.length_map, (show (List.replicate 32 (0 : UInt8)).length = 32 from (List.length_replicate ..))]; rfl) (resT (v := VI 0) rfl (resT (v := VI 3) rfl (resZ)))) ?_
    refine ⟨_, rfl, ?_⟩
    have hbad : ¬ badE s.l := by unfold badE; omega
    have hc : takeC s.l = 3 := by unfold takeC; rw [if_neg hbad, if_pos (by omega)]
    refine ⟨?_, H.sub (List.nil_sublist _)⟩
    rw [takeE, takeN, hc]
    rfl
   ·
    refine l_yes rfl rfl (by exact congrArg Value.bool (decide_eq_false hc42)) (o_val (r_mv) ?_)
    refine l_yes rfl rfl (by exact congrArg Value.bool (decide_eq_false hc42)) (o_val (r_lens el29 rfl) ?_)
    refine l_yes rfl rfl (by exact congrArg Value.bool (decide_eq_false hc42)) (o_val (r_mv) ?_)
    refine l_yes rfl rfl (by exact congrArg Value.bool (decide_eq_false hc42)) (o_val (r_bin (a := 60) (b := (n : Int)) rfl rfl (fun _ => b_add (by omega) (by omega))) ?_)
    refine l_yes rfl rfl (by exact congrArg Value.bool (decide_eq_false hc42)) (o_val (r_bin (a := (s.len : Int)) (b := 60 + (n : Int)) rfl rfl (fun _ => b_lss)) ?_)
    refine l_op (o_val (r_pick (b := false) (congrArg Value.bool (decide_eq_false hc42))) ?_)
    first | refine l_end ?_ | refine l_nil ?_
    by_cases hc43 : (s.len : Int) < 60 + (n : Int)
    ·
     repeat refine c_seq ?_
     refine c_yes (by exact congrArg Value.bool (decide_eq_true hc43)) ?_
     repeat refine c_seq ?_
     refine c_region ?_
     refine l_op (o_val (r_bld' (cells := ([VI 0, VI 0, V64 (0 : UInt64), .string ⟨(([] : List UInt8)).toArray⟩, VI 0, VI 0] ++ (List.replicate 32 (0 : UInt8)).map V8).toArray) (pv := []) bd95 rfl rfl) ?_)
     refine l_op (o_stW (C' := [VI 0, VI 0, V64 (0 : UInt64), .string ⟨(([] : List UInt8)).toArray⟩, VI 0, VI 0] ++ (List.replicate 32 (0 : UInt8)).map V8) H (i := 0) rfl rfl rfl cs95 (by simp [Value.oneCell']) (by rw [List.length_append, List.length_map, (show (List.replicate 32 (0 : UInt8)).length = 32 from (List.length_replicate ..))]; rfl) (by rw [List.length_append, List.length_map, (show (List.replicate 32 (0 : UInt8)).length = 32 from (List.length_replicate ..))]; rfl) (fun w H => ?_))
     replace H : Hp _ w _ [_] := H
     refine l_op (o_val (r_as) ?_)
     refine l_op (o_val (r_as) ?_)
     first | refine l_end ?_ | refine l_nil ?_
     refine c_ret ?_
     try dsimp only [Exit.then, Exit.inBlock]
     refine e_retN (vs := [.agg ([VI 0, VI 0, V64 (0 : UInt64), .string ⟨(([] : List UInt8)).toArray⟩, VI 0, VI 0] ++ (List.replicate 32 (0 : UInt8)).map V8).toArray, VI 0, VI 3]) _ Try.results92 rfl (H.resR (C := [VI 0, VI 0, V64 (0 : UInt64), .string ⟨(([] : List UInt8)).toArray⟩, VI 0, VI 0] ++ (List.replicate 32 (0 : UInt8)).map V8) (i := 0) rfl rfl rt95 (by rw [List.length_append, List.length_map, (show (List.replicate 32 (0 : UInt8)).length = 32 from (List.length_replicate ..))]; rfl) (resT (v := VI 0) rfl (resT (v := VI 3) rfl (resZ)))) ?_
     refine ⟨_, rfl, ?_⟩
     have hbad : ¬ badE s.l := by unfold badE; omega
     have hc : takeC s.l = 3 := by unfold takeC; rw [if_neg hbad, if_pos (by omega)]
     refine ⟨?_, H.sub (List.nil_sublist _)⟩
     rw [takeE, takeN, hc]
     rfl
    ·
     repeat refine c_seq ?_
     refine c_no (by exact congrArg Value.bool (decide_eq_false hc43)) ?_
     refine c_skip ?_
     repeat refine c_seq ?_
     refine c_region ?_
     refine l_op (o_val (r_mv) ?_)
     have hk44 : (0 + 8 ≤ s.len) := by omega
     refine l_op (o_callR Try.func114 rfl rfl rfl (at1_ok _ s (hs.up H (fun _ => apart_nil _)) 0 8 (by omega) (by omega) (by omega) (by (try dsimp only); omega)) ?_)
     rintro _ w ⟨rfl, Hc⟩
     replace H : Hp _ w _ ([_]) := H.call Hc
     clear Hc
     refine l_op (o_val (r_mv) ?_)
     refine l_op (o_val (r_ext rfl rfl) ?_)
     refine l_op (o_val (r_ext rfl rfl) ?_)
     refine l_op (o_val (r_as) ?_)
     refine l_op (o_val (r_as) ?_)
     first | refine l_end ?_ | refine l_nil ?_
     repeat refine c_seq ?_
     refine c_region ?_
     refine l_op (o_val (r_mv) ?_)
     have hk45 : (8 + 8 ≤ s.len) := by omega
     refine l_op (o_callR Try.func114 rfl rfl rfl (at1_ok _ s (hs.up H (fun _ => apart_nil _)) 8 8 (by omega) (by omega) (by omega) (by (try dsimp only); omega)) ?_)
     rintro _ w ⟨rfl, Hc⟩
     replace H : Hp _ w _ ([_]) := H.call Hc
     clear Hc
     refine l_op (o_val (r_mv) ?_)
     refine l_op (o_val (r_ext rfl rfl) ?_)
     refine l_op (o_val (r_ext rfl rfl) ?_)
     refine l_op (o_val (r_as) ?_)
     refine l_op (o_val (r_as) ?_)
     first | refine l_end ?_ | refine l_nil ?_
     repeat refine c_seq ?_
     refine c_region ?_
     refine l_op (o_val (r_mv) ?_)
     have hk46 : (16 + 8 ≤ s.len) := by omega
     refine l_op (o_callR Try.func114 rfl rfl rfl (at1_ok _ s (hs.up H (fun _ => apart_nil _)) 16 8 (by omega) (by omega) (by omega) (by (try dsimp only); omega)) ?_)
     rintro _ w ⟨rfl, Hc⟩
     replace H : Hp _ w _ ([_]) := H.call Hc
     clear Hc
     refine l_op (o_val (r_mv) ?_)
     refine l_op (o_val (r_ext rfl rfl) ?_)
     refine l_op (o_val (r_ext rfl rfl) ?_)
     refine l_op (o_val (r_as) ?_)
     refine l_op (o_val (r_as) ?_)
     first | refine l_end ?_ | refine l_nil ?_
     repeat refine c_seq ?_
     refine c_region ?_
     refine l_op (o_val (r_mv) ?_)
     refine l_op (o_val (r_bin (a := 25) (b := (n : Int)) rfl rfl (fun _ => b_add (by omega) (by omega))) ?_)
     refine l_op (o_val (r_as) ?_)
     first | refine l_end ?_ | refine l_nil ?_
     have hbd := (show ¬ badE s.l by unfold badE; omega)
     unfold badE at hbd
     have k0 := num_small s.l 0 (by omega) (by omega)
     have k8 := num_small s.l 8 (by omega) (by omega)
     repeat refine c_seq ?_
     refine wp_held (fun w => Hp w0 w [] [.blk b1 ([VI 0, VI 0, V64 (0 : UInt64), .string ⟨(([] : List UInt8)).toArray⟩, VI 0, VI 0] ++ (List.replicate 32 (0 : UInt8)).map V8) 95]) mixed ?_
     replace H := H.drew
     have HS := H
     refine t_take 0 rfl (by kernel_rfl) (by kernel_rfl) (by kernel_rfl) (fun _ _ _ h => h) (fun w HS => r_mv) HS ?_
     refine t_take 1 rfl (by kernel_rfl) (by kernel_rfl) (by kernel_rfl) (fun _ _ _ h => h) (fun w HS => r_conv Try.underlying35 Try.underlying2 rfl (w_i64_64 (by omega))) HS ?_
     refine t_take 2 rfl (by kernel_rfl) (by kernel_rfl) (by kernel_rfl) (fun _ _ _ h => h) (fun w HS => r_mv) HS ?_
     refine t_take 3 rfl (by kernel_rfl) (by kernel_rfl) (by kernel_rfl) (fun _ _ _ h => h) (fun w HS => r_conv Try.underlying35 Try.underlying2 rfl (w_i64_64 (by omega))) HS ?_
     refine t_take 4 rfl (by kernel_rfl) (by kernel_rfl) (by kernel_rfl) (fun _ _ _ h => h) (fun w HS => r_mv) HS ?_
     refine t_take 5 rfl (by kernel_rfl) (by kernel_rfl) (by kernel_rfl) (fun _ _ _ h => h) (fun w HS => r_mv) HS ?_
     refine t_take 6 rfl (by kernel_rfl) (by kernel_rfl) (by kernel_rfl) (fun _ _ _ h => h) (fun w HS => r_mv) HS ?_
     refine t_take 7 rfl (by kernel_rfl) (by kernel_rfl) (by kernel_rfl) (fun _ _ _ h => h) (fun w HS => r_slS (s := s) 25 (25 + aN s.l) s.cap (lv := some (VI 25)) (hv := some (VI (25 + (n : Int)))) (mv := none) rfl el29 rfl rfl rfl (fun w => by exact sblh 25 (25 + aN s.l) (by omega) (by omega) (by omega) (by omega) w)) HS ?_
     refine t_take 8 rfl (by kernel_rfl) (by kernel_rfl) (by kernel_rfl) (fun _ _ _ h => h) (fun w HS => r_b2S (s := (Sl.cut s 25 (25 + aN s.l) s.cap)) Try.underlying29 Try.underlying5 Try.underlying9 rfl ((hs.up HS (fun _ => apart_nil _)).cut (l := 25) (h := 25 + aN s.l) (m := s.cap) (by omega) (by omega) (by omega) (by omega))) HS ?_
     refine t_take 9 rfl (by kernel_rfl) (by kernel_rfl) (by kernel_rfl) (fun _ _ _ h => h) (fun w HS => r_mv) HS ?_
     refine t_take 10 rfl (by kernel_rfl) (by kernel_rfl) (by kernel_rfl) (fun _ _ _ h => h) (fun w HS => r_mv) HS ?_
     have ah49 := ((hs.up HS (fun _ => apart_nil _))).addr (by (try simp only [Sl.cut]); omega)
     obtain ⟨ab47, ao48, ah49⟩ := ah49
     refine t_take 11 rfl (by kernel_rfl) (by kernel_rfl) (by kernel_rfl) (fun _ _ _ h => h) (fun w HS => r_isN (25 + aN s.l) rfl rfl el29 ah49 (by omega) (by omega)) HS ?_
     refine t_take 12 rfl (by kernel_rfl) (by kernel_rfl) (by kernel_rfl) (fun _ _ _ h => h) (fun w HS => r_ldB (s := s) (k := 25 + aN s.l) (hs.up HS (fun _ => apart_nil _)) ah49 rfl ct5 (by (try simp only [Sl.cut]); omega)) HS ?_
     refine t_take 13 rfl (by kernel_rfl) (by kernel_rfl) (by kernel_rfl) (fun _ _ _ h => h) (fun w HS => r_conv Try.underlying5 Try.underlying3 rfl (w_i64_8 _)) HS ?_
     refine t_take 14 rfl (by kernel_rfl) (by kernel_rfl) (by kernel_rfl) (fun _ _ _ h => h) (fun w HS => r_mv) HS ?_
     refine t_take 15 rfl (by kernel_rfl) (by kernel_rfl) (by kernel_rfl) (fun _ _ _ h => h) (fun w HS => r_mv) HS ?_
     refine t_take 16 rfl (by kernel_rfl) (by kernel_rfl) (by kernel_rfl) (fun _ _ _ h => h) (fun w HS => r_bin (a := 25 + (n : Int)) (b := 1) rfl rfl (fun _ => b_add (by omega) (by omega))) HS ?_
     refine t_take 17 rfl (by kernel_rfl) (by kernel_rfl) (by kernel_rfl) (fun _ _ _ h => h) (fun w HS => r_isN (26 + aN s.l) rfl rfl el29 ah49 (by omega) (by omega)) HS ?_
     refine t_take 18 rfl (by kernel_rfl) (by kernel_rfl) (by kernel_rfl) (fun _ _ _ h => h) (fun w HS => r_ldB (s := s) (k := 26 + aN s.l) (hs.up HS (fun _ => apart_nil _)) ah49 rfl ct5 (by (try simp only [Sl.cut]); omega)) HS ?_
     refine t_take 19 rfl (by kernel_rfl) (by kernel_rfl) (by kernel_rfl) (fun _ _ _ h => h) (fun w HS => r_conv Try.underlying5 Try.underlying3 rfl (w_i64_8 _)) HS ?_
     refine t_take 20 rfl (by kernel_rfl) (by kernel_rfl) (by kernel_rfl) (fun _ _ _ h => h) (fun w HS => r_bin (a := (((s.l).getD (26 + aN s.l) 0).toNat : Int)) (b := 256) rfl rfl (fun _ => b_mul (by omega) (by omega))) HS ?_
     refine t_take 21 rfl (by kernel_rfl) (by kernel_rfl) (by kernel_rfl) (fun _ _ _ h => h) (fun w HS => r_mv) HS ?_
     refine t_take 22 rfl (by kernel_rfl) (by kernel_rfl) (by kernel_rfl) (fun _ _ _ h => h) (fun w HS => r_mv) HS ?_
     refine t_take 23 rfl (by kernel_rfl) (by kernel_rfl) (by kernel_rfl) (fun _ _ _ h => h) (fun w HS => r_bin (a := 25 + (n : Int)) (b := 2) rfl rfl (fun _ => b_add (by omega) (by omega))) HS ?_
     refine t_take 24 rfl (by kernel_rfl) (by kernel_rfl) (by kernel_rfl) (fun _ _ _ h => h) (fun w HS => r_isN (27 + aN s.l) rfl rfl el29 ah49 (by omega) (by omega)) HS ?_
     refine t_take 25 rfl (by kernel_rfl) (by kernel_rfl) (by kernel_rfl) (fun _ _ _ h => h) (fun w HS => r_ldB (s := s) (k := 27 + aN s.l) (hs.up HS (fun _ => apart_nil _)) ah49 rfl ct5 (by (try simp only [Sl.cut]); omega)) HS ?_
     refine t_take 26 rfl (by kernel_rfl) (by kernel_rfl) (by kernel_rfl) (fun _ _ _ h => h) (fun w HS => r_conv Try.underlying5 Try.underlying3 rfl (w_i64_8 _)) HS ?_
     refine t_take 27 rfl (by kernel_rfl) (by kernel_rfl) (by kernel_rfl) (fun _ _ _ h => h) (fun w HS => r_bin (a := (((s.l).getD (26 + aN s.l) 0).toNat : Int) * 256) (b := (((s.l).getD (27 + aN s.l) 0).toNat : Int)) rfl rfl (fun _ => b_add (by omega) (by omega))) HS ?_
     refine t_take 28 rfl (by kernel_rfl) (by kernel_rfl) (by kernel_rfl) (fun _ _ _ h => h) (fun w HS => r_mv) HS ?_
     refine t_take 29 rfl (by kernel_rfl) (by kernel_rfl) (by kernel_rfl) (fun _ _ _ h => h) (fun w HS => r_mv) HS ?_
     refine t_take 30 rfl (by kernel_rfl) (by kernel_rfl) (by kernel_rfl) (fun _ _ _ h => h) (fun w HS => r_bin (a := 25 + (n : Int)) (b := 3) rfl rfl (fun _ => b_add (by omega) (by omega))) HS ?_
     refine t_take 31 rfl (by kernel_rfl) (by kernel_rfl) (by kernel_rfl) (fun _ _ _ h => h) (fun w HS => r_mv) HS ?_
     refine t_take 32 rfl (by kernel_rfl) (by kernel_rfl) (by kernel_rfl) (fun _ _ _ h => h) (fun w HS => r_bin (a := 25 + (n : Int)) (b := 35) rfl rfl (fun _ => b_add (by omega) (by omega))) HS ?_
     refine t_take 33 rfl (by kernel_rfl) (by kernel_rfl) (by kernel_rfl) (fun _ _ _ h => h) (fun w HS => r_slS (s := s) (28 + aN s.l) (60 + aN s.l) s.cap (lv := some (VI ((25 + (n : Int)) + 3))) (hv := some (VI ((25 + (n : Int)) + 35))) (mv := none) rfl el29 rfl rfl rfl (fun w => by exact sblh (28 + aN s.l) (60 + aN s.l) (by omega) (by omega) (by omega) (by omega) w)) HS ?_
     refine t_take 34 rfl (by kernel_rfl) (by kernel_rfl) (by kernel_rfl) (fun _ _ _ h => h) (fun w HS => r_sap Try.underlying31 rfl (by (try simp only [Sl.cut]); omega)) HS ?_
     have ah52 := (((hs.up HS (fun _ => apart_nil _)).cut (l := 28 + aN s.l) (h := 60 + aN s.l) (m := s.cap) (by omega) (by omega) (by omega) (by omega))).addr (by (try simp only [Sl.cut]); omega)
     obtain ⟨ab50, ao51, ah52⟩ := ah52
     refine t_take 35 rfl (by kernel_rfl) (by kernel_rfl) (by kernel_rfl) (fun _ _ _ h => h) (fun w HS => r_ldSE (s := Sl.cut s (28 + aN s.l) (60 + aN s.l) s.cap) (k := 32) ((hs.up HS (fun _ => apart_nil _)).cut (l := 28 + aN s.l) (h := 60 + aN s.l) (m := s.cap) (by omega) (by omega) (by omega) (by omega)) ah52 rfl rt31 (by decide) (by show 60 + aN s.l - (28 + aN s.l) = 32; omega)) HS ?_
     refine t_take 36 rfl (by kernel_rfl) (by kernel_rfl) (by kernel_rfl) (fun _ _ _ h => h) (fun w HS => r_bldT (pv := [(0, VI ((num s.l 0 8).toNat : Int)), (1, VI ((num s.l 8 8).toNat : Int)), (2, V64 (num (s.l) 16 8)), (3, .string ⟨((s.l.drop 25).take (25 + aN s.l - 25)).toArray⟩), (4, VI (((s.l).getD (25 + aN s.l) 0).toNat : Int)), (5, VI (((((s.l).getD (26 + aN s.l) 0).toNat : Int) * 256) + (((s.l).getD (27 + aN s.l) 0).toNat : Int))), (6, .agg (((s.l.drop (28 + aN s.l)).take (60 + aN s.l - (28 + aN s.l))).map V8).toArray)]) (pre := [VI ((num s.l 0 8).toNat : Int), VI ((num s.l 8 8).toNat : Int), V64 (num (s.l) 16 8), .string ⟨((s.l.drop 25).take (25 + aN s.l - 25)).toArray⟩, VI (((s.l).getD (25 + aN s.l) 0).toNat : Int), VI (((((s.l).getD (26 + aN s.l) 0).toNat : Int) * 256) + (((s.l).getD (27 + aN s.l) 0).toNat : Int))]) (l := (s.l.drop (28 + aN s.l)).take (60 + aN s.l - (28 + aN s.l))) bd95 rfl rfl rfl rfl rfl rfl rfl (show ((s.l.drop (28 + aN s.l)).take (60 + aN s.l - (28 + aN s.l))).length = 32 from (by rw [List.length_take, List.length_drop]; omega))) HS ?_
     refine t_step 37 rfl (by kernel_rfl) (o_alloc H zc95 (fun b53 w H hb53 => ?_))
     replace H : Hp _ w _ ([_, .blk b53 ([VI 0, VI 0, V64 (0 : UInt64), .string ⟨(([] : List UInt8)).toArray⟩, VI 0, VI 0] ++ (List.replicate 32 (0 : UInt8)).map V8) 95]) := H
     refine ⟨H.sub (.cons_cons _ (List.nil_sublist _)), ?_⟩
     replace HS := H.sub (.cons_cons _ (List.nil_sublist _))
     refine t_step 38 rfl (by kernel_rfl) (o_stW (C' := [VI ((num s.l 0 8).toNat : Int), VI ((num s.l 8 8).toNat : Int), V64 (num (s.l) 16 8), .string ⟨((s.l.drop 25).take (25 + aN s.l - 25)).toArray⟩, VI (((s.l).getD (25 + aN s.l) 0).toNat : Int), VI (((((s.l).getD (26 + aN s.l) 0).toNat : Int) * 256) + (((s.l).getD (27 + aN s.l) 0).toNat : Int))] ++ ((s.l.drop (28 + aN s.l)).take (60 + aN s.l - (28 + aN s.l))).map V8) H (i := 1) rfl rfl rfl cs95 (all_tail (by simp [Value.oneCell'])) (by rw [List.length_append, List.length_map, (show (List.replicate 32 (0 : UInt8)).length = 32 from (List.length_replicate ..))]; rfl) (by rw [List.length_append, List.length_map, (show ((s.l.drop (28 + aN s.l)).take (60 + aN s.l - (28 + aN s.l))).length = 32 from (by rw [List.length_take, List.length_drop]; omega))]; rfl) (fun w H => ?_))
     replace H : Hp _ w _ ([_, .blk b53 ([VI ((num s.l 0 8).toNat : Int), VI ((num s.l 8 8).toNat : Int), V64 (num (s.l) 16 8), .string ⟨((s.l.drop 25).take (25 + aN s.l - 25)).toArray⟩, VI (((s.l).getD (25 + aN s.l) 0).toNat : Int), VI (((((s.l).getD (26 + aN s.l) 0).toNat : Int) * 256) + (((s.l).getD (27 + aN s.l) 0).toNat : Int))] ++ ((s.l.drop (28 + aN s.l)).take (60 + aN s.l - (28 + aN s.l))).map V8) 95]) := H
     refine ⟨H.sub (.cons_cons _ (List.nil_sublist _)), ?_⟩
     replace HS := H.sub (.cons_cons _ (List.nil_sublist _))
     refine t_done (by kernel_rfl) ?_
     clear HS
     repeat refine c_seq ?_
     refine c_region ?_
     refine l_op (o_val (r_ldA (C := [VI ((num s.l 0 8).toNat : Int), VI ((num s.l 8 8).toNat : Int), V64 (num (s.l) 16 8), .string ⟨((s.l.drop 25).take (25 + aN s.l - 25)).toArray⟩, VI (((s.l).getD (25 + aN s.l) 0).toNat : Int), VI (((((s.l).getD (26 + aN s.l) 0).toNat : Int) * 256) + (((s.l).getD (27 + aN s.l) 0).toNat : Int))] ++ ((s.l.drop (28 + aN s.l)).take (60 + aN s.l - (28 + aN s.l))).map V8) H (i := 1) rfl rfl rt95 (by rw [List.length_append, List.length_map, (show ((s.l.drop (28 + aN s.l)).take (60 + aN s.l - (28 + aN s.l))).length = 32 from (by rw [List.length_take, List.length_drop]; omega))]; rfl)) ?_)
     refine l_op (o_val (r_mv) ?_)
     refine l_op (o_val (r_bin (a := 25 + (n : Int)) (b := 35) rfl rfl (fun _ => b_add (by omega) (by omega))) ?_)
     refine l_op (o_stW (C' := [VI ((num s.l 0 8).toNat : Int), VI ((num s.l 8 8).toNat : Int), V64 (num (s.l) 16 8), .string ⟨((s.l.drop 25).take (25 + aN s.l - 25)).toArray⟩, VI (((s.l).getD (25 + aN s.l) 0).toNat : Int), VI (((((s.l).getD (26 + aN s.l) 0).toNat : Int) * 256) + (((s.l).getD (27 + aN s.l) 0).toNat : Int))] ++ ((s.l.drop (28 + aN s.l)).take (60 + aN s.l - (28 + aN s.l))).map V8) H (i := 0) rfl rfl rfl cs95 (all_tail (by simp [Value.oneCell'])) (by rw [List.length_append, List.length_map, (show (List.replicate 32 (0 : UInt8)).length = 32 from (List.length_replicate ..))]; rfl) (by rw [List.length_append, List.length_map, (show ((s.l.drop (28 + aN s.l)).take (60 + aN s.l - (28 + aN s.l))).length = 32 from (by rw [List.length_take, List.length_drop]; omega))]; rfl) (fun w H => ?_))
     replace H : Hp _ w _ ([.blk b1 ([VI ((num s.l 0 8).toNat : Int), VI ((num s.l 8 8).toNat : Int), V64 (num (s.l) 16 8), .string ⟨((s.l.drop 25).take (25 + aN s.l - 25)).toArray⟩, VI (((s.l).getD (25 + aN s.l) 0).toNat : Int), VI (((((s.l).getD (26 + aN s.l) 0).toNat : Int) * 256) + (((s.l).getD (27 + aN s.l) 0).toNat : Int))] ++ ((s.l.drop (28 + aN s.l)).take (60 + aN s.l - (28 + aN s.l))).map V8) 95, _]) := H
     refine l_op (o_val (r_as) ?_)
     refine l_op (o_val (r_as) ?_)
     first | refine l_end ?_ | refine l_nil ?_
     refine c_ret ?_
     try dsimp only [Exit.then, Exit.inBlock]
     refine e_retN (vs := [.agg ([VI ((num s.l 0 8).toNat : Int), VI ((num s.l 8 8).toNat : Int), V64 (num (s.l) 16 8), .string ⟨((s.l.drop 25).take (25 + aN s.l - 25)).toArray⟩, VI (((s.l).getD (25 + aN s.l) 0).toNat : Int), VI (((((s.l).getD (26 + aN s.l) 0).toNat : Int) * 256) + (((s.l).getD (27 + aN s.l) 0).toNat : Int))] ++ ((s.l.drop (28 + aN s.l)).take (60 + aN s.l - (28 + aN s.l))).map V8).toArray, VI ((25 + (n : Int)) + 35), VI 0]) _ Try.results92 rfl (H.resR (C := [VI ((num s.l 0 8).toNat : Int), VI ((num s.l 8 8).toNat : Int), V64 (num (s.l) 16 8), .string ⟨((s.l.drop 25).take (25 + aN s.l - 25)).toArray⟩, VI (((s.l).getD (25 + aN s.l) 0).toNat : Int), VI (((((s.l).getD (26 + aN s.l) 0).toNat : Int) * 256) + (((s.l).getD (27 + aN s.l) 0).toNat : Int))] ++ ((s.l.drop (28 + aN s.l)).take (60 + aN s.l - (28 + aN s.l))).map V8) (i := 0) rfl rfl rt95 (by rw [List.length_append, List.length_map, (show ((s.l.drop (28 + aN s.l)).take (60 + aN s.l - (28 + aN s.l))).length = 32 from (by rw [List.length_take, List.length_drop]; omega))]; rfl) (resT (v := VI ((25 + (n : Int)) + 35)) rfl (resT (v := VI 0) rfl (resZ)))) ?_
     refine ⟨_, rfl, ?_⟩
     have hbad : ¬ badE s.l := by unfold badE; omega
     have hc : takeC s.l = 0 := (takeC_ok _).2 ⟨hbad, by omega, by omega⟩
     refine ⟨?_, H.sub (List.nil_sublist _)⟩
     rw [takeE, takeN, hc, if_pos rfl, if_pos rfl]
     have e1 : (⟨((num s.l 0 8).toNat : Int), ((num s.l 8 8).toNat : Int), num (s.l) 16 8, (s.l.drop 25).take (25 + aN s.l - 25), (((s.l).getD (25 + aN s.l) 0).toNat : Int), ((((s.l).getD (26 + aN s.l) 0).toNat : Int) * 256) + (((s.l).getD (27 + aN s.l) 0).toNat : Int), (s.l.drop (28 + aN s.l)).take (60 + aN s.l - (28 + aN s.l))⟩ : Ent) = entAt s.l := by
       rw [entAt]
       first | rfl | (congr 1 <;> first | rfl | omega | (congr 1; omega) | (congr 1 <;> congr 1 <;> omega))
     have e2 : ((25 + (n : Int)) + 35 : Int) = ((60 + aN s.l : Nat) : Int) := by omega
     rw [← e1, e2]
     rfl
end Go.Proofs.Ytjmbbhnpfmblpaa
namespace Go.Proofs.Ytjmbbhnpfmblpaa
open Go
set_option maxRecDepth 100000
def numbFrom : Nat → List Ent → Bool
  | _, [] => true
  | k, e :: l => decide (e.seq = (k : Int)) && numbFrom (k + 1) l
theorem numbFrom_iff : ∀ (l : List Ent) (k : Nat), numbFrom k l = true ↔ ∀ i e, l[i]? = some e → e.seq = ((k + i : Nat) : Int)
  | [], k => by simp [numbFrom]
  | e :: l, k => by
    rw [numbFrom, Bool.and_eq_true, decide_eq_true_eq, numbFrom_iff l (k + 1)]
    constructor
    · rintro ⟨h1, h2⟩ i x hx
      cases i with
      | zero => cases hx; exact h1
      | succ i => rw [h2 i x hx]; congr 1; omega
    · intro h
      refine ⟨h 0 e rfl, fun i x hx => ?_⟩
      rw [h (i + 1) x hx]; congr 1; omega
def headF (l : List Ent) : List UInt8 := l.foldl linkF Z32a
theorem headF_len (l : List Ent) : (headF l).length = 32 := by
  rcases List.eq_nil_or_concat l with rfl | ⟨l', e, rfl⟩
  · simp [headF, Z32a]
  · simp [headF, linkF_len]
theorem headF_succ (l : List Ent) (i : Nat) (e : Ent) (h : l[i]? = some e) : linkF (headF (l.take i)) e = headF (l.take (i + 1)) := by
  rw [List.take_add_one, h]; simp [headF]
def headC (l : List Ent) : Nat := if l.all mayE = true then if numbFrom 0 l = true then 0 else 10 else 1
def headV (l : List Ent) : List UInt8 := if headC l = 0 then headF l else Z32a
theorem headV_len (l : List Ent) : (headV l).length = 32 := by
  unfold headV; split
  · exact headF_len l
  · exact List.length_replicate ..
theorem headC_iff (l : List Ent) : headC l = 0 ↔ l.all mayE = true ∧ numbFrom 0 l = true := by
  unfold headC
  by_cases h1 : l.all mayE = true
  · by_cases h2 : numbFrom 0 l = true
    · simp [h1, h2]
    · simp only [if_pos h1, if_neg h2]; simp [h2]
  · simp only [if_neg h1]; simp [h1]
def expB (l : List Ent) : List UInt8 := [76, 49] ++ be l.length 8 ++ l.flatMap entB
theorem flatB_succ (l : List Ent) (i : Nat) (e : Ent) (h : l[i]? = some e) : (l.take i).flatMap entB ++ entB e = (l.take (i + 1)).flatMap entB := by rw [List.take_add_one, h]; simp
/-- a slice of entries. -/
structure EGl (g : Gl Ent) (w : World) : Prop where
  ok : g.ok entE 38 w
  bd : ∀ e ∈ g.l, e.bd
set_option maxHeartbeats 1000000 in
theorem aHead_ret (w0 : World) (g : Gl Ent) (hg : g.ok entE 38 w0) (hbl : ∀ e ∈ g.l, e.bd) (hm : g.len ≤ 65536) :
    Ret Try.prog 94 [g.v] w0 fun v w' => v = .tuple #[.agg ((headV g.l).map V8).toArray, VI ((headC g.l : Nat) : Int)] ∧ Hp w0 w' [] [] := by
  refine ret_mk Try.func94 rfl Try.ntmps94 (by simp) ?_
  have H := Hp.refl w0 []
  have hgl := hg.ln
  have hge := hg.le
  have hgx := hg.mx
  have hmL : maxLen = 9223372036854775807 := rfl
  repeat refine c_seq ?_
  refine c_region ?_
  refine l_op (o_alloc H zc31 (fun b1 w H hb1 => ?_))
  replace H : Hp _ w _ ([.blk b1 ((List.replicate 32 (0 : UInt8)).map V8) 31]) := H
  refine l_op (o_val (r_as) ?_)
  first | refine l_end ?_ | refine l_nil ?_
  repeat refine c_seq ?_
  refine c_region ?_
  refine l_op (o_val (r_mv) ?_)
  refine l_op (o_val (r_lens el97 rfl) ?_)
  refine l_op (o_val (r_mv) ?_)
  first | refine l_end ?_ | refine l_nil ?_
  repeat refine c_seq ?_
  refine c_block ?_
  repeat refine c_seq ?_
  refine c_loop (fun (i : Nat) => [(0, g.v), (2, .pointer (some ⟨b1, 0, none⟩)), (9, g.v), (10, VI (g.len : Int)), (11, VI (i : Int))])
    (fun (i : Nat) w => (i ≤ g.len ∧ ∀ (j : Nat) (x : Ent), j < i → g.l[j]? = some x → mayE x = true) ∧ Hp w0 w [] ([.blk b1 ((List.replicate 32 (0 : UInt8)).map V8) 31]))
    (fun (i : Nat) => g.len - i) 0 ⟨rfl, rfl, rfl, rfl, rfl, trivial⟩ ⟨⟨Nat.zero_le _, fun j x hj => absurd hj (by omega)⟩, H⟩ ?_
  clear H
  rintro i τ w ⟨⟨hi, hall⟩, H⟩
  repeat refine c_seq ?_
  refine c_region ?_
  refine l_op (o_val (r_bin (a := (i : Int)) (b := (g.len : Int)) rfl rfl (fun _ => b_lss)) ?_)
  first | refine l_end ?_ | refine l_nil ?_
  by_cases hc2 : (i : Int) < (g.len : Int)
  ·
   repeat refine c_seq ?_
   refine c_yes (by exact congrArg Value.bool (decide_eq_true hc2)) ?_
   refine c_skip ?_
   repeat refine c_seq ?_
   refine c_block ?_
   repeat refine c_seq ?_
   refine c_region ?_
   have ah5 := ((hg.up H)).addr (by decide) (by first | omega | (dsimp only; omega))
   obtain ⟨ab3, ao4, ah5⟩ := ah5
   refine l_op (o_val (r_isN i rfl rfl el97 ah5 (by omega) (by (try simp only [Sl.cut]); omega)) ?_)
   have he7 : ∃ c, g.l[i]? = some c := ⟨_, List.getElem?_eq_getElem (by have := ((hg.up H)).ln; (try dsimp only at this ⊢); omega)⟩
   obtain ⟨e6, he7⟩ := he7
   have hez8 := ((hg.up H)).sz e6 (List.mem_of_getElem? he7)
   refine l_op (o_val (r_ldRow (s := g) (k := i) (hg.up H) ah5 rfl rt95 (by decide) he7) ?_)
   refine l_op (o_alloc H zc95 (fun b9 w H hb9 => ?_))
   replace H : Hp _ w _ ([_, .blk b9 ([VI 0, VI 0, V64 (0 : UInt64), .string ⟨(([] : List UInt8)).toArray⟩, VI 0, VI 0] ++ (List.replicate 32 (0 : UInt8)).map V8) 95]) := H
   refine l_op (o_stW (C' := [VI e6.seq, VI e6.tick, V64 e6.serial, .string ⟨(e6.tenant).toArray⟩, VI e6.do_, VI e6.status] ++ (e6.of_).map V8) H (i := 1) rfl rfl rfl cs95 (by simp [Value.oneCell']) (by rw [List.length_append, List.length_map, (show (List.replicate 32 (0 : UInt8)).length = 32 from (List.length_replicate ..))]; rfl) (by rw [List.length_append, List.length_map, (show (e6.of_).length = 32 from (ent_of hez8))]; rfl) (fun w H => ?_))
   replace H : Hp _ w _ ([_, .blk b9 ([VI e6.seq, VI e6.tick, V64 e6.serial, .string ⟨(e6.tenant).toArray⟩, VI e6.do_, VI e6.status] ++ (e6.of_).map V8) 95]) := H
   first | refine l_end ?_ | refine l_nil ?_
   repeat refine c_seq ?_
   refine c_region ?_
   refine l_op (o_val (r_ldA (C := [VI e6.seq, VI e6.tick, V64 e6.serial, .string ⟨(e6.tenant).toArray⟩, VI e6.do_, VI e6.status] ++ (e6.of_).map V8) H (i := 1) rfl rfl rt95 (by rw [List.length_append, List.length_map, (show (e6.of_).length = 32 from (ent_of hez8))]; rfl)) ?_)
   refine l_op (o_callR Try.func89 rfl rfl rfl (aMay_ret _ e6 (show (e6.of_).length = 32 from (ent_of hez8))) ?_)
   rintro _ w ⟨rfl, Hc⟩
   replace H : Hp _ w _ ([_, _]) := H.call Hc
   clear Hc
   refine l_op (o_val (r_not rfl) ?_)
   first | refine l_end ?_ | refine l_nil ?_
   have hc100 := Bool.eq_false_or_eq_true (mayE e6)
   rcases hc100 with hc10 | hc10
   ·
    repeat refine c_seq ?_
    refine c_no (by exact congrArg Value.bool (congrArg not hc10)) ?_
    refine c_skip ?_
    repeat refine c_seq ?_
    refine c_region ?_
    refine l_op (o_val (r_bin (a := (i : Int)) (b := 1) rfl rfl (fun _ => b_add (by omega) (by omega))) ?_)
    refine l_op (o_val (r_mv) ?_)
    first | refine l_end ?_ | refine l_nil ?_
    refine round_end (i + 1) ?_ ?_ ?_
    · exact ⟨rfl, rfl, rfl, rfl, show VI ((i : Int) + 1) = VI ((i + 1 : Nat) : Int) from congrArg VI (by omega), trivial⟩
    · refine ⟨?_, ?_⟩
      · try dsimp only
        exact ⟨by omega, fun j x hj hjx => by
          by_cases hji : j < i
          · exact hall j x hji hjx
          · have e : j = i := by omega
            rw [e, he7] at hjx
            cases hjx
            exact hc10⟩
      · exact H.sub (.cons_cons _ (List.nil_sublist _))
    · show g.len - (i + 1 : Nat) < g.len - i; omega
   ·
    repeat refine c_seq ?_
    refine c_yes (by exact congrArg Value.bool (congrArg not hc10)) ?_
    repeat refine c_seq ?_
    refine c_region ?_
    refine l_op (o_val (r_bld' (pv := []) bd31 rfl rfl) ?_)
    refine l_op (o_stA (l' := List.replicate 32 (0 : UInt8)) H (i := 0) rfl rfl rfl cs31 (show (List.replicate 32 (0 : UInt8)).length = 32 from (List.length_replicate ..)) (show (List.replicate 32 (0 : UInt8)).length = 32 from (List.length_replicate ..)) (fun w H => ?_))
    replace H : Hp _ w _ [_, _] := H
    refine l_op (o_val (r_as) ?_)
    first | refine l_end ?_ | refine l_nil ?_
    refine c_ret ?_
    try dsimp only [Exit.then, Exit.inBlock]
    refine e_retN (vs := [.agg ((List.replicate 32 (0 : UInt8)).map V8).toArray, VI 1]) _ Try.results94 rfl (H.resA (l := List.replicate 32 (0 : UInt8)) (i := 0) rfl rfl rt31 (show (List.replicate 32 (0 : UInt8)).length = 32 from (List.length_replicate ..)) (resT (v := VI 1) rfl (resZ))) ?_
    refine ⟨_, rfl, ?_⟩
    have hc : headC g.l = 1 := by
      unfold headC; rw [if_neg]; intro h
      have h2 := List.all_eq_true.1 h _ (List.mem_of_getElem? he7)
      rw [hc10] at h2; cases h2
    refine ⟨?_, H.sub (List.nil_sublist _)⟩
    rw [headV, hc]
    rfl
  ·
   repeat refine c_seq ?_
   refine c_no (by exact congrArg Value.bool (decide_eq_false hc2)) ?_
   refine c_exit ?_
   repeat refine c_seq ?_
   refine c_region ?_
   refine l_op (o_alloc H zc31 (fun b11 w H hb11 => ?_))
   replace H : Hp _ w _ ([_, .blk b11 ((List.replicate 32 (0 : UInt8)).map V8) 31]) := H
   first | refine l_end ?_ | refine l_nil ?_
   repeat refine c_seq ?_
   refine c_region ?_
   refine l_op (o_val (r_mv) ?_)
   refine l_op (o_val (r_lens el97 rfl) ?_)
   refine l_op (o_val (r_mv) ?_)
   first | refine l_end ?_ | refine l_nil ?_
   repeat refine c_seq ?_
   refine c_block ?_
   replace hall : ∀ (j : Nat) (x : Ent), j < g.len → g.l[j]? = some x → mayE x = true := fun j x hj => hall j x (by omega)
   repeat refine c_seq ?_
   refine c_loop (fun (i : Nat) => [(2, .pointer (some ⟨b1, 0, none⟩)), (6, .pointer (some ⟨b11, 0, none⟩)), (20, g.v), (21, VI (g.len : Int)), (22, VI (i : Int))])
     (fun (i : Nat) w => (i ≤ g.len ∧ ∀ (j : Nat) (x : Ent), j < i → g.l[j]? = some x → x.seq = (j : Int)) ∧ Hp w0 w [] ([.blk b1 ((List.replicate 32 (0 : UInt8)).map V8) 31, .blk b11 ((headF (g.l.take i)).map V8) 31]))
     (fun (i : Nat) => g.len - i) 0 ⟨rfl, rfl, rfl, rfl, rfl, trivial⟩ ⟨⟨Nat.zero_le _, fun j x hj => absurd hj (by omega)⟩, H⟩ ?_
   clear H
   rintro i τ w ⟨⟨hi, hseq⟩, H⟩
   repeat refine c_seq ?_
   refine c_region ?_
   refine l_op (o_val (r_bin (a := (i : Int)) (b := (g.len : Int)) rfl rfl (fun _ => b_lss)) ?_)
   first | refine l_end ?_ | refine l_nil ?_
   by_cases hc12 : (i : Int) < (g.len : Int)
   ·
    repeat refine c_seq ?_
    refine c_yes (by exact congrArg Value.bool (decide_eq_true hc12)) ?_
    refine c_skip ?_
    repeat refine c_seq ?_
    refine c_block ?_
    repeat refine c_seq ?_
    refine c_region ?_
    refine l_op (o_val (r_mv) ?_)
    have ah15 := ((hg.up H)).addr (by decide) (by first | omega | (dsimp only; omega))
    obtain ⟨ab13, ao14, ah15⟩ := ah15
    refine l_op (o_val (r_isN i rfl rfl el97 ah15 (by omega) (by (try simp only [Sl.cut]); omega)) ?_)
    have he17 : ∃ c, g.l[i]? = some c := ⟨_, List.getElem?_eq_getElem (by have := ((hg.up H)).ln; (try dsimp only at this ⊢); omega)⟩
    obtain ⟨e16, he17⟩ := he17
    have hez18 := ((hg.up H)).sz e16 (List.mem_of_getElem? he17)
    refine l_op (o_val (r_ldRow (s := g) (k := i) (hg.up H) ah15 rfl rt95 (by decide) he17) ?_)
    refine l_op (o_alloc H zc95 (fun b19 w H hb19 => ?_))
    replace H : Hp _ w _ ([_, _, .blk b19 ([VI 0, VI 0, V64 (0 : UInt64), .string ⟨(([] : List UInt8)).toArray⟩, VI 0, VI 0] ++ (List.replicate 32 (0 : UInt8)).map V8) 95]) := H
    refine l_op (o_val (r_as) ?_)
    refine l_op (o_stW (C' := [VI e16.seq, VI e16.tick, V64 e16.serial, .string ⟨(e16.tenant).toArray⟩, VI e16.do_, VI e16.status] ++ (e16.of_).map V8) H (i := 2) rfl rfl rfl cs95 (by simp [Value.oneCell']) (by rw [List.length_append, List.length_map, (show (List.replicate 32 (0 : UInt8)).length = 32 from (List.length_replicate ..))]; rfl) (by rw [List.length_append, List.length_map, (show (e16.of_).length = 32 from (ent_of hez18))]; rfl) (fun w H => ?_))
    replace H : Hp _ w _ ([_, _, .blk b19 ([VI e16.seq, VI e16.tick, V64 e16.serial, .string ⟨(e16.tenant).toArray⟩, VI e16.do_, VI e16.status] ++ (e16.of_).map V8) 95]) := H
    first | refine l_end ?_ | refine l_nil ?_
    repeat refine c_seq ?_
    refine c_region ?_
    refine l_op (o_val (r_fa rfl fo95_0) ?_)
    refine l_op (o_val (r_ld (v := VI e16.seq) H (i := 2) rfl rfl ct2 rfl) ?_)
    refine l_op (o_val (r_mv) ?_)
    refine l_op (o_val (r_bin (a := e16.seq) (b := (i : Int)) rfl rfl (fun _ => b_neq)) ?_)
    first | refine l_end ?_ | refine l_nil ?_
    by_cases hc20 : e16.seq ≠ (i : Int)
    ·
     repeat refine c_seq ?_
     refine c_yes (by exact congrArg Value.bool (decide_eq_true hc20)) ?_
     repeat refine c_seq ?_
     refine c_region ?_
     refine l_op (o_val (r_bld' (pv := []) bd31 rfl rfl) ?_)
     refine l_op (o_stA (l' := List.replicate 32 (0 : UInt8)) H (i := 0) rfl rfl rfl cs31 (show (List.replicate 32 (0 : UInt8)).length = 32 from (List.length_replicate ..)) (show (List.replicate 32 (0 : UInt8)).length = 32 from (List.length_replicate ..)) (fun w H => ?_))
     replace H : Hp _ w _ [_, _, _] := H
     refine l_op (o_val (r_as) ?_)
     first | refine l_end ?_ | refine l_nil ?_
     refine c_ret ?_
     try dsimp only [Exit.then, Exit.inBlock]
     refine e_retN (vs := [.agg ((List.replicate 32 (0 : UInt8)).map V8).toArray, VI 10]) _ Try.results94 rfl (H.resA (l := List.replicate 32 (0 : UInt8)) (i := 0) rfl rfl rt31 (show (List.replicate 32 (0 : UInt8)).length = 32 from (List.length_replicate ..)) (resT (v := VI 10) rfl (resZ))) ?_
     refine ⟨_, rfl, ?_⟩
     have hal : g.l.all mayE = true := List.all_eq_true.2 fun x hx => by
       obtain ⟨j, hj⟩ := List.getElem?_of_mem hx
       exact hall j x (by have := (List.getElem?_eq_some_iff.1 hj).1; omega) hj
     have hc : headC g.l = 10 := by
       unfold headC; rw [if_pos hal, if_neg]; intro h
       have h2 := (numbFrom_iff _ _).1 h i e16 he17
       omega
     refine ⟨?_, H.sub (List.nil_sublist _)⟩
     rw [headV, hc]
     rfl
    ·
     repeat refine c_seq ?_
     refine c_no (by exact congrArg Value.bool (decide_eq_false hc20)) ?_
     refine c_skip ?_
     repeat refine c_seq ?_
     refine c_region ?_
     refine l_op (o_val (r_ldAA (l := headF (g.l.take i)) H (i := 1) rfl rfl rt31 (show (headF (g.l.take i)).length = 32 from (headF_len _))) ?_)
     refine l_op (o_val (r_ldA (C := [VI e16.seq, VI e16.tick, V64 e16.serial, .string ⟨(e16.tenant).toArray⟩, VI e16.do_, VI e16.status] ++ (e16.of_).map V8) H (i := 2) rfl rfl rt95 (by rw [List.length_append, List.length_map, (show (e16.of_).length = 32 from (ent_of hez18))]; rfl)) ?_)
     have hk21 : (mayE e16) = true := (hall i _ (by omega) he17)
     refine l_op (o_callR Try.func87 rfl rfl rfl (aLink_ok _ (headF (g.l.take i)) (show (headF (g.l.take i)).length = 32 from (headF_len _)) e16 (show (e16.of_).length = 32 from (ent_of hez18)) (hbl _ (List.mem_of_getElem? he17)) hk21) ?_)
     rintro _ w ⟨rfl, Hc⟩
     replace H : Hp _ w _ ([_, _, _]) := H.call Hc
     clear Hc
     refine l_op (o_val (r_mv) ?_)
     refine l_op (o_val (r_ext rfl rfl) ?_)
     refine l_op (o_val (r_ext rfl rfl) ?_)
     refine l_op (o_stA (l' := linkF (headF (g.l.take i)) e16) H (i := 1) rfl rfl rfl cs31 (show (headF (g.l.take i)).length = 32 from (headF_len _)) (show (linkF (headF (g.l.take i)) e16).length = 32 from (linkF_len _ _)) (fun w H => ?_))
     replace H : Hp _ w _ ([_, .blk b11 ((linkF (headF (g.l.take i)) e16).map V8) 31, _]) := H
     first | refine l_end ?_ | refine l_nil ?_
     repeat refine c_seq ?_
     refine c_region ?_
     refine l_op (o_val (r_bin (a := (i : Int)) (b := 1) rfl rfl (fun _ => b_add (by omega) (by omega))) ?_)
     refine l_op (o_val (r_mv) ?_)
     first | refine l_end ?_ | refine l_nil ?_
     rw [headF_succ g.l i e16 he17] at H
     refine round_end (i + 1) ?_ ?_ ?_
     · exact ⟨rfl, rfl, rfl, rfl, show VI ((i : Int) + 1) = VI ((i + 1 : Nat) : Int) from congrArg VI (by omega), trivial⟩
     · refine ⟨?_, ?_⟩
       · try dsimp only
         exact ⟨by omega, fun j x hj hjx => by
           by_cases hji : j < i
           · exact hseq j x hji hjx
           · have e : j = i := by omega
             rw [e, he17] at hjx
             cases hjx
             rw [e]; omega⟩
       · exact H.sub (.cons_cons _ (.cons_cons _ (List.nil_sublist _)))
     · show g.len - (i + 1 : Nat) < g.len - i; omega
   ·
    repeat refine c_seq ?_
    refine c_no (by exact congrArg Value.bool (decide_eq_false hc12)) ?_
    refine c_exit ?_
    repeat refine c_seq ?_
    refine c_region ?_
    refine l_op (o_val (r_ldAA (l := headF (g.l.take i)) H (i := 1) rfl rfl rt31 (show (headF (g.l.take i)).length = 32 from (headF_len _))) ?_)
    refine l_op (o_stA (l' := headF (g.l.take i)) H (i := 0) rfl rfl rfl cs31 (show (List.replicate 32 (0 : UInt8)).length = 32 from (List.length_replicate ..)) (show (headF (g.l.take i)).length = 32 from (headF_len _)) (fun w H => ?_))
    replace H : Hp _ w _ ([.blk b1 ((headF (g.l.take i)).map V8) 31, _]) := H
    refine l_op (o_val (r_as) ?_)
    first | refine l_end ?_ | refine l_nil ?_
    refine c_ret ?_
    try dsimp only [Exit.then, Exit.inBlock]
    refine e_retN (vs := [.agg ((headF (g.l.take i)).map V8).toArray, VI 0]) _ Try.results94 rfl (H.resA (l := headF (g.l.take i)) (i := 0) rfl rfl rt31 (show (headF (g.l.take i)).length = 32 from (headF_len _)) (resT (v := VI 0) rfl (resZ))) ?_
    refine ⟨_, rfl, ?_⟩
    have hal : g.l.all mayE = true := List.all_eq_true.2 fun x hx => by
      obtain ⟨j, hj⟩ := List.getElem?_of_mem hx
      exact hall j x (by have := (List.getElem?_eq_some_iff.1 hj).1; omega) hj
    have hc : headC g.l = 0 := by
      unfold headC; rw [if_pos hal, if_pos]
      refine (numbFrom_iff _ _).2 fun j x hj => ?_
      have := hseq j x (by have := (List.getElem?_eq_some_iff.1 hj).1; omega) hj
      omega
    refine ⟨?_, H.sub (List.nil_sublist _)⟩
    rw [headV, hc, if_pos rfl]
    have hi2 : i = g.len := by omega
    rw [List.take_of_length_le (by omega)]
    rfl
set_option maxHeartbeats 1000000 in
theorem aHeadr_ret (w0 : World) (g : Gl Ent) (hg : g.ok entE 38 w0) (hbl : ∀ e ∈ g.l, e.bd) (hm : g.len ≤ 65536) :
    Ret Try.prog 95 [g.v] w0 fun v w' => v = .tuple #[.agg ((headV g.l).map V8).toArray, VI ((headC g.l : Nat) : Int)] ∧ Hp w0 w' [] [] := by
  refine ret_mk Try.func95 rfl Try.ntmps95 (by simp) ?_
  have H := Hp.refl w0 []
  have hgl := hg.ln
  have hge := hg.le
  have hgx := hg.mx
  have hmL : maxLen = 9223372036854775807 := rfl
  repeat refine c_seq ?_
  refine c_region ?_
  refine l_op (o_alloc H zc31 (fun b1 w H hb1 => ?_))
  replace H : Hp _ w _ ([.blk b1 ((List.replicate 32 (0 : UInt8)).map V8) 31]) := H
  refine l_op (o_val (r_as) ?_)
  first | refine l_end ?_ | refine l_nil ?_
  repeat refine c_seq ?_
  refine c_region ?_
  refine l_op (o_alloc H zc31 (fun b2 w H hb2 => ?_))
  replace H : Hp _ w _ ([_, .blk b2 ((List.replicate 32 (0 : UInt8)).map V8) 31]) := H
  first | refine l_end ?_ | refine l_nil ?_
  repeat refine c_seq ?_
  refine c_region ?_
  refine l_op (o_val (r_as) ?_)
  first | refine l_end ?_ | refine l_nil ?_
  repeat refine c_seq ?_
  refine c_block ?_
  repeat refine c_seq ?_
  refine c_loop (fun (i : Nat) => [(0, g.v), (2, .pointer (some ⟨b1, 0, none⟩)), (4, .pointer (some ⟨b2, 0, none⟩)), (5, VI (i : Int))])
    (fun (i : Nat) w => (i ≤ g.len ∧ ∀ (j : Nat) (x : Ent), j < i → g.l[j]? = some x → mayE x = true) ∧ Hp w0 w [] ([.blk b1 ((List.replicate 32 (0 : UInt8)).map V8) 31, .blk b2 ((List.replicate 32 (0 : UInt8)).map V8) 31]))
    (fun (i : Nat) => g.len - i) 0 ⟨rfl, rfl, rfl, rfl, trivial⟩ ⟨⟨Nat.zero_le _, fun j x hj => absurd hj (by omega)⟩, H⟩ ?_
  clear H
  rintro i τ w ⟨⟨hi, hall⟩, H⟩
  repeat refine c_seq ?_
  refine c_region ?_
  refine l_op (o_val (r_mv) ?_)
  refine l_op (o_val (r_mv) ?_)
  refine l_op (o_val (r_lens el97 rfl) ?_)
  refine l_op (o_val (r_bin (a := (i : Int)) (b := (g.len : Int)) rfl rfl (fun _ => b_lss)) ?_)
  first | refine l_end ?_ | refine l_nil ?_
  by_cases hc3 : (i : Int) < (g.len : Int)
  ·
   repeat refine c_seq ?_
   refine c_yes (by exact congrArg Value.bool (decide_eq_true hc3)) ?_
   refine c_skip ?_
   repeat refine c_seq ?_
   refine c_block ?_
   repeat refine c_seq ?_
   refine c_region ?_
   refine l_op (o_val (r_mv) ?_)
   refine l_op (o_val (r_mv) ?_)
   have ah6 := ((hg.up H)).addr (by decide) (by first | omega | (dsimp only; omega))
   obtain ⟨ab4, ao5, ah6⟩ := ah6
   refine l_op (o_val (r_isN i rfl rfl el97 ah6 (by omega) (by (try simp only [Sl.cut]); omega)) ?_)
   have he8 : ∃ c, g.l[i]? = some c := ⟨_, List.getElem?_eq_getElem (by have := ((hg.up H)).ln; (try dsimp only at this ⊢); omega)⟩
   obtain ⟨e7, he8⟩ := he8
   have hez9 := ((hg.up H)).sz e7 (List.mem_of_getElem? he8)
   refine l_op (o_val (r_ldRow (s := g) (k := i) (hg.up H) ah6 rfl rt95 (by decide) he8) ?_)
   refine l_op (o_callR Try.func90 rfl rfl rfl (aMayr_ret _ e7 (show (e7.of_).length = 32 from (ent_of hez9))) ?_)
   rintro _ w ⟨rfl, Hc⟩
   replace H : Hp _ w _ ([_, _]) := H.call Hc
   clear Hc
   refine l_op (o_val (r_not rfl) ?_)
   first | refine l_end ?_ | refine l_nil ?_
   have hc100 := Bool.eq_false_or_eq_true (mayE e7)
   rcases hc100 with hc10 | hc10
   ·
    repeat refine c_seq ?_
    refine c_no (by exact congrArg Value.bool (congrArg not hc10)) ?_
    refine c_skip ?_
    repeat refine c_seq ?_
    refine c_region ?_
    refine l_op (o_val (r_mv) ?_)
    refine l_op (o_val (r_bin (a := (i : Int)) (b := 1) rfl rfl (fun _ => b_add (by omega) (by omega))) ?_)
    refine l_op (o_val (r_as) ?_)
    first | refine l_end ?_ | refine l_nil ?_
    refine round_end (i + 1) ?_ ?_ ?_
    · exact ⟨rfl, rfl, rfl, show VI ((i : Int) + 1) = VI ((i + 1 : Nat) : Int) from congrArg VI (by omega), trivial⟩
    · refine ⟨?_, ?_⟩
      · try dsimp only
        exact ⟨by omega, fun j x hj hjx => by
          by_cases hji : j < i
          · exact hall j x hji hjx
          · have e : j = i := by omega
            rw [e, he8] at hjx
            cases hjx
            exact hc10⟩
      · exact H.sub (.cons_cons _ (.cons_cons _ (List.nil_sublist _)))
    · show g.len - (i + 1 : Nat) < g.len - i; omega
   ·
    repeat refine c_seq ?_
    refine c_yes (by exact congrArg Value.bool (congrArg not hc10)) ?_
    repeat refine c_seq ?_
    refine c_region ?_
    refine l_op (o_val (r_bld' (pv := []) bd31 rfl rfl) ?_)
    refine l_op (o_stA (l' := List.replicate 32 (0 : UInt8)) H (i := 0) rfl rfl rfl cs31 (show (List.replicate 32 (0 : UInt8)).length = 32 from (List.length_replicate ..)) (show (List.replicate 32 (0 : UInt8)).length = 32 from (List.length_replicate ..)) (fun w H => ?_))
    replace H : Hp _ w _ [_, _] := H
    refine l_op (o_val (r_as) ?_)
    first | refine l_end ?_ | refine l_nil ?_
    refine c_ret ?_
    try dsimp only [Exit.then, Exit.inBlock]
    refine e_retN (vs := [.agg ((List.replicate 32 (0 : UInt8)).map V8).toArray, VI 1]) _ Try.results95 rfl (H.resA (l := List.replicate 32 (0 : UInt8)) (i := 0) rfl rfl rt31 (show (List.replicate 32 (0 : UInt8)).length = 32 from (List.length_replicate ..)) (resT (v := VI 1) rfl (resZ))) ?_
    refine ⟨_, rfl, ?_⟩
    have hc : headC g.l = 1 := by
      unfold headC; rw [if_neg]; intro h
      have h2 := List.all_eq_true.1 h _ (List.mem_of_getElem? he8)
      rw [hc10] at h2; cases h2
    refine ⟨?_, H.sub (List.nil_sublist _)⟩
    rw [headV, hc]
    rfl
  ·
   repeat refine c_seq ?_
   refine c_no (by exact congrArg Value.bool (decide_eq_false hc3)) ?_
   refine c_exit ?_
   repeat refine c_seq ?_
   refine c_region ?_
   refine l_op (o_val (r_as) ?_)
   first | refine l_end ?_ | refine l_nil ?_
   repeat refine c_seq ?_
   refine c_block ?_
   replace hall : ∀ (j : Nat) (x : Ent), j < g.len → g.l[j]? = some x → mayE x = true := fun j x hj => hall j x (by omega)
   repeat refine c_seq ?_
   refine c_loop (fun (i : Nat) => [(0, g.v), (2, .pointer (some ⟨b1, 0, none⟩)), (4, .pointer (some ⟨b2, 0, none⟩)), (6, VI (i : Int))])
     (fun (i : Nat) w => (i ≤ g.len ∧ ∀ (j : Nat) (x : Ent), j < i → g.l[j]? = some x → x.seq = (j : Int)) ∧ Hp w0 w [] ([.blk b1 ((List.replicate 32 (0 : UInt8)).map V8) 31, .blk b2 ((headF (g.l.take i)).map V8) 31]))
     (fun (i : Nat) => g.len - i) 0 ⟨rfl, rfl, rfl, rfl, trivial⟩ ⟨⟨Nat.zero_le _, fun j x hj => absurd hj (by omega)⟩, H⟩ ?_
   clear H
   rintro i τ w ⟨⟨hi, hseq⟩, H⟩
   repeat refine c_seq ?_
   refine c_region ?_
   refine l_op (o_val (r_mv) ?_)
   refine l_op (o_val (r_mv) ?_)
   refine l_op (o_val (r_lens el97 rfl) ?_)
   refine l_op (o_val (r_bin (a := (i : Int)) (b := (g.len : Int)) rfl rfl (fun _ => b_lss)) ?_)
   first | refine l_end ?_ | refine l_nil ?_
   by_cases hc11 : (i : Int) < (g.len : Int)
   ·
    repeat refine c_seq ?_
    refine c_yes (by exact congrArg Value.bool (decide_eq_true hc11)) ?_
    refine c_skip ?_
    repeat refine c_seq ?_
    refine c_block ?_
    repeat refine c_seq ?_
    refine c_region ?_
    refine l_op (o_val (r_mv) ?_)
    refine l_op (o_val (r_mv) ?_)
    have ah14 := ((hg.up H)).addr (by decide) (by first | omega | (dsimp only; omega))
    obtain ⟨ab12, ao13, ah14⟩ := ah14
    refine l_op (o_val (r_isN i rfl rfl el97 ah14 (by omega) (by (try simp only [Sl.cut]); omega)) ?_)
    refine l_op (o_val (r_fa rfl fo95_0) ?_)
    have he16 : ∃ c, g.l[i]? = some c := ⟨_, List.getElem?_eq_getElem (by have := ((hg.up H)).ln; (try dsimp only at this ⊢); omega)⟩
    obtain ⟨e15, he16⟩ := he16
    have hez17 := ((hg.up H)).sz e15 (List.mem_of_getElem? he16)
    refine l_op (o_val (r_ldFld (v := VI e15.seq) (s := g) (k := i) (off := 0) (hg.up H) ah14 rfl ct2 he16 (by decide) rfl) ?_)
    refine l_op (o_val (r_mv) ?_)
    refine l_op (o_val (r_bin (a := e15.seq) (b := (i : Int)) rfl rfl (fun _ => b_neq)) ?_)
    first | refine l_end ?_ | refine l_nil ?_
    by_cases hc18 : e15.seq ≠ (i : Int)
    ·
     repeat refine c_seq ?_
     refine c_yes (by exact congrArg Value.bool (decide_eq_true hc18)) ?_
     repeat refine c_seq ?_
     refine c_region ?_
     refine l_op (o_val (r_bld' (pv := []) bd31 rfl rfl) ?_)
     refine l_op (o_stA (l' := List.replicate 32 (0 : UInt8)) H (i := 0) rfl rfl rfl cs31 (show (List.replicate 32 (0 : UInt8)).length = 32 from (List.length_replicate ..)) (show (List.replicate 32 (0 : UInt8)).length = 32 from (List.length_replicate ..)) (fun w H => ?_))
     replace H : Hp _ w _ [_, _] := H
     refine l_op (o_val (r_as) ?_)
     first | refine l_end ?_ | refine l_nil ?_
     refine c_ret ?_
     try dsimp only [Exit.then, Exit.inBlock]
     refine e_retN (vs := [.agg ((List.replicate 32 (0 : UInt8)).map V8).toArray, VI 10]) _ Try.results95 rfl (H.resA (l := List.replicate 32 (0 : UInt8)) (i := 0) rfl rfl rt31 (show (List.replicate 32 (0 : UInt8)).length = 32 from (List.length_replicate ..)) (resT (v := VI 10) rfl (resZ))) ?_
     refine ⟨_, rfl, ?_⟩
     have hal : g.l.all mayE = true := List.all_eq_true.2 fun x hx => by
       obtain ⟨j, hj⟩ := List.getElem?_of_mem hx
       exact hall j x (by have := (List.getElem?_eq_some_iff.1 hj).1; omega) hj
     have hc : headC g.l = 10 := by
       unfold headC; rw [if_pos hal, if_neg]; intro h
       have h2 := (numbFrom_iff _ _).1 h i e15 he16
       omega
     refine ⟨?_, H.sub (List.nil_sublist _)⟩
     rw [headV, hc]
     rfl
    ·
     repeat refine c_seq ?_
     refine c_no (by exact congrArg Value.bool (decide_eq_false hc18)) ?_
     refine c_skip ?_
     repeat refine c_seq ?_
     refine wp_held (fun w => Hp w0 w [] [.blk b1 ((List.replicate 32 (0 : UInt8)).map V8) 31]) mixed ?_
     replace H := H.drew
     have HS := H.sub (.cons_cons _ (List.nil_sublist _))
     refine t_take 1 rfl (by kernel_rfl) (by kernel_rfl) (by kernel_rfl) (fun _ _ _ h => h) (fun w HS => r_mv) HS ?_
     refine t_take 2 rfl (by kernel_rfl) (by kernel_rfl) (by kernel_rfl) (fun _ _ _ h => h) (fun w HS => r_mv) HS ?_
     refine t_take 3 rfl (by kernel_rfl) (by kernel_rfl) (by kernel_rfl) (fun _ _ _ h => h) (fun w HS => r_isN i rfl rfl el97 ah14 (by omega) (by (try simp only [Sl.cut]); omega)) HS ?_
     refine t_take 4 rfl (by kernel_rfl) (by kernel_rfl) (by kernel_rfl) (fun _ _ _ h => h) (fun w HS => r_ldRow (s := g) (k := i) (hg.up HS) ah14 rfl rt95 (by decide) he16) HS ?_
     refine t_step 0 rfl (by kernel_rfl) (o_val (r_ldAA (l := headF (g.l.take i)) H (i := 1) rfl rfl rt31 (show (headF (g.l.take i)).length = 32 from (headF_len _))) ?_)
     refine ⟨H.sub (.cons_cons _ (List.nil_sublist _)), ?_⟩
     replace HS := H.sub (.cons_cons _ (List.nil_sublist _))
     have hk19 : (mayE e15) = true := (hall i _ (by omega) he16)
     refine t_step 5 rfl (by kernel_rfl) (o_callR Try.func88 rfl rfl rfl (aLinkr_ok _ (headF (g.l.take i)) (show (headF (g.l.take i)).length = 32 from (headF_len _)) e15 (show (e15.of_).length = 32 from (ent_of hez17)) (hbl _ (List.mem_of_getElem? he16)) hk19) ?_)
     rintro _ w ⟨rfl, Hc⟩
     replace H : Hp _ w _ ([_, _]) := H.call Hc
     clear Hc
     refine ⟨H.sub (.cons_cons _ (List.nil_sublist _)), ?_⟩
     replace HS := H.sub (.cons_cons _ (List.nil_sublist _))
     refine t_take 6 rfl (by kernel_rfl) (by kernel_rfl) (by kernel_rfl) (fun _ _ _ h => h) (fun w HS => r_mv) HS ?_
     refine t_take 7 rfl (by kernel_rfl) (by kernel_rfl) (by kernel_rfl) (fun _ _ _ h => h) (fun w HS => r_ext rfl rfl) HS ?_
     refine t_take 8 rfl (by kernel_rfl) (by kernel_rfl) (by kernel_rfl) (fun _ _ _ h => h) (fun w HS => r_ext rfl rfl) HS ?_
     refine t_step 9 rfl (by kernel_rfl) (o_stA (l' := linkF (headF (g.l.take i)) e15) H (i := 1) rfl rfl rfl cs31 (show (headF (g.l.take i)).length = 32 from (headF_len _)) (show (linkF (headF (g.l.take i)) e15).length = 32 from (linkF_len _ _)) (fun w H => ?_))
     replace H : Hp _ w _ ([_, .blk b2 ((linkF (headF (g.l.take i)) e15).map V8) 31]) := H
     refine ⟨H.sub (.cons_cons _ (List.nil_sublist _)), ?_⟩
     replace HS := H.sub (.cons_cons _ (List.nil_sublist _))
     refine t_done (by kernel_rfl) ?_
     clear HS
     repeat refine c_seq ?_
     refine c_region ?_
     refine l_op (o_val (r_mv) ?_)
     refine l_op (o_val (r_bin (a := (i : Int)) (b := 1) rfl rfl (fun _ => b_add (by omega) (by omega))) ?_)
     refine l_op (o_val (r_as) ?_)
     first | refine l_end ?_ | refine l_nil ?_
     rw [headF_succ g.l i e15 he16] at H
     refine round_end (i + 1) ?_ ?_ ?_
     · exact ⟨rfl, rfl, rfl, show VI ((i : Int) + 1) = VI ((i + 1 : Nat) : Int) from congrArg VI (by omega), trivial⟩
     · refine ⟨?_, ?_⟩
       · try dsimp only
         exact ⟨by omega, fun j x hj hjx => by
           by_cases hji : j < i
           · exact hseq j x hji hjx
           · have e : j = i := by omega
             rw [e, he16] at hjx
             cases hjx
             rw [e]; omega⟩
       · exact H.sub (.cons_cons _ (.cons_cons _ (List.nil_sublist _)))
     · show g.len - (i + 1 : Nat) < g.len - i; omega
   ·
    repeat refine c_seq ?_
    refine c_no (by exact congrArg Value.bool (decide_eq_false hc11)) ?_
    refine c_exit ?_
    repeat refine c_seq ?_
    refine c_region ?_
    refine l_op (o_val (r_ldAA (l := headF (g.l.take i)) H (i := 1) rfl rfl rt31 (show (headF (g.l.take i)).length = 32 from (headF_len _))) ?_)
    refine l_op (o_stA (l' := headF (g.l.take i)) H (i := 0) rfl rfl rfl cs31 (show (List.replicate 32 (0 : UInt8)).length = 32 from (List.length_replicate ..)) (show (headF (g.l.take i)).length = 32 from (headF_len _)) (fun w H => ?_))
    replace H : Hp _ w _ ([.blk b1 ((headF (g.l.take i)).map V8) 31, _]) := H
    refine l_op (o_val (r_as) ?_)
    first | refine l_end ?_ | refine l_nil ?_
    refine c_ret ?_
    try dsimp only [Exit.then, Exit.inBlock]
    refine e_retN (vs := [.agg ((headF (g.l.take i)).map V8).toArray, VI 0]) _ Try.results95 rfl (H.resA (l := headF (g.l.take i)) (i := 0) rfl rfl rt31 (show (headF (g.l.take i)).length = 32 from (headF_len _)) (resT (v := VI 0) rfl (resZ))) ?_
    refine ⟨_, rfl, ?_⟩
    have hal : g.l.all mayE = true := List.all_eq_true.2 fun x hx => by
      obtain ⟨j, hj⟩ := List.getElem?_of_mem hx
      exact hall j x (by have := (List.getElem?_eq_some_iff.1 hj).1; omega) hj
    have hc : headC g.l = 0 := by
      unfold headC; rw [if_pos hal, if_pos]
      refine (numbFrom_iff _ _).2 fun j x hj => ?_
      have := hseq j x (by have := (List.getElem?_eq_some_iff.1 hj).1; omega) hj
      omega
    refine ⟨?_, H.sub (List.nil_sublist _)⟩
    rw [headV, hc, if_pos rfl]
    have hi2 : i = g.len := by omega
    rw [List.take_of_length_le (by omega)]
    rfl
theorem glE_nil (w : World) : (⟨none, 0, 0, []⟩ : Gl Ent).ok entE 38 w := ⟨.inl rfl, rfl, Nat.le_refl _, Nat.zero_le _, fun c hc => (by cases hc)⟩
theorem aExp_ok (w0 : World) (g : Gl Ent) (hg : g.ok entE 38 w0) (hbl : ∀ e ∈ g.l, e.bd) (hm : g.len ≤ 65536) (h0 : headC g.l = 0) :
    Ret Try.prog 96 [g.v] w0 fun v w' => ∃ a n k, v = .tuple #[.slice (hd a) n k, VI 0] ∧ n ≤ 10 + 76 * g.len ∧ (expB g.l).length = n ∧ Hp w0 w' [] [.own a n k ((expB g.l).map V8) 5 1] := by
  refine ret_mk Try.func96 rfl Try.ntmps96 (by simp) ?_
  have H := Hp.refl w0 []
  have hgl := hg.ln
  have hge := hg.le
  have hgx := hg.mx
  have hmL : maxLen = 9223372036854775807 := rfl
  have hhc := (headC_iff _).1 h0
  have hall : ∀ (j : Nat) (x : Ent), g.l[j]? = some x → mayE x = true := fun j x hj => List.all_eq_true.1 hhc.1 x (List.mem_of_getElem? hj)
  have hlen8 : (UInt64.ofNat g.len).toNat = g.len := ofNat_nat _ (by omega)
  repeat refine c_seq ?_
  refine c_region ?_
  refine l_op (o_val (r_as) ?_)
  refine l_op (o_val (r_as) ?_)
  first | refine l_end ?_ | refine l_nil ?_
  repeat refine c_seq ?_
  refine c_region ?_
  refine l_op (o_val (r_mv) ?_)
  refine l_op (o_callR Try.func94 rfl rfl rfl (aHead_ret _ g (hg.up H) hbl (by (try dsimp only); omega)) ?_)
  rintro _ w ⟨rfl, Hc⟩
  replace H : Hp _ w _ ([]) := H.call Hc
  clear Hc
  refine l_op (o_val (r_mv) ?_)
  refine l_op (o_val (r_ext rfl rfl) ?_)
  refine l_op (o_val (r_ext rfl rfl) ?_)
  refine l_op (o_alloc H zc31 (fun b1 w H hb1 => ?_))
  replace H : Hp _ w _ ([.blk b1 ((List.replicate 32 (0 : UInt8)).map V8) 31]) := H
  refine l_op (o_stA (l' := headV g.l) H (i := 0) rfl rfl rfl cs31 (show (List.replicate 32 (0 : UInt8)).length = 32 from (List.length_replicate ..)) (show (headV g.l).length = 32 from (headV_len _)) (fun w H => ?_))
  replace H : Hp _ w _ ([.blk b1 ((headV g.l).map V8) 31]) := H
  refine l_op (o_val (r_as) ?_)
  first | refine l_end ?_ | refine l_nil ?_
  repeat refine c_seq ?_
  refine c_region ?_
  refine l_op (o_val (r_mv) ?_)
  refine l_op (o_val (r_bin (a := ((headC g.l : Nat) : Int)) (b := 0) rfl rfl (fun _ => b_neqB false (decide_eq_false (by omega)))) ?_)
  first | refine l_end ?_ | refine l_nil ?_
  repeat refine c_seq ?_
  refine c_no rfl ?_
  refine c_skip ?_
  repeat refine c_seq ?_
  refine c_region ?_
  refine l_op (o_bslB ([(76 : UInt8), (49 : UInt8)]) H sl29 zc5 rfl rfl (by decide) (fun b2 w H hb2 => ?_))
  replace H : Hp _ w _ ([_, .own (some b2) 2 2 (([(76 : UInt8), (49 : UInt8)]).map V8) 5 1]) := H
  replace H := H.toBlkB (i := 1) rfl
  refine l_op (o_lit H (i := 1) rfl Try.underlying29 Try.underlying5 rfl (fun w H => ?_))
  replace H : Hp _ w _ ([_, .obj b2 (litO (([(76 : UInt8), (49 : UInt8)]).map V8) 5)]) := H
  refine l_op (o_val (r_mv) ?_)
  refine l_op (o_val (r_lens el97 rfl) ?_)
  refine l_op (o_val (r_conv (v := ((UInt64.ofNat g.len).toNat : Int)) Try.underlying3 Try.underlying35 rfl (w_u64_N g.len (by omega))) ?_)
  refine l_op (o_callR Try.func109 rfl rfl rfl (put_ret _ (⟨some ⟨b2, 0, none⟩, 2, 2, [(76 : UInt8), (49 : UInt8)]⟩ : Sl) (ok_lit H (i := 1) rfl rfl rfl (by decide) (by decide)) (UInt64.ofNat g.len) 8 (by omega) (by omega) (.inl rfl) (by (try dsimp only); omega)) ?_)
  rintro _ w ⟨a3, c4, rfl, Hc⟩
  replace H : Hp _ w _ ([_, _, .own a3 (2 + 8) c4 (([(76 : UInt8), (49 : UInt8)] ++ be (UInt64.ofNat g.len).toNat 8).map V8) 5 1]) := H.call Hc
  clear Hc
  refine l_op (o_val (r_mv) ?_)
  refine l_op (o_val (r_ext rfl rfl) ?_)
  refine l_op (o_val (r_ext rfl rfl) ?_)
  refine l_op (o_val (r_as) ?_)
  refine l_op (o_val (r_as) ?_)
  first | refine l_end ?_ | refine l_nil ?_
  repeat refine c_seq ?_
  refine c_region ?_
  refine l_op (o_val (r_mv) ?_)
  refine l_op (o_val (r_lens el97 rfl) ?_)
  refine l_op (o_val (r_mv) ?_)
  first | refine l_end ?_ | refine l_nil ?_
  repeat refine c_seq ?_
  refine c_block ?_
  repeat refine c_seq ?_
  refine c_loop4 (fun (i : Nat) (a : Option Nat) (ln : Nat) (k : Nat) => [(6, .slice (hd a) ln k), (29, g.v), (30, VI (g.len : Int)), (31, VI (i : Int))])
    (fun (i : Nat) (a : Option Nat) (ln : Nat) (k : Nat) w => (i ≤ g.len ∧ ln ≤ 10 + 76 * i) ∧ Hp w0 w [] ([.blk b1 ((headV g.l).map V8) 31, .obj b2 (litO (([(76 : UInt8), (49 : UInt8)]).map V8) 5), .own a ln k (([76, 49] ++ be g.len 8 ++ (g.l.take i).flatMap entB).map V8) 5 1]))
    (fun (i : Nat) (a : Option Nat) (ln : Nat) (k : Nat) => g.len - i) 0 a3 (2 + 8) c4 ⟨rfl, rfl, rfl, rfl, trivial⟩ ⟨⟨Nat.zero_le _, by omega⟩, (by
        have e : [(76 : UInt8), (49 : UInt8)] ++ be (UInt64.ofNat g.len).toNat 8 = [76, 49] ++ be g.len 8 ++ (g.l.take 0).flatMap entB := by rw [hlen8]; simp
        rw [e] at H; exact H)⟩ ?_
  clear H
  rintro i a ln k τ w ⟨⟨hi, hln⟩, H⟩
  repeat refine c_seq ?_
  refine c_region ?_
  refine l_op (o_val (r_bin (a := (i : Int)) (b := (g.len : Int)) rfl rfl (fun _ => b_lss)) ?_)
  first | refine l_end ?_ | refine l_nil ?_
  by_cases hc5 : (i : Int) < (g.len : Int)
  ·
   repeat refine c_seq ?_
   refine c_yes (by exact congrArg Value.bool (decide_eq_true hc5)) ?_
   refine c_skip ?_
   repeat refine c_seq ?_
   refine c_block ?_
   repeat refine c_seq ?_
   refine c_region ?_
   have ah8 := ((hg.up H)).addr (by decide) (by first | omega | (dsimp only; omega))
   obtain ⟨ab6, ao7, ah8⟩ := ah8
   refine l_op (o_val (r_isN i rfl rfl el97 ah8 (by omega) (by (try simp only [Sl.cut]); omega)) ?_)
   have he10 : ∃ c, g.l[i]? = some c := ⟨_, List.getElem?_eq_getElem (by have := ((hg.up H)).ln; (try dsimp only at this ⊢); omega)⟩
   obtain ⟨e9, he10⟩ := he10
   have hez11 := ((hg.up H)).sz e9 (List.mem_of_getElem? he10)
   refine l_op (o_val (r_ldRow (s := g) (k := i) (hg.up H) ah8 rfl rt95 (by decide) he10) ?_)
   refine l_op (o_alloc H zc95 (fun b12 w H hb12 => ?_))
   replace H : Hp _ w _ ([_, _, _, .blk b12 ([VI 0, VI 0, V64 (0 : UInt64), .string ⟨(([] : List UInt8)).toArray⟩, VI 0, VI 0] ++ (List.replicate 32 (0 : UInt8)).map V8) 95]) := H
   refine l_op (o_stW (C' := [VI e9.seq, VI e9.tick, V64 e9.serial, .string ⟨(e9.tenant).toArray⟩, VI e9.do_, VI e9.status] ++ (e9.of_).map V8) H (i := 3) rfl rfl rfl cs95 (by simp [Value.oneCell']) (by rw [List.length_append, List.length_map, (show (List.replicate 32 (0 : UInt8)).length = 32 from (List.length_replicate ..))]; rfl) (by rw [List.length_append, List.length_map, (show (e9.of_).length = 32 from (ent_of hez11))]; rfl) (fun w H => ?_))
   replace H : Hp _ w _ ([_, _, _, .blk b12 ([VI e9.seq, VI e9.tick, V64 e9.serial, .string ⟨(e9.tenant).toArray⟩, VI e9.do_, VI e9.status] ++ (e9.of_).map V8) 95]) := H
   first | refine l_end ?_ | refine l_nil ?_
   repeat refine c_seq ?_
   refine c_region ?_
   refine l_op (o_val (r_ldA (C := [VI e9.seq, VI e9.tick, V64 e9.serial, .string ⟨(e9.tenant).toArray⟩, VI e9.do_, VI e9.status] ++ (e9.of_).map V8) H (i := 3) rfl rfl rt95 (by rw [List.length_append, List.length_map, (show (e9.of_).length = 32 from (ent_of hez11))]; rfl)) ?_)
   have hk13 : (mayE e9) = true := (hall i _ he10)
   refine l_op (o_callR Try.func85 rfl rfl rfl (aBytes_ok _ e9 (show (e9.of_).length = 32 from (ent_of hez11)) (hbl _ (List.mem_of_getElem? he10)) hk13) ?_)
   rintro _ w ⟨a14, n15, c16, rfl, hn17, Hc⟩
   replace H : Hp _ w _ ([_, _, _, _, .own a14 n15 c16 ((entB e9).map V8) 5 1]) := H.call Hc
   clear Hc
   refine l_op (o_val (r_mv) ?_)
   refine l_op (o_val (r_ext rfl rfl) ?_)
   refine l_op (o_val (r_ext rfl rfl) ?_)
   refine l_op (o_val (r_as) ?_)
   refine l_op (o_val (r_as) ?_)
   first | refine l_end ?_ | refine l_nil ?_
   have hml := (mayE_iff e9).1 (hall i e9 he10)
   have hel := entB_len e9 (ent_of hez11)
   repeat refine c_seq ?_
   refine c_region ?_
   refine l_op (o_val (r_mv) ?_)
   refine l_op (o_val (r_mv) ?_)
   refine l_op (o_appB (s := ⟨hd a14, n15, c16, entB e9⟩) (l' := [76, 49] ++ be g.len 8 ++ (g.l.take i).flatMap entB ++ (entB e9)) (len' := ln + n15) rfl rfl H (i := 2) rfl sl29 Try.underlying29 rfl rfl (H.slOwn (i := 4) rfl) (by omega) (fun a18 c19 w H => ?_))
   replace H : Hp _ w _ ([_, _, .own a18 (ln + n15) c19 (([76, 49] ++ be g.len 8 ++ (g.l.take i).flatMap entB ++ (entB e9)).map V8) 5 1, _, _]) := H
   refine l_op (o_val (r_as) ?_)
   first | refine l_end ?_ | refine l_nil ?_
   repeat refine c_seq ?_
   refine c_region ?_
   refine l_op (o_val (r_bin (a := (i : Int)) (b := 1) rfl rfl (fun _ => b_add (by omega) (by omega))) ?_)
   refine l_op (o_val (r_mv) ?_)
   first | refine l_end ?_ | refine l_nil ?_
   rw [List.append_assoc, flatB_succ g.l i e9 he10] at H
   refine round_end (i + 1, a18, ln + n15, c19) ?_ ?_ ?_
   · exact ⟨rfl, rfl, rfl, show VI ((i : Int) + 1) = VI ((i + 1 : Nat) : Int) from congrArg VI (by omega), trivial⟩
   · refine ⟨?_, ?_⟩
     · try dsimp only
       exact ⟨by omega, by omega⟩
     · exact H.sub (.cons_cons _ (.cons_cons _ (.cons_cons _ (List.nil_sublist _))))
   · show g.len - (i + 1 : Nat) < g.len - i; omega
  ·
   repeat refine c_seq ?_
   refine c_no (by exact congrArg Value.bool (decide_eq_false hc5)) ?_
   refine c_exit ?_
   repeat refine c_seq ?_
   refine c_region ?_
   refine l_op (o_val (r_mv) ?_)
   refine l_op (o_val (r_as) ?_)
   refine l_op (o_val (r_as) ?_)
   first | refine l_end ?_ | refine l_nil ?_
   refine c_ret ?_
   try dsimp only [Exit.then, Exit.inBlock]
   refine e_retN (vs := [.slice (hd a) ln k, VI 0]) _ Try.results96 rfl (resT (v := .slice (hd a) ln k) rfl (resT (v := VI 0) rfl (resZ))) ?_
   refine ⟨_, rfl, ?_⟩
   have hi2 : i = g.len := by omega
   subst hi2
   rw [List.take_of_length_le (by omega), ← hgl] at H
   have hh := (H.ownLen (i := 2) rfl).1
   exact ⟨_, _, _, rfl, by omega, by simpa [expB] using hh, H.sub (.cons _ (.cons _ (.cons_cons _ (List.nil_sublist _))))⟩
theorem aExp_no (w0 : World) (g : Gl Ent) (hg : g.ok entE 38 w0) (hbl : ∀ e ∈ g.l, e.bd) (hm : g.len ≤ 65536) (h0 : ¬ headC g.l = 0) :
    Ret Try.prog 96 [g.v] w0 fun v w' => v = .tuple #[.slice none 0 0, VI ((headC g.l : Nat) : Int)] ∧ Hp w0 w' [] [] := by
  refine ret_mk Try.func96 rfl Try.ntmps96 (by simp) ?_
  have H := Hp.refl w0 []
  have hgl := hg.ln
  have hge := hg.le
  have hgx := hg.mx
  have hmL : maxLen = 9223372036854775807 := rfl
  repeat refine c_seq ?_
  refine c_region ?_
  refine l_op (o_val (r_as) ?_)
  refine l_op (o_val (r_as) ?_)
  first | refine l_end ?_ | refine l_nil ?_
  repeat refine c_seq ?_
  refine c_region ?_
  refine l_op (o_val (r_mv) ?_)
  refine l_op (o_callR Try.func94 rfl rfl rfl (aHead_ret _ g (hg.up H) hbl (by (try dsimp only); omega)) ?_)
  rintro _ w ⟨rfl, Hc⟩
  replace H : Hp _ w _ ([]) := H.call Hc
  clear Hc
  refine l_op (o_val (r_mv) ?_)
  refine l_op (o_val (r_ext rfl rfl) ?_)
  refine l_op (o_val (r_ext rfl rfl) ?_)
  refine l_op (o_alloc H zc31 (fun b1 w H hb1 => ?_))
  replace H : Hp _ w _ ([.blk b1 ((List.replicate 32 (0 : UInt8)).map V8) 31]) := H
  refine l_op (o_stA (l' := headV g.l) H (i := 0) rfl rfl rfl cs31 (show (List.replicate 32 (0 : UInt8)).length = 32 from (List.length_replicate ..)) (show (headV g.l).length = 32 from (headV_len _)) (fun w H => ?_))
  replace H : Hp _ w _ ([.blk b1 ((headV g.l).map V8) 31]) := H
  refine l_op (o_val (r_as) ?_)
  first | refine l_end ?_ | refine l_nil ?_
  repeat refine c_seq ?_
  refine c_region ?_
  refine l_op (o_val (r_mv) ?_)
  refine l_op (o_val (r_bin (a := ((headC g.l : Nat) : Int)) (b := 0) rfl rfl (fun _ => b_neqB true (decide_eq_true (by omega)))) ?_)
  first | refine l_end ?_ | refine l_nil ?_
  repeat refine c_seq ?_
  refine c_yes rfl ?_
  repeat refine c_seq ?_
  refine c_region ?_
  refine l_op (o_val (r_mv) ?_)
  refine l_op (o_val (r_as) ?_)
  refine l_op (o_val (r_as) ?_)
  first | refine l_end ?_ | refine l_nil ?_
  refine c_ret ?_
  try dsimp only [Exit.then, Exit.inBlock]
  refine e_retN (vs := [.slice none 0 0, VI ((headC g.l : Nat) : Int)]) _ Try.results96 rfl (resT (v := .slice none 0 0) rfl (resT (v := VI ((headC g.l : Nat) : Int)) rfl (resZ))) ?_
  refine ⟨_, rfl, ?_⟩
  exact ⟨rfl, H.sub (List.nil_sublist _)⟩
theorem aExpr_ok (w0 : World) (g : Gl Ent) (hg : g.ok entE 38 w0) (hbl : ∀ e ∈ g.l, e.bd) (hm : g.len ≤ 65536) (h0 : headC g.l = 0) :
    Ret Try.prog 97 [g.v] w0 fun v w' => ∃ a n k, v = .tuple #[.slice (hd a) n k, VI 0] ∧ n ≤ 10 + 76 * g.len ∧ (expB g.l).length = n ∧ Hp w0 w' [] [.own a n k ((expB g.l).map V8) 5 1] := by
  refine ret_mk Try.func97 rfl Try.ntmps97 (by simp) ?_
  have H := Hp.refl w0 []
  have hgl := hg.ln
  have hge := hg.le
  have hgx := hg.mx
  have hmL : maxLen = 9223372036854775807 := rfl
  have hhc := (headC_iff _).1 h0
  have hall : ∀ (j : Nat) (x : Ent), g.l[j]? = some x → mayE x = true := fun j x hj => List.all_eq_true.1 hhc.1 x (List.mem_of_getElem? hj)
  have hlen8 : (UInt64.ofNat g.len).toNat = g.len := ofNat_nat _ (by omega)
  repeat refine c_seq ?_
  refine c_region ?_
  refine l_op (o_val (r_as) ?_)
  refine l_op (o_val (r_as) ?_)
  first | refine l_end ?_ | refine l_nil ?_
  repeat refine c_seq ?_
  refine c_region ?_
  refine l_op (o_val (r_mv) ?_)
  refine l_op (o_callR Try.func95 rfl rfl rfl (aHeadr_ret _ g (hg.up H) hbl (by (try dsimp only); omega)) ?_)
  rintro _ w ⟨rfl, Hc⟩
  replace H : Hp _ w _ ([]) := H.call Hc
  clear Hc
  refine l_op (o_val (r_mv) ?_)
  refine l_op (o_val (r_ext rfl rfl) ?_)
  refine l_op (o_val (r_ext rfl rfl) ?_)
  refine l_op (o_alloc H zc31 (fun b1 w H hb1 => ?_))
  replace H : Hp _ w _ ([.blk b1 ((List.replicate 32 (0 : UInt8)).map V8) 31]) := H
  refine l_op (o_stA (l' := headV g.l) H (i := 0) rfl rfl rfl cs31 (show (List.replicate 32 (0 : UInt8)).length = 32 from (List.length_replicate ..)) (show (headV g.l).length = 32 from (headV_len _)) (fun w H => ?_))
  replace H : Hp _ w _ ([.blk b1 ((headV g.l).map V8) 31]) := H
  refine l_op (o_val (r_as) ?_)
  first | refine l_end ?_ | refine l_nil ?_
  repeat refine c_seq ?_
  refine c_region ?_
  refine l_op (o_val (r_mv) ?_)
  refine l_op (o_val (r_bin (a := ((headC g.l : Nat) : Int)) (b := 0) rfl rfl (fun _ => b_neqB false (decide_eq_false (by omega)))) ?_)
  first | refine l_end ?_ | refine l_nil ?_
  repeat refine c_seq ?_
  refine c_no rfl ?_
  refine c_skip ?_
  repeat refine c_seq ?_
  refine c_region ?_
  refine l_op (o_bslB ([(76 : UInt8), (49 : UInt8)]) H sl29 zc5 rfl rfl (by decide) (fun b2 w H hb2 => ?_))
  replace H : Hp _ w _ ([_, .own (some b2) 2 2 (([(76 : UInt8), (49 : UInt8)]).map V8) 5 1]) := H
  replace H := H.toBlkB (i := 1) rfl
  refine l_op (o_lit H (i := 1) rfl Try.underlying29 Try.underlying5 rfl (fun w H => ?_))
  replace H : Hp _ w _ ([_, .obj b2 (litO (([(76 : UInt8), (49 : UInt8)]).map V8) 5)]) := H
  refine l_op (o_val (r_mv) ?_)
  refine l_op (o_val (r_lens el97 rfl) ?_)
  refine l_op (o_val (r_conv (v := ((UInt64.ofNat g.len).toNat : Int)) Try.underlying3 Try.underlying35 rfl (w_u64_N g.len (by omega))) ?_)
  refine l_op (o_callR Try.func55 rfl rfl rfl (eight_ret _ (UInt64.ofNat g.len)) ?_)
  rintro _ w ⟨a3, c4, rfl, Hc⟩
  replace H : Hp _ w _ ([_, _, .own a3 8 c4 ((be (UInt64.ofNat g.len).toNat 8).map V8) 5 1]) := H.call Hc
  clear Hc
  refine l_op (o_appX (s := (⟨some ⟨b2, 0, none⟩, 2, 2, [(76 : UInt8), (49 : UInt8)]⟩ : Sl)) (u := ⟨hd a3, 8, c4, be (UInt64.ofNat g.len).toNat 8⟩) (l' := [(76 : UInt8), (49 : UInt8)] ++ (be (UInt64.ofNat g.len).toNat 8)) (len' := 10) rfl rfl H (ok_lit H (i := 1) rfl rfl rfl (by decide) (by decide)) (H.slOwn (i := 2) rfl) (by (try dsimp only); omega) sl29 Try.underlying29 rfl rfl (by omega) (fun a5 c6 w H => ?_))
  replace H : Hp _ w _ ([_, _, _, .own a5 10 c6 (([(76 : UInt8), (49 : UInt8)] ++ (be (UInt64.ofNat g.len).toNat 8)).map V8) 5 1]) := H
  refine l_op (o_val (r_as) ?_)
  first | refine l_end ?_ | refine l_nil ?_
  repeat refine c_seq ?_
  refine c_region ?_
  refine l_op (o_val (r_as) ?_)
  first | refine l_end ?_ | refine l_nil ?_
  repeat refine c_seq ?_
  refine c_block ?_
  repeat refine c_seq ?_
  refine c_loop4 (fun (i : Nat) (a : Option Nat) (ln : Nat) (k : Nat) => [(0, g.v), (6, .slice (hd a) ln k), (7, VI (i : Int))])
    (fun (i : Nat) (a : Option Nat) (ln : Nat) (k : Nat) w => (i ≤ g.len ∧ ln ≤ 10 + 76 * i) ∧ Hp w0 w [] ([.blk b1 ((headV g.l).map V8) 31, .obj b2 (litO (([(76 : UInt8), (49 : UInt8)]).map V8) 5), .own a3 8 c4 ((be (UInt64.ofNat g.len).toNat 8).map V8) 5 1, .own a ln k (([76, 49] ++ be g.len 8 ++ (g.l.take i).flatMap entB).map V8) 5 1]))
    (fun (i : Nat) (a : Option Nat) (ln : Nat) (k : Nat) => g.len - i) 0 a5 10 c6 ⟨rfl, rfl, rfl, trivial⟩ ⟨⟨Nat.zero_le _, by omega⟩, (by
        have e : [(76 : UInt8), (49 : UInt8)] ++ (be (UInt64.ofNat g.len).toNat 8) = [76, 49] ++ be g.len 8 ++ (g.l.take 0).flatMap entB := by rw [hlen8]; simp
        rw [e] at H; exact H)⟩ ?_
  clear H
  rintro i a ln k τ w ⟨⟨hi, hln⟩, H⟩
  repeat refine c_seq ?_
  refine c_region ?_
  refine l_op (o_val (r_mv) ?_)
  refine l_op (o_val (r_mv) ?_)
  refine l_op (o_val (r_lens el97 rfl) ?_)
  refine l_op (o_val (r_bin (a := (i : Int)) (b := (g.len : Int)) rfl rfl (fun _ => b_lss)) ?_)
  first | refine l_end ?_ | refine l_nil ?_
  by_cases hc7 : (i : Int) < (g.len : Int)
  ·
   repeat refine c_seq ?_
   refine c_yes (by exact congrArg Value.bool (decide_eq_true hc7)) ?_
   refine c_skip ?_
   repeat refine c_seq ?_
   refine c_block ?_
   repeat refine c_seq ?_
   refine c_region ?_
   refine l_op (o_val (r_mv) ?_)
   refine l_op (o_val (r_mv) ?_)
   have ah10 := ((hg.up H)).addr (by decide) (by first | omega | (dsimp only; omega))
   obtain ⟨ab8, ao9, ah10⟩ := ah10
   refine l_op (o_val (r_isN i rfl rfl el97 ah10 (by omega) (by (try simp only [Sl.cut]); omega)) ?_)
   have he12 : ∃ c, g.l[i]? = some c := ⟨_, List.getElem?_eq_getElem (by have := ((hg.up H)).ln; (try dsimp only at this ⊢); omega)⟩
   obtain ⟨e11, he12⟩ := he12
   have hez13 := ((hg.up H)).sz e11 (List.mem_of_getElem? he12)
   refine l_op (o_val (r_ldRow (s := g) (k := i) (hg.up H) ah10 rfl rt95 (by decide) he12) ?_)
   have hk14 : (mayE e11) = true := (hall i _ he12)
   refine l_op (o_callR Try.func86 rfl rfl rfl (aBytesr_ok _ e11 (show (e11.of_).length = 32 from (ent_of hez13)) (hbl _ (List.mem_of_getElem? he12)) hk14) ?_)
   rintro _ w ⟨a15, n16, c17, rfl, hn18, Hc⟩
   replace H : Hp _ w _ ([_, _, _, _, .own a15 n16 c17 ((entB e11).map V8) 5 1]) := H.call Hc
   clear Hc
   refine l_op (o_val (r_mv) ?_)
   refine l_op (o_val (r_ext rfl rfl) ?_)
   refine l_op (o_val (r_ext rfl rfl) ?_)
   refine l_op (o_val (r_as) ?_)
   refine l_op (o_val (r_as) ?_)
   first | refine l_end ?_ | refine l_nil ?_
   have hml := (mayE_iff e11).1 (hall i e11 he12)
   have hel := entB_len e11 (ent_of hez13)
   repeat refine c_seq ?_
   refine c_region ?_
   refine l_op (o_val (r_mv) ?_)
   refine l_op (o_val (r_mv) ?_)
   refine l_op (o_appB (s := ⟨hd a15, n16, c17, entB e11⟩) (l' := [76, 49] ++ be g.len 8 ++ (g.l.take i).flatMap entB ++ (entB e11)) (len' := ln + n16) rfl rfl H (i := 3) rfl sl29 Try.underlying29 rfl rfl (H.slOwn (i := 4) rfl) (by omega) (fun a19 c20 w H => ?_))
   replace H : Hp _ w _ ([_, _, _, .own a19 (ln + n16) c20 (([76, 49] ++ be g.len 8 ++ (g.l.take i).flatMap entB ++ (entB e11)).map V8) 5 1, _]) := H
   refine l_op (o_val (r_as) ?_)
   first | refine l_end ?_ | refine l_nil ?_
   repeat refine c_seq ?_
   refine c_region ?_
   refine l_op (o_val (r_mv) ?_)
   refine l_op (o_val (r_bin (a := (i : Int)) (b := 1) rfl rfl (fun _ => b_add (by omega) (by omega))) ?_)
   refine l_op (o_val (r_as) ?_)
   first | refine l_end ?_ | refine l_nil ?_
   rw [List.append_assoc, flatB_succ g.l i e11 he12] at H
   refine round_end (i + 1, a19, ln + n16, c20) ?_ ?_ ?_
   · exact ⟨rfl, rfl, show VI ((i : Int) + 1) = VI ((i + 1 : Nat) : Int) from congrArg VI (by omega), trivial⟩
   · refine ⟨?_, ?_⟩
     · try dsimp only
       exact ⟨by omega, by omega⟩
     · exact H.sub (.cons_cons _ (.cons_cons _ (.cons_cons _ (.cons_cons _ (List.nil_sublist _)))))
   · show g.len - (i + 1 : Nat) < g.len - i; omega
  ·
   repeat refine c_seq ?_
   refine c_no (by exact congrArg Value.bool (decide_eq_false hc7)) ?_
   refine c_exit ?_
   repeat refine c_seq ?_
   refine c_region ?_
   refine l_op (o_val (r_mv) ?_)
   refine l_op (o_val (r_as) ?_)
   refine l_op (o_val (r_as) ?_)
   first | refine l_end ?_ | refine l_nil ?_
   refine c_ret ?_
   try dsimp only [Exit.then, Exit.inBlock]
   refine e_retN (vs := [.slice (hd a) ln k, VI 0]) _ Try.results97 rfl (resT (v := .slice (hd a) ln k) rfl (resT (v := VI 0) rfl (resZ))) ?_
   refine ⟨_, rfl, ?_⟩
   have hi2 : i = g.len := by omega
   subst hi2
   rw [List.take_of_length_le (by omega), ← hgl] at H
   have hh := (H.ownLen (i := 3) rfl).1
   exact ⟨_, _, _, rfl, by omega, by simpa [expB] using hh, H.sub (.cons _ (.cons _ (.cons _ (.cons_cons _ (List.nil_sublist _)))))⟩
theorem aExpr_no (w0 : World) (g : Gl Ent) (hg : g.ok entE 38 w0) (hbl : ∀ e ∈ g.l, e.bd) (hm : g.len ≤ 65536) (h0 : ¬ headC g.l = 0) :
    Ret Try.prog 97 [g.v] w0 fun v w' => v = .tuple #[.slice none 0 0, VI ((headC g.l : Nat) : Int)] ∧ Hp w0 w' [] [] := by
  refine ret_mk Try.func97 rfl Try.ntmps97 (by simp) ?_
  have H := Hp.refl w0 []
  have hgl := hg.ln
  have hge := hg.le
  have hgx := hg.mx
  have hmL : maxLen = 9223372036854775807 := rfl
  repeat refine c_seq ?_
  refine c_region ?_
  refine l_op (o_val (r_as) ?_)
  refine l_op (o_val (r_as) ?_)
  first | refine l_end ?_ | refine l_nil ?_
  repeat refine c_seq ?_
  refine c_region ?_
  refine l_op (o_val (r_mv) ?_)
  refine l_op (o_callR Try.func95 rfl rfl rfl (aHeadr_ret _ g (hg.up H) hbl (by (try dsimp only); omega)) ?_)
  rintro _ w ⟨rfl, Hc⟩
  replace H : Hp _ w _ ([]) := H.call Hc
  clear Hc
  refine l_op (o_val (r_mv) ?_)
  refine l_op (o_val (r_ext rfl rfl) ?_)
  refine l_op (o_val (r_ext rfl rfl) ?_)
  refine l_op (o_alloc H zc31 (fun b1 w H hb1 => ?_))
  replace H : Hp _ w _ ([.blk b1 ((List.replicate 32 (0 : UInt8)).map V8) 31]) := H
  refine l_op (o_stA (l' := headV g.l) H (i := 0) rfl rfl rfl cs31 (show (List.replicate 32 (0 : UInt8)).length = 32 from (List.length_replicate ..)) (show (headV g.l).length = 32 from (headV_len _)) (fun w H => ?_))
  replace H : Hp _ w _ ([.blk b1 ((headV g.l).map V8) 31]) := H
  refine l_op (o_val (r_as) ?_)
  first | refine l_end ?_ | refine l_nil ?_
  repeat refine c_seq ?_
  refine c_region ?_
  refine l_op (o_val (r_mv) ?_)
  refine l_op (o_val (r_bin (a := ((headC g.l : Nat) : Int)) (b := 0) rfl rfl (fun _ => b_neqB true (decide_eq_true (by omega)))) ?_)
  first | refine l_end ?_ | refine l_nil ?_
  repeat refine c_seq ?_
  refine c_yes rfl ?_
  repeat refine c_seq ?_
  refine c_region ?_
  refine l_op (o_val (r_mv) ?_)
  refine l_op (o_val (r_as) ?_)
  refine l_op (o_val (r_as) ?_)
  first | refine l_end ?_ | refine l_nil ?_
  refine c_ret ?_
  try dsimp only [Exit.then, Exit.inBlock]
  refine e_retN (vs := [.slice none 0 0, VI ((headC g.l : Nat) : Int)]) _ Try.results97 rfl (resT (v := .slice none 0 0) rfl (resT (v := VI ((headC g.l : Nat) : Int)) rfl (resZ))) ?_
  refine ⟨_, rfl, ?_⟩
  exact ⟨rfl, H.sub (List.nil_sublist _)⟩
end Go.Proofs.Ytjmbbhnpfmblpaa
namespace Go.Proofs.Ytjmbbhnpfmblpaa
open Go
set_option maxRecDepth 100000
/-- a slice from its n-th byte on. -/
def Sl.tl (x : Sl) (n : Nat) : Sl := ⟨sa x.a n x.cap 1, x.len - n, x.cap - n, x.l.drop n⟩
theorem tl_cut (x : Sl) (n : Nat) (h : x.l.length = x.len) : x.cut n x.len x.cap = x.tl n := by
  rw [Sl.cut, Sl.tl, List.take_of_length_le (by simp; omega)]
theorem Sl.ok.tl {w : World} {x : Sl} (hx : x.ok w) {n : Nat} (h : n ≤ x.len) : (x.tl n).ok w := by
  rw [← tl_cut x n hx.ln]; exact hx.cut h (Nat.le_refl _) hx.le (Nat.le_refl _)
theorem r_slTl {P : Program} {n : Nat} {σ : Nat → Value} {w : World} {ty : TypeId} {pos : String} {aft : Array Edge} {g : Option (Nat × Bool)} {d : Nat} {t : TypeId} {x : Operand} {lo hi mx : Option Operand} {s : Sl} (l : Nat) {lv hv mv : Option Value} (hl0 : s.l.length = s.len) (hx : ev n σ x = s.v) (ht : eltOf P t = some 1)
    (hl : lo.map (ev n σ) = lv) (hh : hi.map (ev n σ) = hv) (hm : mx.map (ev n σ) = mv) (hb : ∀ w, (Instr.sliceBounds true s.len s.cap lv hv mv).run P w = .ok (l, s.len, s.cap) w) :
    (execOp (ev n σ) ⟨some d, .slice t x lo hi mx, ty, pos, aft, g⟩).run P w = .ok (.value (s.tl l).v) w := by
  rw [← tl_cut s l hl0]
  exact r_slS l s.len s.cap hx ht hl hh hm hb
end Go.Proofs.Ytjmbbhnpfmblpaa
namespace Go.Proofs.Ytjmbbhnpfmblpaa
open Go
set_option maxRecDepth 100000
def parseF : Nat → List UInt8 → Option (List Ent)
  | 0, b => if b = [] then some [] else none
  | n + 1, b => if b = [] then some [] else if takeC b = 0 then (parseF n (b.drop (takeN b))).map (takeE b :: ·) else none
/-- the entries that stand one behind another. -/
def parse (b : List UInt8) : Option (List Ent) := parseF b.length b
theorem takeN_pos (b : List UInt8) (h : takeC b = 0) : 60 ≤ takeN b := by rw [takeN, if_pos h]; omega
theorem takeE_may (b : List UInt8) (h : takeC b = 0) : mayE (takeE b) = true := by rw [(take_ok b h).1]; exact (take_ok b h).2.2.1
theorem takeE_bd (b : List UInt8) (h : takeC b = 0) : (takeE b).bd := by rw [(take_ok b h).1]; exact (take_ok b h).2.2.2.1
theorem takeE_cut (b : List UInt8) (h : takeC b = 0) : b = entB (takeE b) ++ b.drop (takeN b) := by
  obtain ⟨h1, h2, _, _, h5, _⟩ := take_ok b h
  rw [h1, h2, h5, List.take_append_drop]
theorem parseF_eq : ∀ (n m : Nat) (b : List UInt8), b.length ≤ n → b.length ≤ m → parseF n b = parseF m b
  | 0, m, b, h, _ => by
    have : b = [] := List.length_eq_zero_iff.1 (by omega)
    subst this
    cases m <;> simp [parseF]
  | n + 1, 0, b, _, h => by
    have : b = [] := List.length_eq_zero_iff.1 (by omega)
    subst this
    simp [parseF]
  | n + 1, m + 1, b, h1, h2 => by
    rw [parseF, parseF]
    by_cases hb : b = []
    · rw [if_pos hb, if_pos hb]
    · rw [if_neg hb, if_neg hb]
      by_cases hc : takeC b = 0
      · have hp := takeN_pos b hc
        have hl : b.length ≠ 0 := fun e => hb (List.length_eq_zero_iff.1 e)
        have hd : (b.drop (takeN b)).length = b.length - takeN b := List.length_drop
        rw [if_pos hc, if_pos hc, parseF_eq n m (b.drop (takeN b)) (by omega) (by omega)]
      · rw [if_neg hc, if_neg hc]
theorem parse_nil : parse [] = some [] := by simp [parse, parseF]
theorem parse_cons (b : List UInt8) (hb : b.length ≠ 0) (hc : takeC b = 0) : parse b = (parse (b.drop (takeN b))).map (takeE b :: ·) := by
  have h0 : b ≠ [] := fun e => hb (by rw [e]; rfl)
  have hp := takeN_pos b hc
  have hd : (b.drop (takeN b)).length = b.length - takeN b := List.length_drop
  rw [parse, parseF_eq _ (b.length + 1) b (Nat.le_refl _) (Nat.le_succ _), parseF, if_neg h0, if_pos hc, parse, parseF_eq b.length _ (b.drop (takeN b)) (by omega) (Nat.le_refl _)]
theorem parse_bad (b : List UInt8) (hb : b.length ≠ 0) (hc : takeC b ≠ 0) : parse b = none := by
  have h0 : b ≠ [] := fun e => hb (by rw [e]; rfl)
  rw [parse, parseF_eq _ (b.length + 1) b (Nat.le_refl _) (Nat.le_succ _), parseF, if_neg h0, if_neg hc]
def verC (b h : List UInt8) : Nat :=
  match parse (b.drop 10) with
  | none => 4
  | some l => if 10 ≤ b.length ∧ b.take 10 = [76, 49] ++ be l.length 8 ∧ numbFrom 0 l = true then if headF l = h then 0 else 13 else 4
def verN (b h : List UInt8) : Nat := if verC b h = 0 then ((parse (b.drop 10)).getD []).length else 0
theorem ver_none (b h : List UInt8) (hp : parse (b.drop 10) = none) : verC b h = 4 := by rw [verC, hp]
theorem ver_no (b h : List UInt8) (hn : ∀ l, parse (b.drop 10) = some l → ¬ (10 ≤ b.length ∧ b.take 10 = [76, 49] ++ be l.length 8 ∧ numbFrom 0 l = true)) : verC b h = 4 := by
  cases hp : parse (b.drop 10) with
  | none => exact ver_none b h hp
  | some l => rw [verC, hp]; exact if_neg (hn l hp)
theorem ver_yes (b h : List UInt8) (l : List Ent) (hp : parse (b.drop 10) = some l) (h1 : 10 ≤ b.length) (h2 : b.take 10 = [76, 49] ++ be l.length 8) (h3 : numbFrom 0 l = true) : verC b h = if headF l = h then 0 else 13 := by
  rw [verC, hp]; exact if_pos ⟨h1, h2, h3⟩
theorem verN_len (b h : List UInt8) (l : List Ent) (hp : parse (b.drop 10) = some l) (h0 : verC b h = 0) : verN b h = l.length := by rw [verN, if_pos h0, hp]; rfl
theorem verN_no (b h : List UInt8) (h0 : verC b h ≠ 0) : verN b h = 0 := by rw [verN, if_neg h0]
theorem take10 (b : List UInt8) : b.take 10 = b.take 2 ++ (b.drop 2).take 8 := by rw [← List.take_add]
theorem ver_want (b : List UInt8) (n : Nat) (h10 : 10 ≤ b.length) (h2 : b.take 2 = [76, 49]) (hn : n < 18446744073709551616) : b.take 10 = [76, 49] ++ be n 8 ↔ (num b 2 8).toNat = n := by
  rw [take10, h2]
  constructor
  · intro h
    have h' := List.append_cancel_left h
    rw [num, h', au_ofbe_be _ 8 (by omega), ofNat_nat _ hn]
  · intro h
    rw [← h, au_num_cut b 2 (by omega)]
theorem map_app (o : Option (List Ent)) (L : List Ent) (e : Ent) : (o.map (e :: ·)).map (L ++ ·) = o.map ((L ++ [e]) ++ ·) := by cases o <;> simp
theorem numb_snoc (L : List Ent) (e : Ent) (h : numbFrom 0 L = true) (he : e.seq = (L.length : Int)) : numbFrom 0 (L ++ [e]) = true := by
  rw [numbFrom_iff] at h ⊢
  intro i x hx
  by_cases hi : i < L.length
  · rw [List.getElem?_append_left hi] at hx; exact h i x hx
  · rw [List.getElem?_append_right (by omega)] at hx
    by_cases h0 : i - L.length = 0
    · rw [h0] at hx; cases hx; rw [he]; congr 1; omega
    · rw [List.getElem?_eq_none (by simp; omega)] at hx; cases hx
theorem numb_mid (L r : List Ent) (e : Ent) (he : ¬ e.seq = (L.length : Int)) : ¬ numbFrom 0 (L ++ e :: r) = true := by
  intro h
  rw [numbFrom_iff] at h
  have := h L.length e (by simp)
  exact he (by rw [this]; congr 1; omega)
theorem headF_snoc (L : List Ent) (e : Ent) : headF (L ++ [e]) = linkF (headF L) e := by simp [headF]
theorem expB_len10 (l : List Ent) : 10 ≤ (expB l).length := by simp [expB, be_len]
theorem expB_take (l : List Ent) : (expB l).take 10 = [76, 49] ++ be l.length 8 := by rw [expB, List.take_left' (by simp [be_len])]
theorem expB_drop (l : List Ent) : (expB l).drop 10 = l.flatMap entB := by rw [expB, List.drop_left' (by simp [be_len])]
set_option maxHeartbeats 1000000 in
theorem aVerify_ret (w0 : World) (s : Sl) (hs : s.ok w0) (hm : s.len ≤ 65536) (h : List UInt8) (hh : h.length = 32) :
    Ret Try.prog 98 [s.v, .agg ((h).map V8).toArray] w0 fun v w' => v = .tuple #[VI ((verN s.l h : Nat) : Int), VI ((verC s.l h : Nat) : Int)] ∧ Hp w0 w' [] [] := by
  refine ret_mk Try.func98 rfl Try.ntmps98 (by simp) ?_
  have H := Hp.refl w0 []
  have hsl := hs.ln
  have hse := hs.le
  have hsx := hs.mx
  repeat refine c_seq ?_
  refine c_region ?_
  refine l_op (o_box (v := .agg ((h).map V8).toArray) H rfl (fun b1 w H hb1 => ?_))
  replace H : Hp _ w _ ([.blk b1 ((h).map V8) 31]) := H
  refine l_op (o_val (r_as) ?_)
  refine l_op (o_val (r_as) ?_)
  first | refine l_end ?_ | refine l_nil ?_
  repeat refine c_seq ?_
  refine c_region ?_
  refine l_op (o_val (r_mv) ?_)
  refine l_op (o_val (r_lens el29 rfl) ?_)
  refine l_op (o_val (r_bin (a := (s.len : Int)) (b := 2) rfl rfl (fun _ => b_lss)) ?_)
  refine l_op (o_val (r_mv) ?_)
  by_cases hc2 : (s.len : Int) < 2
  ·
   refine l_no rfl rfl (by exact congrArg Value.bool (decide_eq_true hc2)) rfl ?_
   refine l_no rfl rfl (by exact congrArg Value.bool (decide_eq_true hc2)) rfl ?_
   refine l_no rfl rfl (by exact congrArg Value.bool (decide_eq_true hc2)) rfl ?_
   refine l_no rfl rfl (by exact congrArg Value.bool (decide_eq_true hc2)) rfl ?_
   refine l_op (o_val (r_pick (b := true) (congrArg Value.bool (decide_eq_true hc2))) ?_)
   first | refine l_end ?_ | refine l_nil ?_
   repeat refine c_seq ?_
   refine c_yes rfl ?_
   repeat refine c_seq ?_
   refine c_region ?_
   refine l_op (o_val (r_as) ?_)
   refine l_op (o_val (r_as) ?_)
   first | refine l_end ?_ | refine l_nil ?_
   refine c_ret ?_
   try dsimp only [Exit.then, Exit.inBlock]
   refine e_retN (vs := [VI 0, VI 4]) _ Try.results98 rfl (resT (v := VI 0) rfl (resT (v := VI 4) rfl (resZ))) ?_
   refine ⟨_, rfl, ?_⟩
   have hc : verC s.l h = 4 := ver_no _ _ fun l _ hx => by
     obtain ⟨h1, h2, h3⟩ := hx
     have h2t := congrArg (List.take 2) h2
     rw [List.take_take] at h2t
     simp at h2t
     first | omega | simp_all
   refine ⟨?_, H.sub (List.nil_sublist _)⟩
   rw [verN_no _ _ (by rw [hc]; decide), hc]
   rfl
  ·
   refine l_yes rfl rfl (by exact congrArg Value.bool (decide_eq_false hc2)) (o_val (r_mv) ?_)
   refine l_yes rfl rfl (by exact congrArg Value.bool (decide_eq_false hc2)) (o_val (r_slS (s := s) 0 2 s.cap (lv := none) (hv := some (VI 2)) (mv := none) rfl el29 rfl rfl rfl (fun w => by exact sbh 2 (by omega) (by (try simp only [Sl.cut]); omega) w)) ?_)
   refine l_yes rfl rfl (by exact congrArg Value.bool (decide_eq_false hc2)) (o_val (r_b2S (s := (Sl.cut s 0 2 s.cap)) Try.underlying29 Try.underlying5 Try.underlying9 rfl ((hs.up H (fun _ => apart_nil _)).cut (l := 0) (h := 2) (m := s.cap) (by omega) (by (try simp only [Sl.cut]); omega) (by omega) (by (try simp only [Sl.cut]); omega))) ?_)
   refine l_yes rfl rfl (by exact congrArg Value.bool (decide_eq_false hc2)) (o_val (r_strne (a := ((s.l).drop 0).take (2)) (b := ([76,49] : List UInt8)) rfl rfl) ?_)
   refine l_op (o_val (r_pick (b := false) (congrArg Value.bool (decide_eq_false hc2))) ?_)
   first | refine l_end ?_ | refine l_nil ?_
   by_cases hc3 : ((s.l).drop 0).take (2) = ([76,49] : List UInt8)
   ·
    repeat refine c_seq ?_
    refine c_no (by exact congrArg Value.bool (congrArg not (decide_eq_true hc3))) ?_
    refine c_skip ?_
    have hpre : s.l.take 2 = [76, 49] := by simpa using of_decide_eq_true (decide_eq_true hc3)
    repeat refine c_seq ?_
    refine c_region ?_
    refine l_op (o_val (r_mv) ?_)
    by_cases hc4 : 2 + 8 ≤ s.len
    ·
     refine l_op (o_callR Try.func112 rfl rfl rfl (at_ok _ s (hs.up H (fun _ => apart_nil _)) 2 8 (by omega) (by omega) (by omega) (by (try dsimp only); omega)) ?_)
     rintro _ w ⟨rfl, Hc⟩
     replace H : Hp _ w _ ([_]) := H.call Hc
     clear Hc
     refine l_op (o_val (r_mv) ?_)
     refine l_op (o_val (r_ext rfl rfl) ?_)
     refine l_op (o_val (r_ext rfl rfl) ?_)
     refine l_op (o_val (r_as) ?_)
     refine l_op (o_val (r_as) ?_)
     first | refine l_end ?_ | refine l_nil ?_
     repeat refine c_seq ?_
     refine c_region ?_
     refine l_op (o_val (r_mv) ?_)
     refine l_op (o_val (r_bin (a := 0) (b := 0) rfl rfl (fun _ => b_neqB false (decide_eq_false (by decide)))) ?_)
     first | refine l_end ?_ | refine l_nil ?_
     repeat refine c_seq ?_
     refine c_no rfl ?_
     refine c_skip ?_
     repeat refine c_seq ?_
     refine c_region ?_
     refine l_op (o_val (r_mv) ?_)
     refine l_op (o_val (r_slTl (s := s) 10 (lv := some (VI 10)) (hs).ln rfl el29 rfl rfl rfl (fun w => by exact sbl 10 (by omega) (by omega) w)) ?_)
     refine l_op (o_val (r_as) ?_)
     first | refine l_end ?_ | refine l_nil ?_
     repeat refine c_seq ?_
     refine c_region ?_
     refine l_op (o_val (r_bld' (pv := []) bd31 rfl rfl) ?_)
     refine l_op (o_alloc H zc31 (fun b5 w H hb5 => ?_))
     replace H : Hp _ w _ ([_, .blk b5 ((List.replicate 32 (0 : UInt8)).map V8) 31]) := H
     refine l_op (o_val (r_as) ?_)
     refine l_op (o_stA (l' := List.replicate 32 (0 : UInt8)) H (i := 1) rfl rfl rfl cs31 (show (List.replicate 32 (0 : UInt8)).length = 32 from (List.length_replicate ..)) (show (List.replicate 32 (0 : UInt8)).length = 32 from (List.length_replicate ..)) (fun w H => ?_))
     replace H : Hp _ w _ [_, _] := H
     first | refine l_end ?_ | refine l_nil ?_
     repeat refine c_seq ?_
     refine c_block ?_
     repeat refine c_seq ?_
     refine c_loop2 (fun (u : Sl) (L : List Ent) => [(0, u.v), (3, .pointer (some ⟨b1, 0, none⟩)), (6, V64 (num (s.l) 2 8)), (8, VI (L.length : Int)), (9, .pointer (some ⟨b5, 0, none⟩))])
       (fun (u : Sl) (L : List Ent) w => (u.ok w0 ∧ parse (s.l.drop 10) = (parse u.l).map (L ++ ·) ∧ numbFrom 0 L = true ∧ L.length + u.len ≤ s.len) ∧ Hp w0 w [] ([.blk b1 ((h).map V8) 31, .blk b5 ((headF L).map V8) 31]))
       (fun (u : Sl) (L : List Ent) => u.len) (s.tl 10) ([]) ⟨rfl, rfl, rfl, rfl, rfl, trivial⟩ ⟨⟨hs.tl (by omega), (by show parse (s.l.drop 10) = (parse (s.l.drop 10)).map ([] ++ ·); simp), rfl, (by show 0 + (s.len - 10) ≤ s.len; omega)⟩, H⟩ ?_
     clear H
     rintro u L τ w ⟨⟨hu, hpar, hnb, hLu⟩, H⟩
     have hul := hu.ln
     have hue := hu.le
     have hux := hu.mx
     have htn := takeN_le u.l
     repeat refine c_seq ?_
     refine c_region ?_
     refine l_op (o_val (r_mv) ?_)
     refine l_op (o_val (r_lens el29 rfl) ?_)
     refine l_op (o_val (r_bin (a := (u.len : Int)) (b := 0) rfl rfl (fun _ => b_gtr)) ?_)
     first | refine l_end ?_ | refine l_nil ?_
     by_cases hc6 : 0 < (u.len : Int)
     ·
      repeat refine c_seq ?_
      refine c_yes (by exact congrArg Value.bool (decide_eq_true hc6)) ?_
      refine c_skip ?_
      repeat refine c_seq ?_
      refine c_block ?_
      repeat refine c_seq ?_
      refine c_region ?_
      refine l_op (o_val (r_mv) ?_)
      refine l_op (o_callR Try.func91 rfl rfl rfl (aTake_ret _ u (hu.up H (fun _ => apart_nil _)) (show u.len ≤ 1048576 by omega)) ?_)
      rintro _ w ⟨rfl, Hc⟩
      replace H : Hp _ w _ ([_, _]) := H.call Hc
      clear Hc
      refine l_op (o_val (r_mv) ?_)
      refine l_op (o_val (r_ext rfl rfl) ?_)
      refine l_op (o_val (r_ext rfl rfl) ?_)
      refine l_op (o_val (r_ext rfl rfl) ?_)
      refine l_op (o_alloc H zc95 (fun b7 w H hb7 => ?_))
      replace H : Hp _ w _ ([_, _, .blk b7 ([VI 0, VI 0, V64 (0 : UInt64), .string ⟨(([] : List UInt8)).toArray⟩, VI 0, VI 0] ++ (List.replicate 32 (0 : UInt8)).map V8) 95]) := H
      refine l_op (o_stW (C' := [VI ((takeE u.l).seq), VI ((takeE u.l).tick), V64 ((takeE u.l).serial), .string ⟨((takeE u.l).tenant).toArray⟩, VI ((takeE u.l).do_), VI ((takeE u.l).status)] ++ ((takeE u.l).of_).map V8) H (i := 2) rfl rfl rfl cs95 (by simp [Value.oneCell']) (by rw [List.length_append, List.length_map, (show (List.replicate 32 (0 : UInt8)).length = 32 from (List.length_replicate ..))]; rfl) (by rw [List.length_append, List.length_map, (show ((takeE u.l).of_).length = 32 from (takeE_of _))]; rfl) (fun w H => ?_))
      replace H : Hp _ w _ ([_, _, .blk b7 ([VI ((takeE u.l).seq), VI ((takeE u.l).tick), V64 ((takeE u.l).serial), .string ⟨((takeE u.l).tenant).toArray⟩, VI ((takeE u.l).do_), VI ((takeE u.l).status)] ++ ((takeE u.l).of_).map V8) 95]) := H
      refine l_op (o_val (r_as) ?_)
      refine l_op (o_val (r_as) ?_)
      first | refine l_end ?_ | refine l_nil ?_
      repeat refine c_seq ?_
      refine c_region ?_
      refine l_op (o_val (r_mv) ?_)
      refine l_op (o_val (r_bin (a := ((takeC u.l : Nat) : Int)) (b := 0) rfl rfl (fun _ => b_neq)) ?_)
      refine l_op (o_val (r_mv) ?_)
      by_cases hc8 : ((takeC u.l : Nat) : Int) ≠ 0
      ·
       refine l_no rfl rfl (by exact congrArg Value.bool (decide_eq_true hc8)) rfl ?_
       refine l_no rfl rfl (by exact congrArg Value.bool (decide_eq_true hc8)) rfl ?_
       refine l_no rfl rfl (by exact congrArg Value.bool (decide_eq_true hc8)) rfl ?_
       refine l_no rfl rfl (by exact congrArg Value.bool (decide_eq_true hc8)) rfl ?_
       refine l_op (o_val (r_pick (b := true) (congrArg Value.bool (decide_eq_true hc8))) ?_)
       first | refine l_end ?_ | refine l_nil ?_
       repeat refine c_seq ?_
       refine c_yes rfl ?_
       repeat refine c_seq ?_
       refine c_region ?_
       refine l_op (o_val (r_as) ?_)
       refine l_op (o_val (r_as) ?_)
       first | refine l_end ?_ | refine l_nil ?_
       refine c_ret ?_
       try dsimp only [Exit.then, Exit.inBlock]
       refine e_retN (vs := [VI 0, VI 4]) _ Try.results98 rfl (resT (v := VI 0) rfl (resT (v := VI 4) rfl (resZ))) ?_
       refine ⟨_, rfl, ?_⟩
       have hc : verC s.l h = 4 := by
         by_cases htc : takeC u.l = 0
         · refine ver_no _ _ fun l hl hx => ?_
           rw [hpar, parse_cons u.l (by omega) htc, map_app] at hl
           cases hr : parse (u.l.drop (takeN u.l)) with
           | none => rw [hr] at hl; cases hl
           | some r =>
             rw [hr] at hl
             cases hl
             have hsq : ¬ (takeE u.l).seq = (L.length : Int) := by omega
             exact numb_mid L r _ hsq (by simpa using hx.2.2)
         · exact ver_none _ _ (by rw [hpar, parse_bad u.l (by omega) htc]; rfl)
       refine ⟨?_, H.sub (List.nil_sublist _)⟩
       rw [verN_no _ _ (by rw [hc]; decide), hc]
       rfl
      ·
       refine l_yes rfl rfl (by exact congrArg Value.bool (decide_eq_false hc8)) (o_val (r_fa rfl fo95_0) ?_)
       refine l_yes rfl rfl (by exact congrArg Value.bool (decide_eq_false hc8)) (o_val (r_ld (v := VI ((takeE u.l).seq)) H (i := 2) rfl rfl ct2 rfl) ?_)
       refine l_yes rfl rfl (by exact congrArg Value.bool (decide_eq_false hc8)) (o_val (r_mv) ?_)
       refine l_yes rfl rfl (by exact congrArg Value.bool (decide_eq_false hc8)) (o_val (r_bin (a := (takeE u.l).seq) (b := (L.length : Int)) rfl rfl (fun _ => b_neq)) ?_)
       refine l_op (o_val (r_pick (b := false) (congrArg Value.bool (decide_eq_false hc8))) ?_)
       first | refine l_end ?_ | refine l_nil ?_
       by_cases hc9 : (takeE u.l).seq ≠ (L.length : Int)
       ·
        repeat refine c_seq ?_
        refine c_yes (by exact congrArg Value.bool (decide_eq_true hc9)) ?_
        repeat refine c_seq ?_
        refine c_region ?_
        refine l_op (o_val (r_as) ?_)
        refine l_op (o_val (r_as) ?_)
        first | refine l_end ?_ | refine l_nil ?_
        refine c_ret ?_
        try dsimp only [Exit.then, Exit.inBlock]
        refine e_retN (vs := [VI 0, VI 4]) _ Try.results98 rfl (resT (v := VI 0) rfl (resT (v := VI 4) rfl (resZ))) ?_
        refine ⟨_, rfl, ?_⟩
        have hc : verC s.l h = 4 := by
          by_cases htc : takeC u.l = 0
          · refine ver_no _ _ fun l hl hx => ?_
            rw [hpar, parse_cons u.l (by omega) htc, map_app] at hl
            cases hr : parse (u.l.drop (takeN u.l)) with
            | none => rw [hr] at hl; cases hl
            | some r =>
              rw [hr] at hl
              cases hl
              have hsq : ¬ (takeE u.l).seq = (L.length : Int) := by omega
              exact numb_mid L r _ hsq (by simpa using hx.2.2)
          · exact ver_none _ _ (by rw [hpar, parse_bad u.l (by omega) htc]; rfl)
        refine ⟨?_, H.sub (List.nil_sublist _)⟩
        rw [verN_no _ _ (by rw [hc]; decide), hc]
        rfl
       ·
        repeat refine c_seq ?_
        refine c_no (by exact congrArg Value.bool (decide_eq_false hc9)) ?_
        refine c_skip ?_
        have htc : takeC u.l = 0 := by omega
        have hseq : (takeE u.l).seq = (L.length : Int) := by omega
        have htp := takeN_pos u.l htc
        repeat refine c_seq ?_
        refine c_region ?_
        refine l_op (o_val (r_ldAA (l := headF L) H (i := 1) rfl rfl rt31 (show (headF L).length = 32 from (headF_len _))) ?_)
        refine l_op (o_val (r_ldA (C := [VI ((takeE u.l).seq), VI ((takeE u.l).tick), V64 ((takeE u.l).serial), .string ⟨((takeE u.l).tenant).toArray⟩, VI ((takeE u.l).do_), VI ((takeE u.l).status)] ++ ((takeE u.l).of_).map V8) H (i := 2) rfl rfl rt95 (by rw [List.length_append, List.length_map, (show ((takeE u.l).of_).length = 32 from (takeE_of _))]; rfl)) ?_)
        have hk10 : (mayE (takeE u.l)) = true := (takeE_may _ htc)
        refine l_op (o_callR Try.func87 rfl rfl rfl (aLink_ok _ (headF L) (show (headF L).length = 32 from (headF_len _)) (takeE u.l) (show ((takeE u.l).of_).length = 32 from (takeE_of _)) (takeE_bd _ htc) hk10) ?_)
        rintro _ w ⟨rfl, Hc⟩
        replace H : Hp _ w _ ([_, _, _]) := H.call Hc
        clear Hc
        refine l_op (o_val (r_mv) ?_)
        refine l_op (o_val (r_ext rfl rfl) ?_)
        refine l_op (o_val (r_ext rfl rfl) ?_)
        refine l_op (o_stA (l' := linkF (headF L) (takeE u.l)) H (i := 1) rfl rfl rfl cs31 (show (headF L).length = 32 from (headF_len _)) (show (linkF (headF L) (takeE u.l)).length = 32 from (linkF_len _ _)) (fun w H => ?_))
        replace H : Hp _ w _ ([_, .blk b5 ((linkF (headF L) (takeE u.l)).map V8) 31, _]) := H
        first | refine l_end ?_ | refine l_nil ?_
        repeat refine c_seq ?_
        refine c_region ?_
        refine l_op (o_val (r_mv) ?_)
        refine l_op (o_val (r_mv) ?_)
        refine l_op (o_val (r_slTl (s := u) (takeN u.l) (lv := some (VI ((takeN u.l : Nat) : Int))) (hu).ln rfl el29 rfl rfl rfl (fun w => by exact sbl (takeN u.l) (by omega) (by omega) w)) ?_)
        refine l_op (o_val (r_as) ?_)
        first | refine l_end ?_ | refine l_nil ?_
        repeat refine c_seq ?_
        refine c_region ?_
        refine l_op (o_val (r_mv) ?_)
        refine l_op (o_val (r_bin (a := (L.length : Int)) (b := 1) rfl rfl (fun _ => b_add (by omega) (by omega))) ?_)
        refine l_op (o_val (r_as) ?_)
        first | refine l_end ?_ | refine l_nil ?_
        rw [← headF_snoc] at H
        refine round_end (u.tl (takeN u.l), L ++ [takeE u.l]) ?_ ?_ ?_
        · exact ⟨rfl, rfl, rfl, show VI ((L.length : Int) + 1) = VI ((L ++ [takeE u.l] : List Ent).length : Int) from congrArg VI (by simp), rfl, trivial⟩
        · refine ⟨?_, ?_⟩
          · try dsimp only
            exact ⟨hu.tl (by omega), by rw [hpar, parse_cons u.l (by omega) htc, map_app]; rfl, numb_snoc L _ hnb hseq, by have : (u.tl (takeN u.l)).len = u.len - takeN u.l := rfl; rw [List.length_append, List.length_singleton]; omega⟩
          · exact H.sub (.cons_cons _ (.cons_cons _ (List.nil_sublist _)))
        · show u.len - takeN u.l < u.len; omega
     ·
      repeat refine c_seq ?_
      refine c_no (by exact congrArg Value.bool (decide_eq_false hc6)) ?_
      refine c_exit ?_
      repeat refine c_seq ?_
      refine c_block ?_
      have hul0 : u.l = [] := List.length_eq_zero_iff.1 (by omega)
      have hparL : parse (s.l.drop 10) = some L := by rw [hpar, hul0, parse_nil]; simp
      have oL : (UInt64.ofNat L.length).toNat = L.length := ofNat_nat _ (by omega)
      repeat refine c_seq ?_
      refine c_region ?_
      refine l_op (o_val (r_mv) ?_)
      refine l_op (o_val (r_conv (v := ((UInt64.ofNat L.length).toNat : Int)) Try.underlying3 Try.underlying35 rfl (w_u64_N L.length (by omega))) ?_)
      refine l_op (o_val (r_mv) ?_)
      refine l_op (o_val (r_bin (a := ((UInt64.ofNat L.length).toNat : Int)) (b := ((num (s.l) 2 8).toNat : Int)) rfl rfl (fun _ => b_neq)) ?_)
      refine l_op (o_val (r_as) ?_)
      first | refine l_end ?_ | refine l_nil ?_
      by_cases hc11 : ((UInt64.ofNat L.length).toNat : Int) ≠ ((num (s.l) 2 8).toNat : Int)
      ·
       repeat refine c_seq ?_
       refine c_yes (by exact congrArg Value.bool (decide_eq_true hc11)) ?_
       repeat refine c_seq ?_
       refine c_region ?_
       refine l_op (o_val (r_as) ?_)
       refine l_op (o_val (r_as) ?_)
       first | refine l_end ?_ | refine l_nil ?_
       refine c_ret ?_
       try dsimp only [Exit.then, Exit.inBlock]
       refine e_retN (vs := [VI 0, VI 4]) _ Try.results98 rfl (resT (v := VI 0) rfl (resT (v := VI 4) rfl (resZ))) ?_
       refine ⟨_, rfl, ?_⟩
       have hc : verC s.l h = 4 := by
         refine ver_no _ _ fun l hl hx => ?_
         rw [hparL] at hl
         cases hl
         have := (ver_want s.l L.length (by omega) hpre (by omega)).1 hx.2.1
         omega
       refine ⟨?_, H.sub (List.nil_sublist _)⟩
       rw [verN_no _ _ (by rw [hc]; decide), hc]
       rfl
      ·
       repeat refine c_seq ?_
       refine c_no (by exact congrArg Value.bool (decide_eq_false hc11)) ?_
       repeat refine c_seq ?_
       refine c_region ?_
       refine l_op (o_val (r_ldAA (l := headF L) H (i := 1) rfl rfl rt31 (show (headF L).length = 32 from (headF_len _))) ?_)
       refine l_op (o_val (r_ldAA (l := h) H (i := 0) rfl rfl rt31 (show (h).length = 32 from hh)) ?_)
       refine l_op (o_val (r_nea (a := headF L) (b := h) Try.underlying31 Try.underlying5 cs5 rfl rfl (show (headF L).length = 32 from (headF_len _)) (show (h).length = 32 from hh)) ?_)
       refine l_op (o_val (r_as) ?_)
       first | refine l_end ?_ | refine l_nil ?_
       by_cases hc12 : headF L = h
       ·
        repeat refine c_seq ?_
        refine c_no (by exact congrArg Value.bool (congrArg not (decide_eq_true hc12))) ?_
        refine c_skip ?_
        repeat refine c_seq ?_
        refine c_region ?_
        refine l_op (o_val (r_mv) ?_)
        refine l_op (o_val (r_as) ?_)
        refine l_op (o_val (r_as) ?_)
        first | refine l_end ?_ | refine l_nil ?_
        refine c_ret ?_
        try dsimp only [Exit.then, Exit.inBlock]
        refine e_retN (vs := [VI (L.length : Int), VI 0]) _ Try.results98 rfl (resT (v := VI (L.length : Int)) rfl (resT (v := VI 0) rfl (resZ))) ?_
        refine ⟨_, rfl, ?_⟩
        have hw : s.l.take 10 = [76, 49] ++ be L.length 8 := (ver_want s.l L.length (by omega) hpre (by omega)).2 (by omega)
        have hv := ver_yes s.l h L hparL (by omega) hw hnb
        rw [if_pos (of_decide_eq_true (decide_eq_true hc12))] at hv
        refine ⟨?_, H.sub (List.nil_sublist _)⟩
        rw [verN_len _ _ L hparL hv, hv]
        rfl
       ·
        repeat refine c_seq ?_
        refine c_yes (by exact congrArg Value.bool (congrArg not (decide_eq_false hc12))) ?_
        repeat refine c_seq ?_
        refine c_region ?_
        refine l_op (o_val (r_as) ?_)
        refine l_op (o_val (r_as) ?_)
        first | refine l_end ?_ | refine l_nil ?_
        refine c_ret ?_
        try dsimp only [Exit.then, Exit.inBlock]
        refine e_retN (vs := [VI 0, VI 13]) _ Try.results98 rfl (resT (v := VI 0) rfl (resT (v := VI 13) rfl (resZ))) ?_
        refine ⟨_, rfl, ?_⟩
        have hw : s.l.take 10 = [76, 49] ++ be L.length 8 := (ver_want s.l L.length (by omega) hpre (by omega)).2 (by omega)
        have hv := ver_yes s.l h L hparL (by omega) hw hnb
        rw [if_neg (of_decide_eq_false (decide_eq_false hc12))] at hv
        refine ⟨?_, H.sub (List.nil_sublist _)⟩
        rw [verN_no _ _ (by rw [hv]; decide), hv]
        rfl
    ·
     refine l_op (o_callR Try.func112 rfl rfl rfl (at_short _ s (hs.up H (fun _ => apart_nil _)) 2 8 (by omega) (by omega) (by omega) (by (try dsimp only); omega)) ?_)
     rintro _ w ⟨rfl, Hc⟩
     replace H : Hp _ w _ ([_]) := H.call Hc
     clear Hc
     refine l_op (o_val (r_mv) ?_)
     refine l_op (o_val (r_ext rfl rfl) ?_)
     refine l_op (o_val (r_ext rfl rfl) ?_)
     refine l_op (o_val (r_as) ?_)
     refine l_op (o_val (r_as) ?_)
     first | refine l_end ?_ | refine l_nil ?_
     repeat refine c_seq ?_
     refine c_region ?_
     refine l_op (o_val (r_mv) ?_)
     refine l_op (o_val (r_bin (a := 3) (b := 0) rfl rfl (fun _ => b_neqB true (decide_eq_true (by decide)))) ?_)
     first | refine l_end ?_ | refine l_nil ?_
     repeat refine c_seq ?_
     refine c_yes rfl ?_
     repeat refine c_seq ?_
     refine c_region ?_
     refine l_op (o_val (r_as) ?_)
     refine l_op (o_val (r_as) ?_)
     first | refine l_end ?_ | refine l_nil ?_
     refine c_ret ?_
     try dsimp only [Exit.then, Exit.inBlock]
     refine e_retN (vs := [VI 0, VI 4]) _ Try.results98 rfl (resT (v := VI 0) rfl (resT (v := VI 4) rfl (resZ))) ?_
     refine ⟨_, rfl, ?_⟩
     have hc : verC s.l h = 4 := ver_no _ _ fun l _ hx => by
       obtain ⟨h1, h2, h3⟩ := hx
       have h2t := congrArg (List.take 2) h2
       rw [List.take_take] at h2t
       simp at h2t
       first | omega | simp_all
     refine ⟨?_, H.sub (List.nil_sublist _)⟩
     rw [verN_no _ _ (by rw [hc]; decide), hc]
     rfl
   ·
    repeat refine c_seq ?_
    refine c_yes (by exact congrArg Value.bool (congrArg not (decide_eq_false hc3))) ?_
    repeat refine c_seq ?_
    refine c_region ?_
    refine l_op (o_val (r_as) ?_)
    refine l_op (o_val (r_as) ?_)
    first | refine l_end ?_ | refine l_nil ?_
    refine c_ret ?_
    try dsimp only [Exit.then, Exit.inBlock]
    refine e_retN (vs := [VI 0, VI 4]) _ Try.results98 rfl (resT (v := VI 0) rfl (resT (v := VI 4) rfl (resZ))) ?_
    refine ⟨_, rfl, ?_⟩
    have hc : verC s.l h = 4 := ver_no _ _ fun l _ hx => by
      obtain ⟨h1, h2, h3⟩ := hx
      have h2t := congrArg (List.take 2) h2
      rw [List.take_take] at h2t
      simp at h2t
      first | omega | simp_all
    refine ⟨?_, H.sub (List.nil_sublist _)⟩
    rw [verN_no _ _ (by rw [hc]; decide), hc]
    rfl
set_option maxHeartbeats 1000000 in
theorem aVerifyr_ret (w0 : World) (s : Sl) (hs : s.ok w0) (hm : s.len ≤ 65536) (h : List UInt8) (hh : h.length = 32) :
    Ret Try.prog 99 [s.v, .agg ((h).map V8).toArray] w0 fun v w' => v = .tuple #[VI ((verN s.l h : Nat) : Int), VI ((verC s.l h : Nat) : Int)] ∧ Hp w0 w' [] [] := by
  refine ret_mk Try.func99 rfl Try.ntmps99 (by simp) ?_
  have H := Hp.refl w0 []
  have hsl := hs.ln
  have hse := hs.le
  have hsx := hs.mx
  repeat refine c_seq ?_
  refine c_region ?_
  refine l_op (o_box (v := .agg ((h).map V8).toArray) H rfl (fun b1 w H hb1 => ?_))
  replace H : Hp _ w _ ([.blk b1 ((h).map V8) 31]) := H
  refine l_op (o_val (r_as) ?_)
  refine l_op (o_val (r_as) ?_)
  first | refine l_end ?_ | refine l_nil ?_
  repeat refine c_seq ?_
  refine c_region ?_
  refine l_op (o_val (r_as) ?_)
  first | refine l_end ?_ | refine l_nil ?_
  repeat refine c_seq ?_
  refine c_region ?_
  refine l_op (o_val (r_as) ?_)
  first | refine l_end ?_ | refine l_nil ?_
  repeat refine c_seq ?_
  refine c_block ?_
  repeat refine c_seq ?_
  refine c_loop5 (fun (p : Nat) (L : List Ent) (a : Option Nat) (n : Nat) (k : Nat) => [(0, s.v), (3, .pointer (some ⟨b1, 0, none⟩)), (6, .slice (hd a) n k), (7, VI (p : Int))])
    (fun (p : Nat) (L : List Ent) (a : Option Nat) (n : Nat) (k : Nat) w => (10 ≤ p ∧ (p = 10 ∨ p ≤ s.len) ∧ parse (s.l.drop 10) = (parse (s.l.drop p)).map (L ++ ·) ∧ s.l.drop 10 = L.flatMap entB ++ s.l.drop p ∧ (∀ c ∈ L, mayE c = true ∧ c.bd ∧ c.of_.length = 32) ∧ n + 10 ≤ p) ∧ Hp w0 w [] ([.blk b1 ((h).map V8) 31, .own a n k ((L).flatMap entE) 95 38]))
    (fun (p : Nat) (L : List Ent) (a : Option Nat) (n : Nat) (k : Nat) => s.len - p) 10 ([]) none 0 0 ⟨rfl, rfl, rfl, rfl, trivial⟩ ⟨⟨Nat.le_refl _, .inl rfl, (by cases parse (s.l.drop 10) <;> simp), (by simp), (fun c hc => by cases hc), Nat.le_refl _⟩, (H.nilEnd 95 38)⟩ ?_
  clear H
  rintro p L a n k τ w ⟨⟨hp10, hpl, hpar, hcat, hL, hnp⟩, H⟩
  have hdl : (s.l.drop p).length = s.len - p := by rw [List.length_drop, hsl]
  have htn := takeN_le (s.l.drop p)
  repeat refine c_seq ?_
  refine c_region ?_
  refine l_op (o_val (r_mv) ?_)
  refine l_op (o_val (r_mv) ?_)
  refine l_op (o_val (r_lens el29 rfl) ?_)
  refine l_op (o_val (r_bin (a := (p : Int)) (b := (s.len : Int)) rfl rfl (fun _ => b_lss)) ?_)
  first | refine l_end ?_ | refine l_nil ?_
  by_cases hc2 : (p : Int) < (s.len : Int)
  ·
   repeat refine c_seq ?_
   refine c_yes (by exact congrArg Value.bool (decide_eq_true hc2)) ?_
   refine c_skip ?_
   repeat refine c_seq ?_
   refine c_block ?_
   repeat refine c_seq ?_
   refine c_region ?_
   refine l_op (o_val (r_mv) ?_)
   refine l_op (o_val (r_mv) ?_)
   refine l_op (o_val (r_slTl (s := s) p (lv := some (VI (p : Int))) (hs).ln rfl el29 rfl rfl rfl (fun w => by exact sbl p (by omega) (by omega) w)) ?_)
   refine l_op (o_callR Try.func92 rfl rfl rfl (aTaker_ret _ (s.tl p) (((hs.up H (fun _ => apart_nil _))).tl (n := p) (by omega)) (show s.len - p ≤ 1048576 by omega)) ?_)
   rintro _ w ⟨rfl, Hc⟩
   replace H : Hp _ w _ ([_, _]) := H.call Hc
   clear Hc
   refine l_op (o_val (r_mv) ?_)
   refine l_op (o_val (r_ext rfl rfl) ?_)
   refine l_op (o_val (r_ext rfl rfl) ?_)
   refine l_op (o_val (r_ext rfl rfl) ?_)
   refine l_op (o_alloc H zc95 (fun b3 w H hb3 => ?_))
   replace H : Hp _ w _ ([_, _, .blk b3 ([VI 0, VI 0, V64 (0 : UInt64), .string ⟨(([] : List UInt8)).toArray⟩, VI 0, VI 0] ++ (List.replicate 32 (0 : UInt8)).map V8) 95]) := H
   refine l_op (o_stW (C' := [VI ((takeE (s.l.drop p)).seq), VI ((takeE (s.l.drop p)).tick), V64 ((takeE (s.l.drop p)).serial), .string ⟨((takeE (s.l.drop p)).tenant).toArray⟩, VI ((takeE (s.l.drop p)).do_), VI ((takeE (s.l.drop p)).status)] ++ ((takeE (s.l.drop p)).of_).map V8) H (i := 2) rfl rfl rfl cs95 (all_tail (by simp [Value.oneCell'])) (by rw [List.length_append, List.length_map, (show (List.replicate 32 (0 : UInt8)).length = 32 from (List.length_replicate ..))]; rfl) (by rw [List.length_append, List.length_map, (show ((takeE (s.l.drop p)).of_).length = 32 from (takeE_of _))]; rfl) (fun w H => ?_))
   replace H : Hp _ w _ ([_, _, .blk b3 ([VI ((takeE (s.l.drop p)).seq), VI ((takeE (s.l.drop p)).tick), V64 ((takeE (s.l.drop p)).serial), .string ⟨((takeE (s.l.drop p)).tenant).toArray⟩, VI ((takeE (s.l.drop p)).do_), VI ((takeE (s.l.drop p)).status)] ++ ((takeE (s.l.drop p)).of_).map V8) 95]) := H
   refine l_op (o_val (r_as) ?_)
   refine l_op (o_val (r_as) ?_)
   first | refine l_end ?_ | refine l_nil ?_
   repeat refine c_seq ?_
   refine c_region ?_
   refine l_op (o_val (r_mv) ?_)
   refine l_op (o_val (r_bin (a := ((takeC (s.l.drop p) : Nat) : Int)) (b := 0) rfl rfl (fun _ => b_neq)) ?_)
   first | refine l_end ?_ | refine l_nil ?_
   by_cases hc4 : ((takeC (s.l.drop p) : Nat) : Int) ≠ 0
   ·
    repeat refine c_seq ?_
    refine c_yes (by exact congrArg Value.bool (decide_eq_true hc4)) ?_
    repeat refine c_seq ?_
    refine c_region ?_
    refine l_op (o_val (r_as) ?_)
    refine l_op (o_val (r_as) ?_)
    first | refine l_end ?_ | refine l_nil ?_
    refine c_ret ?_
    try dsimp only [Exit.then, Exit.inBlock]
    refine e_retN (vs := [VI 0, VI 4]) _ Try.results99 rfl (resT (v := VI 0) rfl (resT (v := VI 4) rfl (resZ))) ?_
    refine ⟨_, rfl, ?_⟩
    have hc : verC s.l h = 4 := ver_none _ _ (by rw [hpar, parse_bad (s.l.drop p) (by omega) (by omega)]; rfl)
    refine ⟨?_, H.sub (List.nil_sublist _)⟩
    rw [verN_no _ _ (by rw [hc]; decide), hc]
    rfl
   ·
    repeat refine c_seq ?_
    refine c_no (by exact congrArg Value.bool (decide_eq_false hc4)) ?_
    refine c_skip ?_
    have htc : takeC (s.l.drop p) = 0 := by omega
    have htp := takeN_pos (s.l.drop p) htc
    repeat refine c_seq ?_
    refine c_region ?_
    refine l_op (o_val (r_mv) ?_)
    refine l_op (o_val (r_ldA (C := [VI ((takeE (s.l.drop p)).seq), VI ((takeE (s.l.drop p)).tick), V64 ((takeE (s.l.drop p)).serial), .string ⟨((takeE (s.l.drop p)).tenant).toArray⟩, VI ((takeE (s.l.drop p)).do_), VI ((takeE (s.l.drop p)).status)] ++ ((takeE (s.l.drop p)).of_).map V8) H (i := 2) rfl rfl rt95 (by rw [List.length_append, List.length_map, (show ((takeE (s.l.drop p)).of_).length = 32 from (takeE_of _))]; rfl)) ?_)
    refine l_op (o_bslG1 (enc := entE) ((takeE (s.l.drop p))) H sl97 zc95 (by rfl) (by decide) (by decide) rfl (ent_len (show ((takeE (s.l.drop p)).of_).length = 32 from (takeE_of _))) (fun b5 w H hb5 => ?_))
    replace H : Hp _ w _ ([_, _, _, .own (some b5) 1 1 (([(takeE (s.l.drop p))]).flatMap entE) 95 38]) := H
    refine l_op (o_appG (enc := entE) (s := ⟨hd (some b5), 1, 1, [(takeE (s.l.drop p))]⟩) (l' := L ++ ([(takeE (s.l.drop p))])) (len' := n + 1) rfl rfl H (i := 1) rfl sl97 Try.underlying97 rfl rfl (H.glOwn (i := 3) rfl (by decide) (fun c hc => by rw [List.mem_singleton.1 hc]; exact (ent_len (show ((takeE (s.l.drop p)).of_).length = 32 from (takeE_of _))))) (by decide) (fun c _ => ent_all c) (by omega) (by decide) (fun a6 c7 w H => ?_))
    replace H : Hp _ w _ ([_, .own a6 (n + 1) c7 ((L ++ ([(takeE (s.l.drop p))])).flatMap entE) 95 38, _, _]) := H
    refine l_op (o_val (r_as) ?_)
    first | refine l_end ?_ | refine l_nil ?_
    repeat refine c_seq ?_
    refine c_region ?_
    refine l_op (o_val (r_mv) ?_)
    refine l_op (o_val (r_mv) ?_)
    refine l_op (o_val (r_bin (a := (p : Int)) (b := ((takeN (s.l.drop p) : Nat) : Int)) rfl rfl (fun _ => b_add (by omega) (by omega))) ?_)
    refine l_op (o_val (r_as) ?_)
    first | refine l_end ?_ | refine l_nil ?_
    refine round_end (p + takeN (s.l.drop p), L ++ ([(takeE (s.l.drop p))]), a6, n + 1, c7) ?_ ?_ ?_
    · exact ⟨rfl, rfl, rfl, show VI ((p : Int) + ((takeN (s.l.drop p) : Nat) : Int)) = VI ((p + takeN (s.l.drop p) : Nat) : Int) from congrArg VI (by omega), trivial⟩
    · refine ⟨?_, ?_⟩
      · try dsimp only
        exact ⟨by omega, by omega, by rw [hpar, parse_cons _ (by omega) htc, map_app, List.drop_drop], hcat.trans (by
                  have e := takeE_cut (s.l.drop p) htc
                  rw [List.drop_drop] at e
                  rw [List.flatMap_append, List.append_assoc]
                  exact congrArg (L.flatMap entB ++ ·) (by simpa using e)), fun c hc => by
                rcases List.mem_append.1 hc with h1 | h1
                · exact hL c h1
                · rw [List.mem_singleton.1 h1]; exact ⟨takeE_may _ htc, takeE_bd _ htc, takeE_of _⟩, by omega⟩
      · exact H.sub (.cons_cons _ (.cons_cons _ (List.nil_sublist _)))
    · show s.len - (p + takeN (s.l.drop p)) < s.len - p; omega
  ·
   repeat refine c_seq ?_
   refine c_no (by exact congrArg Value.bool (decide_eq_false hc2)) ?_
   refine c_exit ?_
   have hd0 : s.l.drop p = [] := List.length_eq_zero_iff.1 (by omega)
   have hparL : parse (s.l.drop 10) = some L := by rw [hpar, hd0, parse_nil]; simp
   rw [hd0, List.append_nil] at hcat
   have hall : L.all mayE = true := List.all_eq_true.2 fun c hc => (hL c hc).1
   have hLn : L.length = n := ((H.glOwn (i := 1) rfl (by decide) (fun c hc => ent_len (hL c hc).2.2))).ln
   have hbL : ∀ c ∈ L, c.bd := fun c hc => (hL c hc).2.1
   repeat refine c_seq ?_
   refine c_region ?_
   refine l_op (o_val (r_mv) ?_)
   by_cases hc8 : headC L = 0
   ·
    refine l_op (o_callR Try.func97 rfl rfl rfl (aExpr_ok _ ⟨hd a, n, k, L⟩ (H.glOwn (i := 1) rfl (by decide) (fun c hc => ent_len (hL c hc).2.2)) hbL (by (try dsimp only); omega) (of_decide_eq_true (decide_eq_true hc8))) ?_)
    rintro _ w ⟨a9, n10, c11, rfl, hn12, hx13, Hc⟩
    replace H : Hp _ w _ ([_, _, .own a9 n10 c11 ((expB L).map V8) 5 1]) := H.call Hc
    clear Hc
    try dsimp only at hn12
    try dsimp only at hx13
    refine l_op (o_val (r_mv) ?_)
    refine l_op (o_val (r_ext rfl rfl) ?_)
    refine l_op (o_val (r_ext rfl rfl) ?_)
    refine l_op (o_val (r_as) ?_)
    refine l_op (o_val (r_as) ?_)
    first | refine l_end ?_ | refine l_nil ?_
    repeat refine c_seq ?_
    refine c_region ?_
    refine l_op (o_val (r_mv) ?_)
    refine l_op (o_val (r_bin (a := 0) (b := 0) rfl rfl (fun _ => b_neqB false (decide_eq_false (by decide)))) ?_)
    refine l_op (o_val (r_mv) ?_)
    refine l_yes rfl rfl rfl (o_val (r_mv) ?_)
    refine l_yes rfl rfl rfl (o_val (r_b2S (s := ⟨hd a9, n10, c11, expB L⟩) Try.underlying29 Try.underlying5 Try.underlying9 rfl (H.slOwn (i := 2) rfl)) ?_)
    refine l_yes rfl rfl rfl (o_val (r_mv) ?_)
    refine l_yes rfl rfl rfl (o_val (r_b2S (s := s) Try.underlying29 Try.underlying5 Try.underlying9 rfl (hs.up H (fun _ => apart_nil _))) ?_)
    refine l_yes rfl rfl rfl (o_val (r_strne (a := expB L) (b := s.l) rfl rfl) ?_)
    refine l_op (o_val (r_pick rfl) ?_)
    first | refine l_end ?_ | refine l_nil ?_
    by_cases hc14 : expB L = s.l
    ·
     repeat refine c_seq ?_
     refine c_no (by exact congrArg Value.bool (congrArg not (decide_eq_true hc14))) ?_
     refine c_skip ?_
     repeat refine c_seq ?_
     refine c_region ?_
     refine l_op (o_val (r_mv) ?_)
     refine l_op (o_callR Try.func95 rfl rfl rfl (aHeadr_ret _ ⟨hd a, n, k, L⟩ (H.glOwn (i := 1) rfl (by decide) (fun c hc => ent_len (hL c hc).2.2)) hbL (by (try dsimp only); omega)) ?_)
     rintro _ w ⟨rfl, Hc⟩
     replace H : Hp _ w _ ([_, _, _]) := H.call Hc
     clear Hc
     refine l_op (o_val (r_mv) ?_)
     refine l_op (o_val (r_ext rfl rfl) ?_)
     refine l_op (o_val (r_ext rfl rfl) ?_)
     refine l_op (o_alloc H zc31 (fun b15 w H hb15 => ?_))
     replace H : Hp _ w _ ([_, _, _, .blk b15 ((List.replicate 32 (0 : UInt8)).map V8) 31]) := H
     refine l_op (o_stA (l' := headV L) H (i := 3) rfl rfl rfl cs31 (show (List.replicate 32 (0 : UInt8)).length = 32 from (List.length_replicate ..)) (show (headV L).length = 32 from (headV_len _)) (fun w H => ?_))
     replace H : Hp _ w _ ([_, _, _, .blk b15 ((headV L).map V8) 31]) := H
     refine l_op (o_val (r_as) ?_)
     first | refine l_end ?_ | refine l_nil ?_
     repeat refine c_seq ?_
     refine c_region ?_
     refine l_op (o_val (r_ldAA (l := headV L) H (i := 3) rfl rfl rt31 (show (headV L).length = 32 from (headV_len _))) ?_)
     refine l_op (o_val (r_ldAA (l := h) H (i := 0) rfl rfl rt31 (show (h).length = 32 from hh)) ?_)
     refine l_op (o_val (r_nea (a := headV L) (b := h) Try.underlying31 Try.underlying5 cs5 rfl rfl (show (headV L).length = 32 from (headV_len _)) (show (h).length = 32 from hh)) ?_)
     first | refine l_end ?_ | refine l_nil ?_
     by_cases hc16 : headV L = h
     ·
      repeat refine c_seq ?_
      refine c_no (by exact congrArg Value.bool (congrArg not (decide_eq_true hc16))) ?_
      refine c_skip ?_
      repeat refine c_seq ?_
      refine c_region ?_
      refine l_op (o_val (r_mv) ?_)
      refine l_op (o_val (r_lens el97 rfl) ?_)
      refine l_op (o_val (r_as) ?_)
      refine l_op (o_val (r_as) ?_)
      first | refine l_end ?_ | refine l_nil ?_
      refine c_ret ?_
      try dsimp only [Exit.then, Exit.inBlock]
      refine e_retN (vs := [VI (n : Int), VI 0]) _ Try.results99 rfl (resT (v := VI (n : Int)) rfl (resT (v := VI 0) rfl (resZ))) ?_
      refine ⟨_, rfl, ?_⟩
      have heq := of_decide_eq_true (decide_eq_true hc14)
      have h00 : headC L = 0 := of_decide_eq_true (decide_eq_true hc8)
      have hv := ver_yes s.l h L hparL (by rw [← heq]; exact expB_len10 L) (by rw [← heq]; exact expB_take L) ((headC_iff L).1 h00).2
      have hhv : headV L = headF L := by rw [headV, if_pos h00]
      rw [← hhv] at hv
      rw [if_pos (of_decide_eq_true (decide_eq_true hc16))] at hv
      refine ⟨?_, H.sub (List.nil_sublist _)⟩
      rw [verN_len _ _ L hparL hv, hv, hLn]
      rfl
     ·
      repeat refine c_seq ?_
      refine c_yes (by exact congrArg Value.bool (congrArg not (decide_eq_false hc16))) ?_
      repeat refine c_seq ?_
      refine c_region ?_
      refine l_op (o_val (r_as) ?_)
      refine l_op (o_val (r_as) ?_)
      first | refine l_end ?_ | refine l_nil ?_
      refine c_ret ?_
      try dsimp only [Exit.then, Exit.inBlock]
      refine e_retN (vs := [VI 0, VI 13]) _ Try.results99 rfl (resT (v := VI 0) rfl (resT (v := VI 13) rfl (resZ))) ?_
      refine ⟨_, rfl, ?_⟩
      have heq := of_decide_eq_true (decide_eq_true hc14)
      have h00 : headC L = 0 := of_decide_eq_true (decide_eq_true hc8)
      have hv := ver_yes s.l h L hparL (by rw [← heq]; exact expB_len10 L) (by rw [← heq]; exact expB_take L) ((headC_iff L).1 h00).2
      have hhv : headV L = headF L := by rw [headV, if_pos h00]
      rw [← hhv] at hv
      rw [if_neg (of_decide_eq_false (decide_eq_false hc16))] at hv
      refine ⟨?_, H.sub (List.nil_sublist _)⟩
      rw [verN_no _ _ (by rw [hv]; decide), hv]
      rfl
    ·
     repeat refine c_seq ?_
     refine c_yes (by exact congrArg Value.bool (congrArg not (decide_eq_false hc14))) ?_
     repeat refine c_seq ?_
     refine c_region ?_
     refine l_op (o_val (r_as) ?_)
     refine l_op (o_val (r_as) ?_)
     first | refine l_end ?_ | refine l_nil ?_
     refine c_ret ?_
     try dsimp only [Exit.then, Exit.inBlock]
     refine e_retN (vs := [VI 0, VI 4]) _ Try.results99 rfl (resT (v := VI 0) rfl (resT (v := VI 4) rfl (resZ))) ?_
     refine ⟨_, rfl, ?_⟩
     have hc : verC s.l h = 4 := ver_no _ _ fun l hl hx => by
       rw [hparL] at hl
       cases hl
       apply of_decide_eq_false (decide_eq_false hc14)
       rw [expB, ← hcat, ← hx.2.1, List.take_append_drop]
     refine ⟨?_, H.sub (List.nil_sublist _)⟩
     rw [verN_no _ _ (by rw [hc]; decide), hc]
     rfl
   ·
    refine l_op (o_callR Try.func97 rfl rfl rfl (aExpr_no _ ⟨hd a, n, k, L⟩ (H.glOwn (i := 1) rfl (by decide) (fun c hc => ent_len (hL c hc).2.2)) hbL (by (try dsimp only); omega) (of_decide_eq_false (decide_eq_false hc8))) ?_)
    rintro _ w ⟨rfl, Hc⟩
    replace H : Hp _ w _ ([_, _]) := H.call Hc
    clear Hc
    refine l_op (o_val (r_mv) ?_)
    refine l_op (o_val (r_ext rfl rfl) ?_)
    refine l_op (o_val (r_ext rfl rfl) ?_)
    refine l_op (o_val (r_as) ?_)
    refine l_op (o_val (r_as) ?_)
    first | refine l_end ?_ | refine l_nil ?_
    repeat refine c_seq ?_
    refine c_region ?_
    refine l_op (o_val (r_mv) ?_)
    refine l_op (o_val (r_bin (a := ((headC L : Nat) : Int)) (b := 0) rfl rfl (fun _ => b_neqB true (decide_eq_true (by have := of_decide_eq_false (decide_eq_false hc8); omega)))) ?_)
    refine l_op (o_val (r_mv) ?_)
    refine l_no rfl rfl rfl rfl ?_
    refine l_no rfl rfl rfl rfl ?_
    refine l_no rfl rfl rfl rfl ?_
    refine l_no rfl rfl rfl rfl ?_
    refine l_no rfl rfl rfl rfl ?_
    refine l_op (o_val (r_pick rfl) ?_)
    first | refine l_end ?_ | refine l_nil ?_
    repeat refine c_seq ?_
    refine c_yes rfl ?_
    repeat refine c_seq ?_
    refine c_region ?_
    refine l_op (o_val (r_as) ?_)
    refine l_op (o_val (r_as) ?_)
    first | refine l_end ?_ | refine l_nil ?_
    refine c_ret ?_
    try dsimp only [Exit.then, Exit.inBlock]
    refine e_retN (vs := [VI 0, VI 4]) _ Try.results99 rfl (resT (v := VI 0) rfl (resT (v := VI 4) rfl (resZ))) ?_
    refine ⟨_, rfl, ?_⟩
    have hc : verC s.l h = 4 := ver_no _ _ fun l hl hx => by
      rw [hparL] at hl
      cases hl
      exact of_decide_eq_false (decide_eq_false hc8) ((headC_iff L).2 ⟨hall, hx.2.2⟩)
    refine ⟨?_, H.sub (List.nil_sublist _)⟩
    rw [verN_no _ _ (by rw [hc]; decide), hc]
    rfl
end Go.Proofs.Ytjmbbhnpfmblpaa
namespace Go.Proofs.Ytjmbbhnpfmblpaa
open Go
set_option maxRecDepth 100000
def lightE (l : List Ent) (m : Nat) : Bool := decide (l.length ≤ m ∧ ∀ e ∈ l, e.tenant.length ≤ 100)
theorem lightE_iff (l : List Ent) (m : Nat) : lightE l m = true ↔ l.length ≤ m ∧ ∀ e ∈ l, e.tenant.length ≤ 100 := by simp [lightE]
def numF : Nat → List Ent → List Ent
  | _, [] => []
  | k, e :: l => { e with seq := (k : Int) } :: numF (k + 1) l
theorem numF_snoc (k : Nat) (l : List Ent) (e : Ent) : numF k (l ++ [e]) = numF k l ++ [{ e with seq := ((k + l.length : Nat) : Int) }] := by
  induction l generalizing k with
  | nil => rfl
  | cons a l ih =>
    rw [List.cons_append, numF, ih (k + 1), numF, List.cons_append, List.length_cons]
    congr 4; omega
theorem numF_take (l : List Ent) (i : Nat) (e : Ent) (h : l[i]? = some e) : numF 0 (l.take i) ++ [{ e with seq := (i : Int) }] = numF 0 (l.take (i + 1)) := by
  have hi : i < l.length := (List.getElem?_eq_some_iff.1 h).1
  rw [List.take_add_one, h]
  simp only [Option.toList]
  rw [numF_snoc, List.length_take, Nat.min_eq_left (by omega), Nat.zero_add]
theorem numF_all (p : Ent → Prop) (hp : ∀ (e : Ent) (k : Nat), (k : Int) ≤ 9223372036854775807 → p e → p { e with seq := (k : Int) }) : ∀ (k : Nat) (l : List Ent), k + l.length ≤ 9223372036854775807 → (∀ e ∈ l, p e) → ∀ e ∈ numF k l, p e
  | _, [], _, _, e, h => by cases h
  | k, a :: l, hk, hl, e, h => by
    rw [List.length_cons] at hk
    rw [numF] at h
    rcases List.mem_cons.1 h with rfl | h
    · exact hp a k (by omega) (hl a (List.mem_cons_self ..))
    · exact numF_all p hp (k + 1) l (by omega) (fun x hx => hl x (List.mem_cons_of_mem _ hx)) e h
theorem numF_bd (l : List Ent) (h : l.length ≤ 65536) (hb : ∀ e ∈ l, e.bd) : ∀ e ∈ numF 0 l, e.bd := numF_all Ent.bd (fun _ _ hk h => ⟨hk, h.2⟩) 0 l (by omega) hb
theorem numF_of (l : List Ent) (h : l.length ≤ 65536) (hb : ∀ e ∈ l, (entE e).length = 38) : ∀ e ∈ numF 0 l, (entE e).length = 38 := numF_all (fun e => (entE e).length = 38) (fun _ _ _ h => by rw [← h]; simp [entE]) 0 l (by omega) hb
theorem light20_ret (w0 : World) (g : Gl Ent) (hg : g.ok entE 38 w0) (m : Nat) (_hm : m ≤ 65536) :
    Ret Try.prog 84 [g.v, VI (m : Int)] w0 fun v w' => v = .bool (lightE g.l m) ∧ Hp w0 w' [] [] := by
  refine ret_mk Try.func84 rfl Try.ntmps84 (by simp) ?_
  have H := Hp.refl w0 []
  have hgl := hg.ln
  have hge := hg.le
  have hgx := hg.mx
  have hmL : maxLen = 9223372036854775807 := rfl
  repeat refine c_seq ?_
  refine c_region ?_
  refine l_op (o_val (r_as) ?_)
  first | refine l_end ?_ | refine l_nil ?_
  repeat refine c_seq ?_
  refine c_region ?_
  refine l_op (o_val (r_mv) ?_)
  refine l_op (o_val (r_lens el97 rfl) ?_)
  refine l_op (o_val (r_mv) ?_)
  refine l_op (o_val (r_bin (a := (g.len : Int)) (b := (m : Int)) rfl rfl (fun _ => b_gtr)) ?_)
  first | refine l_end ?_ | refine l_nil ?_
  by_cases hc1 : (m : Int) < (g.len : Int)
  ·
   repeat refine c_seq ?_
   refine c_yes (by exact congrArg Value.bool (decide_eq_true hc1)) ?_
   repeat refine c_seq ?_
   refine c_region ?_
   refine l_op (o_val (r_as) ?_)
   first | refine l_end ?_ | refine l_nil ?_
   refine c_ret ?_
   try dsimp only [Exit.then, Exit.inBlock]
   refine e_ret1 (v := .bool false) Try.results84 rfl ?_
   refine ⟨_, rfl, ?_⟩
   refine ⟨?_, H⟩
   have e : lightE g.l m = false := Bool.eq_false_iff.2 fun h => by
     have h2 := ((lightE_iff _ _).1 h).1
     omega
   rw [e]
  ·
   repeat refine c_seq ?_
   refine c_no (by exact congrArg Value.bool (decide_eq_false hc1)) ?_
   refine c_skip ?_
   repeat refine c_seq ?_
   refine c_region ?_
   refine l_op (o_val (r_as) ?_)
   first | refine l_end ?_ | refine l_nil ?_
   repeat refine c_seq ?_
   refine c_block ?_
   repeat refine c_seq ?_
   refine c_loop (fun (i : Nat) => [(0, g.v), (5, VI (i : Int))])
     (fun (i : Nat) w => (i ≤ g.len ∧ ∀ (j : Nat) (x : Ent), j < i → g.l[j]? = some x → x.tenant.length ≤ 100) ∧ Hp w0 w [] ([]))
     (fun (i : Nat) => g.len - i) 0 ⟨rfl, rfl, trivial⟩ ⟨⟨Nat.zero_le _, fun j x hj => absurd hj (by omega)⟩, H⟩ ?_
   clear H
   rintro i τ w ⟨⟨hi, hall⟩, H⟩
   repeat refine c_seq ?_
   refine c_region ?_
   refine l_op (o_val (r_mv) ?_)
   refine l_op (o_val (r_mv) ?_)
   refine l_op (o_val (r_lens el97 rfl) ?_)
   refine l_op (o_val (r_bin (a := (i : Int)) (b := (g.len : Int)) rfl rfl (fun _ => b_lss)) ?_)
   first | refine l_end ?_ | refine l_nil ?_
   by_cases hc2 : (i : Int) < (g.len : Int)
   ·
    repeat refine c_seq ?_
    refine c_yes (by exact congrArg Value.bool (decide_eq_true hc2)) ?_
    refine c_skip ?_
    repeat refine c_seq ?_
    refine c_block ?_
    repeat refine c_seq ?_
    refine c_region ?_
    refine l_op (o_val (r_mv) ?_)
    refine l_op (o_val (r_mv) ?_)
    have ah5 := ((hg.up H)).addr (by decide) (by first | omega | (dsimp only; omega))
    obtain ⟨ab3, ao4, ah5⟩ := ah5
    refine l_op (o_val (r_isN i rfl rfl el97 ah5 (by omega) (by (try simp only [Sl.cut]); omega)) ?_)
    refine l_op (o_val (r_fa rfl fo95_3) ?_)
    have he7 : ∃ c, g.l[i]? = some c := ⟨_, List.getElem?_eq_getElem (by have := ((hg.up H)).ln; (try dsimp only at this ⊢); omega)⟩
    obtain ⟨e6, he7⟩ := he7
    have hez8 := ((hg.up H)).sz e6 (List.mem_of_getElem? he7)
    refine l_op (o_val (r_ldFld (v := .string ⟨(e6.tenant).toArray⟩) (s := g) (k := i) (off := 3) (hg.up H) ah5 rfl ct9 he7 (by decide) rfl) ?_)
    refine l_op (o_val (r_lenstr (s := ⟨(e6.tenant).toArray⟩) Try.underlying9 rfl) ?_)
    refine l_op (o_val (r_bin (a := ((e6.tenant).length : Int)) (b := 100) rfl rfl (fun _ => b_gtr)) ?_)
    first | refine l_end ?_ | refine l_nil ?_
    by_cases hc9 : 100 < ((e6.tenant).length : Int)
    ·
     repeat refine c_seq ?_
     refine c_yes (by exact congrArg Value.bool (decide_eq_true hc9)) ?_
     repeat refine c_seq ?_
     refine c_region ?_
     refine l_op (o_val (r_as) ?_)
     first | refine l_end ?_ | refine l_nil ?_
     refine c_ret ?_
     try dsimp only [Exit.then, Exit.inBlock]
     refine e_ret1 (v := .bool false) Try.results84 rfl ?_
     refine ⟨_, rfl, ?_⟩
     refine ⟨?_, H⟩
     have e : lightE g.l m = false := Bool.eq_false_iff.2 fun h => by
       have h2 := ((lightE_iff _ _).1 h).2 _ (List.mem_of_getElem? he7)
       omega
     rw [e]
    ·
     repeat refine c_seq ?_
     refine c_no (by exact congrArg Value.bool (decide_eq_false hc9)) ?_
     refine c_skip ?_
     repeat refine c_seq ?_
     refine c_region ?_
     refine l_op (o_val (r_mv) ?_)
     refine l_op (o_val (r_bin (a := (i : Int)) (b := 1) rfl rfl (fun _ => b_add (by omega) (by omega))) ?_)
     refine l_op (o_val (r_as) ?_)
     first | refine l_end ?_ | refine l_nil ?_
     refine round_end (i + 1) ?_ ?_ ?_
     · exact ⟨rfl, show VI ((i : Int) + 1) = VI ((i + 1 : Nat) : Int) from congrArg VI (by omega), trivial⟩
     · refine ⟨?_, ?_⟩
       · try dsimp only
         exact ⟨by omega, fun j x hj hjx => by
           by_cases hji : j < i
           · exact hall j x hji hjx
           · have e : j = i := by omega
             rw [e, he7] at hjx
             cases hjx
             omega⟩
       · exact H
     · show g.len - (i + 1 : Nat) < g.len - i; omega
   ·
    repeat refine c_seq ?_
    refine c_no (by exact congrArg Value.bool (decide_eq_false hc2)) ?_
    refine c_exit ?_
    repeat refine c_seq ?_
    refine c_region ?_
    refine l_op (o_val (r_as) ?_)
    first | refine l_end ?_ | refine l_nil ?_
    refine c_ret ?_
    try dsimp only [Exit.then, Exit.inBlock]
    refine e_ret1 (v := .bool true) Try.results84 rfl ?_
    refine ⟨_, rfl, ?_⟩
    refine ⟨?_, H⟩
    rw [(lightE_iff _ _).2 ⟨by omega, fun x hx => by
      obtain ⟨j, hj⟩ := List.getElem?_of_mem hx
      exact hall j x (by have := (List.getElem?_eq_some_iff.1 hj).1; omega) hj⟩]
theorem numbered_ret (w0 : World) (g : Gl Ent) (hg : g.ok entE 38 w0) (hm : g.len ≤ 65536) :
    Ret Try.prog 93 [g.v] w0 fun v w' => ∃ a k, v = .slice (hd a) g.len k ∧ Hp w0 w' [] [.own a g.len k ((numF 0 g.l).flatMap entE) 95 38] := by
  refine ret_mk Try.func93 rfl Try.ntmps93 (by simp) ?_
  have H := Hp.refl w0 []
  have hgl := hg.ln
  have hge := hg.le
  have hgx := hg.mx
  have hmL : maxLen = 9223372036854775807 := rfl
  repeat refine c_seq ?_
  refine c_region ?_
  refine l_op (o_val (r_as) ?_)
  first | refine l_end ?_ | refine l_nil ?_
  repeat refine c_seq ?_
  refine c_region ?_
  refine l_op (o_val (r_as) ?_)
  first | refine l_end ?_ | refine l_nil ?_
  repeat refine c_seq ?_
  refine c_region ?_
  refine l_op (o_val (r_as) ?_)
  first | refine l_end ?_ | refine l_nil ?_
  repeat refine c_seq ?_
  refine c_block ?_
  repeat refine c_seq ?_
  refine c_loop3 (fun (i : Nat) (a : Option Nat) (k : Nat) => [(0, g.v), (3, .slice (hd a) i k), (4, VI (i : Int))])
    (fun (i : Nat) (a : Option Nat) (k : Nat) w => (i ≤ g.len) ∧ Hp w0 w [] ([.own a i k ((numF 0 (g.l.take i)).flatMap entE) 95 38]))
    (fun (i : Nat) (a : Option Nat) (k : Nat) => g.len - i) 0 none 0 ⟨rfl, rfl, rfl, trivial⟩ ⟨Nat.zero_le _, (H.nilEnd 95 38)⟩ ?_
  clear H
  rintro i a k τ w ⟨hi, H⟩
  repeat refine c_seq ?_
  refine c_region ?_
  refine l_op (o_val (r_mv) ?_)
  refine l_op (o_val (r_mv) ?_)
  refine l_op (o_val (r_lens el97 rfl) ?_)
  refine l_op (o_val (r_bin (a := (i : Int)) (b := (g.len : Int)) rfl rfl (fun _ => b_lss)) ?_)
  first | refine l_end ?_ | refine l_nil ?_
  by_cases hc1 : (i : Int) < (g.len : Int)
  ·
   repeat refine c_seq ?_
   refine c_yes (by exact congrArg Value.bool (decide_eq_true hc1)) ?_
   refine c_skip ?_
   repeat refine c_seq ?_
   refine c_block ?_
   repeat refine c_seq ?_
   refine c_region ?_
   refine l_op (o_val (r_mv) ?_)
   refine l_op (o_val (r_mv) ?_)
   have ah4 := ((hg.up H)).addr (by decide) (by first | omega | (dsimp only; omega))
   obtain ⟨ab2, ao3, ah4⟩ := ah4
   refine l_op (o_val (r_isN i rfl rfl el97 ah4 (by omega) (by (try simp only [Sl.cut]); omega)) ?_)
   have he6 : ∃ c, g.l[i]? = some c := ⟨_, List.getElem?_eq_getElem (by have := ((hg.up H)).ln; (try dsimp only at this ⊢); omega)⟩
   obtain ⟨e5, he6⟩ := he6
   have hez7 := ((hg.up H)).sz e5 (List.mem_of_getElem? he6)
   refine l_op (o_val (r_ldRow (s := g) (k := i) (hg.up H) ah4 rfl rt95 (by decide) he6) ?_)
   refine l_op (o_alloc H zc95 (fun b8 w H hb8 => ?_))
   replace H : Hp _ w _ ([_, .blk b8 ([VI 0, VI 0, V64 (0 : UInt64), .string ⟨(([] : List UInt8)).toArray⟩, VI 0, VI 0] ++ (List.replicate 32 (0 : UInt8)).map V8) 95]) := H
   refine l_op (o_stW (C' := [VI e5.seq, VI e5.tick, V64 e5.serial, .string ⟨(e5.tenant).toArray⟩, VI e5.do_, VI e5.status] ++ (e5.of_).map V8) H (i := 1) rfl rfl rfl cs95 (by simp [Value.oneCell']) (by rw [List.length_append, List.length_map, (show (List.replicate 32 (0 : UInt8)).length = 32 from (List.length_replicate ..))]; rfl) (by rw [List.length_append, List.length_map, (show (e5.of_).length = 32 from (ent_of hez7))]; rfl) (fun w H => ?_))
   replace H : Hp _ w _ ([_, .blk b8 ([VI e5.seq, VI e5.tick, V64 e5.serial, .string ⟨(e5.tenant).toArray⟩, VI e5.do_, VI e5.status] ++ (e5.of_).map V8) 95]) := H
   first | refine l_end ?_ | refine l_nil ?_
   repeat refine c_seq ?_
   refine c_region ?_
   refine l_op (o_val (r_mv) ?_)
   refine l_op (o_val (r_fa rfl fo95_0) ?_)
   refine l_op (o_st (v := VI (i : Int)) H (i := 1) rfl rfl rfl cs2 rfl (by simp only [List.length_append, List.length_cons, List.length_nil]; omega) (fun w H => ?_))
   replace H : Hp _ w _ ([_, .blk b8 ([VI (i : Int), VI e5.tick, V64 e5.serial, .string ⟨(e5.tenant).toArray⟩, VI e5.do_, VI e5.status] ++ (e5.of_).map V8) 95]) := H
   first | refine l_end ?_ | refine l_nil ?_
   repeat refine c_seq ?_
   refine c_region ?_
   refine l_op (o_val (r_mv) ?_)
   refine l_op (o_val (r_ldA (C := [VI (i : Int), VI e5.tick, V64 e5.serial, .string ⟨(e5.tenant).toArray⟩, VI e5.do_, VI e5.status] ++ (e5.of_).map V8) H (i := 1) rfl rfl rt95 (by rw [List.length_append, List.length_map, (show (e5.of_).length = 32 from (ent_of hez7))]; rfl)) ?_)
   refine l_op (o_bslG1 (enc := entE) ((⟨(i : Int), e5.tick, e5.serial, e5.tenant, e5.do_, e5.status, e5.of_⟩ : Ent)) H sl97 zc95 (by rfl) (by decide) (by decide) rfl (ent_len (show (e5.of_).length = 32 from (ent_of hez7))) (fun b9 w H hb9 => ?_))
   replace H : Hp _ w _ ([_, _, .own (some b9) 1 1 (([(⟨(i : Int), e5.tick, e5.serial, e5.tenant, e5.do_, e5.status, e5.of_⟩ : Ent)]).flatMap entE) 95 38]) := H
   refine l_op (o_appG (enc := entE) (s := ⟨hd (some b9), 1, 1, [(⟨(i : Int), e5.tick, e5.serial, e5.tenant, e5.do_, e5.status, e5.of_⟩ : Ent)]⟩) (l' := numF 0 (g.l.take i) ++ ([(⟨(i : Int), e5.tick, e5.serial, e5.tenant, e5.do_, e5.status, e5.of_⟩ : Ent)])) (len' := i + 1) rfl rfl H (i := 0) rfl sl97 Try.underlying97 rfl rfl (H.glOwn (i := 2) rfl (by decide) (fun c hc => by rw [List.mem_singleton.1 hc]; exact (ent_len (show (e5.of_).length = 32 from (ent_of hez7))))) (by decide) (fun c _ => ent_all c) (by omega) (by decide) (fun a10 c11 w H => ?_))
   replace H : Hp _ w _ ([.own a10 (i + 1) c11 ((numF 0 (g.l.take i) ++ ([(⟨(i : Int), e5.tick, e5.serial, e5.tenant, e5.do_, e5.status, e5.of_⟩ : Ent)])).flatMap entE) 95 38, _, _]) := H
   refine l_op (o_val (r_as) ?_)
   first | refine l_end ?_ | refine l_nil ?_
   repeat refine c_seq ?_
   refine c_region ?_
   refine l_op (o_val (r_mv) ?_)
   refine l_op (o_val (r_bin (a := (i : Int)) (b := 1) rfl rfl (fun _ => b_add (by omega) (by omega))) ?_)
   refine l_op (o_val (r_as) ?_)
   first | refine l_end ?_ | refine l_nil ?_
   rw [numF_take g.l i _ he6] at H
   refine round_end (i + 1, a10, c11) ?_ ?_ ?_
   · exact ⟨rfl, rfl, show VI ((i : Int) + 1) = VI ((i + 1 : Nat) : Int) from congrArg VI (by omega), trivial⟩
   · refine ⟨?_, ?_⟩
     · try dsimp only
       exact by omega
     · exact H.sub (.cons_cons _ (List.nil_sublist _))
   · show g.len - (i + 1 : Nat) < g.len - i; omega
  ·
   repeat refine c_seq ?_
   refine c_no (by exact congrArg Value.bool (decide_eq_false hc1)) ?_
   refine c_exit ?_
   repeat refine c_seq ?_
   refine c_region ?_
   refine l_op (o_val (r_mv) ?_)
   refine l_op (o_val (r_as) ?_)
   first | refine l_end ?_ | refine l_nil ?_
   refine c_ret ?_
   try dsimp only [Exit.then, Exit.inBlock]
   refine e_ret1 (v := .slice (hd a) i k) Try.results93 rfl ?_
   refine ⟨_, rfl, ?_⟩
   have hi2 : i = g.len := by omega
   subst hi2
   rw [List.take_of_length_le (by omega)] at H
   exact ⟨_, _, rfl, H.sub (.cons_cons _ (List.nil_sublist _))⟩
theorem begun20_ret (w0 : World) :
    Ret Try.prog 83 [] w0 fun v w' => v = .bool true ∧ Hp w0 w' [] [] := by
  refine ret_mk Try.func83 rfl Try.ntmps83 (by simp) ?_
  have H := Hp.refl w0 []
  have hb1 : mayE (⟨0, 0, (0 : UInt64), [97], 0, 0, List.replicate 32 (0 : UInt8)⟩ : Ent) = true := rfl
  have hb2 : (entB (⟨0, 0, (0 : UInt64), [97], 0, 0, List.replicate 32 (0 : UInt8)⟩ : Ent)).length = 61 := rfl
  have hx1 : (expB ([] : List Ent)).length = 10 := rfl
  have hv : verC (expB []) (List.replicate 32 (0 : UInt8)) = 0 := by rw [ver_yes _ _ [] (by rw [expB_drop]; exact parse_nil) (expB_len10 _) (expB_take _) rfl]; rfl
  have hv2 : verN (expB []) (List.replicate 32 (0 : UInt8)) = 0 := verN_len _ _ [] (by rw [expB_drop]; exact parse_nil) hv
  repeat refine c_seq ?_
  refine c_region ?_
  refine l_op (o_val (r_as) ?_)
  first | refine l_end ?_ | refine l_nil ?_
  repeat refine c_seq ?_
  refine c_region ?_
  refine l_op (o_val (r_bld' (cells := ([VI 0, VI 0, V64 (0 : UInt64), .string ⟨(([97] : List UInt8)).toArray⟩, VI 0, VI 0] ++ (List.replicate 32 (0 : UInt8)).map V8).toArray) (pv := [(3, .string ⟨(([97] : List UInt8)).toArray⟩)]) bd95 rfl rfl) ?_)
  have hk1 : (mayE (⟨0, 0, (0 : UInt64), ([97] : List UInt8), 0, 0, List.replicate 32 (0 : UInt8)⟩ : Ent)) = true := hb1
  refine l_op (o_callR Try.func85 rfl rfl rfl (aBytes_ok _ (⟨0, 0, (0 : UInt64), ([97] : List UInt8), 0, 0, List.replicate 32 (0 : UInt8)⟩ : Ent) (show (List.replicate 32 (0 : UInt8)).length = 32 from (List.length_replicate ..)) ⟨by decide, by decide⟩ hk1) ?_)
  rintro _ w ⟨a2, n3, c4, rfl, hn5, Hc⟩
  replace H : Hp _ w _ ([.own a2 n3 c4 ((entB (⟨0, 0, (0 : UInt64), ([97] : List UInt8), 0, 0, List.replicate 32 (0 : UInt8)⟩ : Ent)).map V8) 5 1]) := H.call Hc
  clear Hc
  refine l_op (o_val (r_mv) ?_)
  refine l_op (o_val (r_ext rfl rfl) ?_)
  refine l_op (o_val (r_ext rfl rfl) ?_)
  refine l_op (o_val (r_as) ?_)
  refine l_op (o_val (r_as) ?_)
  first | refine l_end ?_ | refine l_nil ?_
  repeat refine c_seq ?_
  refine c_region ?_
  have hk6 : (headC ([] : List Ent) = 0) := rfl
  refine l_op (o_callR Try.func96 rfl rfl rfl (aExp_ok _ ⟨none, 0, 0, []⟩ (glE_nil _) (fun _ h => by cases h) (by (try dsimp only); omega) (of_decide_eq_true (decide_eq_true hk6))) ?_)
  rintro _ w ⟨a7, n8, c9, rfl, hn10, hx11, Hc⟩
  replace H : Hp _ w _ ([_, .own a7 n8 c9 ((expB ([] : List Ent)).map V8) 5 1]) := H.call Hc
  clear Hc
  try dsimp only at hn10
  try dsimp only at hx11
  refine l_op (o_val (r_mv) ?_)
  refine l_op (o_val (r_ext rfl rfl) ?_)
  refine l_op (o_val (r_ext rfl rfl) ?_)
  refine l_op (o_val (r_as) ?_)
  refine l_op (o_val (r_as) ?_)
  first | refine l_end ?_ | refine l_nil ?_
  repeat refine c_seq ?_
  refine c_region ?_
  refine l_op (o_val (r_mv) ?_)
  refine l_op (o_val (r_bld' (pv := []) bd31 rfl rfl) ?_)
  refine l_op (o_callR Try.func98 rfl rfl rfl (aVerify_ret _ ⟨hd a7, n8, c9, expB ([] : List Ent)⟩ (H.slOwn (i := 1) rfl) (show n8 ≤ 65536 by omega) (List.replicate 32 (0 : UInt8)) (show (List.replicate 32 (0 : UInt8)).length = 32 from (List.length_replicate ..))) ?_)
  rintro _ w ⟨rfl, Hc⟩
  replace H : Hp _ w _ ([_, _]) := H.call Hc
  clear Hc
  refine l_op (o_val (r_mv) ?_)
  refine l_op (o_val (r_ext rfl rfl) ?_)
  refine l_op (o_val (r_ext rfl rfl) ?_)
  refine l_op (o_val (r_as) ?_)
  refine l_op (o_val (r_as) ?_)
  first | refine l_end ?_ | refine l_nil ?_
  repeat refine c_seq ?_
  refine c_region ?_
  refine l_op (o_val (r_mv) ?_)
  refine l_op (o_val (r_bin (a := 0) (b := 0) rfl rfl (fun _ => b_eqlB true (decide_eq_true (by omega)))) ?_)
  refine l_op (o_val (r_mv) ?_)
  refine l_yes rfl rfl rfl (o_val (r_mv) ?_)
  refine l_yes rfl rfl rfl (o_val (r_bin (a := 0) (b := 0) rfl rfl (fun _ => b_eqlB true (decide_eq_true (by omega)))) ?_)
  refine l_op (o_val (r_pick rfl) ?_)
  refine l_op (o_val (r_mv) ?_)
  refine l_yes rfl rfl rfl (o_val (r_mv) ?_)
  refine l_yes rfl rfl rfl (o_val (r_bin (a := ((verC (expB ([] : List Ent)) (List.replicate 32 (0 : UInt8)) : Nat) : Int)) (b := 0) rfl rfl (fun _ => b_eqlB true (decide_eq_true (by omega)))) ?_)
  refine l_op (o_val (r_pick rfl) ?_)
  refine l_op (o_val (r_mv) ?_)
  refine l_yes rfl rfl rfl (o_val (r_mv) ?_)
  refine l_yes rfl rfl rfl (o_val (r_lens el29 rfl) ?_)
  refine l_yes rfl rfl rfl (o_val (r_bin (a := (n3 : Int)) (b := 61) rfl rfl (fun _ => b_eqlB true (decide_eq_true (by omega)))) ?_)
  refine l_op (o_val (r_pick rfl) ?_)
  refine l_op (o_val (r_mv) ?_)
  refine l_yes rfl rfl rfl (o_val (r_mv) ?_)
  refine l_yes rfl rfl rfl (o_val (r_lens el29 rfl) ?_)
  refine l_yes rfl rfl rfl (o_val (r_bin (a := (n8 : Int)) (b := 10) rfl rfl (fun _ => b_eqlB true (decide_eq_true (by omega)))) ?_)
  refine l_op (o_val (r_pick rfl) ?_)
  refine l_op (o_val (r_mv) ?_)
  refine l_yes rfl rfl rfl (o_val (r_mv) ?_)
  refine l_yes rfl rfl rfl (o_val (r_bin (a := ((verN (expB ([] : List Ent)) (List.replicate 32 (0 : UInt8)) : Nat) : Int)) (b := 0) rfl rfl (fun _ => b_eqlB true (decide_eq_true (by omega)))) ?_)
  refine l_op (o_val (r_pick rfl) ?_)
  refine l_op (o_val (r_as) ?_)
  first | refine l_end ?_ | refine l_nil ?_
  refine c_ret ?_
  try dsimp only [Exit.then, Exit.inBlock]
  refine e_ret1 (v := .bool true) Try.results83 rfl ?_
  refine ⟨_, rfl, ?_⟩
  refine ⟨?_, H.sub (List.nil_sublist _)⟩
  first | rfl | (congr 1; exact decide_eq_true (by omega))
end Go.Proofs.Ytjmbbhnpfmblpaa
namespace Go.Proofs.Ytjmbbhnpfmblpaa
open Go
set_option maxRecDepth 100000
/-- a twin: where it stands. -/
def Sl.at (t : Sl) : Prop := ∃ b, t.a = some ⟨b, 0, none⟩ ∧ t.l.length = t.len ∧ t.cap = t.len + 3 ∧ t.len ≤ 1048576
end Go.Proofs.Ytjmbbhnpfmblpaa
