import Derived.Test.YtjmbbhnpfmblpaaFrameB
import Derived.Test.YtjmbbhnpfmblpaaMacEqual
/- layer 10: what is read as a frame is one. -/
namespace Go.Proofs.Ytjmbbhnpfmblpaa
open Go
set_option maxRecDepth 100000
theorem turned_ne (k b : List UInt8) (m : Nat) (x : UInt8) (hk : k.length = 32) (hb : b.length ≤ 4200) (hm : m < 46 + b.length) (h : ¬ (takeF ((putF k b).set m ((putF k b).getD m 0 ^^^ x))).2.2.2 = 0) : ¬ (x.toNat : Int) = 0 := by
  intro hx
  have hl := putF_len k b hk
  rw [← set_zero (putF k b) m x (by omega) hx] at h
  have := takeF_put k b [] hk hb
  rw [List.append_nil] at this
  rw [this] at h
  exact h rfl
theorem frameTurned_ret (w0 : World) (key : List UInt8) (s : Sl) (n : Int) (x : UInt8) (hk : key.length = 32) (hs : s.ok w0) :
    Ret Try.prog 17 [.agg ((key).map V8).toArray, s.v, VI n, V8 x] w0 fun v w' => v = .bool true ∧ Hp w0 w' [] [] := by
  refine ret_mk Try.func17 rfl Try.ntmps17 (by simp) ?_
  have H := Hp.refl w0 []
  have hsl := hs.ln
  repeat refine c_seq ?_
  refine c_region ?_
  refine l_op (o_box (v := .agg ((key).map V8).toArray) H rfl (fun b1 w H hb1 => ?_))
  replace H : Hp w0 w [] ([.blk b1 ((key).map V8) 31]) := H
  refine l_op (o_val (r_as) ?_)
  first | refine l_end ?_ | refine l_nil ?_
  repeat refine c_seq ?_
  refine c_region ?_
  refine l_op (o_callR Try.func58 rfl rfl rfl (begun10_ret _) ?_)
  rintro _ w ⟨rfl, Hc⟩
  replace H : Hp w0 w [] ([.blk b1 ((key).map V8) 31]) := H.call Hc
  clear Hc
  refine l_op (o_val (r_not rfl) ?_)
  first | refine l_end ?_ | refine l_nil ?_
  repeat refine c_seq ?_
  refine c_no rfl ?_
  refine c_skip ?_
  repeat refine c_seq ?_
  refine c_region ?_
  refine l_op (o_val (r_mv) ?_)
  refine l_op (o_val (r_lens el29 rfl) ?_)
  refine l_op (o_val (r_bin (a := (s.len : Int)) (b := 4200) rfl rfl (fun _ => b_gtr)) ?_)
  first | refine l_end ?_ | refine l_nil ?_
  by_cases hc2 : 4200 < (s.len : Int)
  · skip
    repeat refine c_seq ?_
    refine c_yes (by exact congrArg Value.bool (decide_eq_true hc2)) ?_
    repeat refine c_seq ?_
    refine c_region ?_
    refine l_op (o_val (r_as) ?_)
    first | refine l_end ?_ | refine l_nil ?_
    refine c_ret ?_
    try dsimp only [Exit.then, Exit.inBlock]
    refine e_ret1 (v := .bool true) Try.results17 rfl ?_
    refine ⟨_, rfl, ?_⟩
    exact ⟨rfl, H.sub (List.nil_sublist _)⟩
  · skip
    repeat refine c_seq ?_
    refine c_no (by exact congrArg Value.bool (decide_eq_false hc2)) ?_
    refine c_skip ?_
    repeat refine c_seq ?_
    refine c_region ?_
    refine l_op (o_val (r_ldAA (l := key) H (i := 0) rfl rfl rt31 (show (key).length = 32 from hk)) ?_)
    refine l_op (o_val (r_mv) ?_)
    have hk3 : (s.len ≤ 4200) := by omega
    refine l_op (o_callR Try.func59 rfl rfl rfl (fput_ok _ (key) (show (key).length = 32 from hk) s (hs.up H (fun _ => apart_nil _)) (by (try dsimp only); omega)) ?_)
    rintro _ w ⟨a4, c5, rfl, Hc⟩
    replace H : Hp w0 w [] ([.blk b1 ((key).map V8) 31, .own a4 (46 + s.len) c5 ((putF (key) (s.l)).map V8) 5 1]) := H.call Hc
    clear Hc
    refine l_op (o_val (r_mv) ?_)
    refine l_op (o_val (r_ext rfl rfl) ?_)
    refine l_op (o_val (r_ext rfl rfl) ?_)
    refine l_op (o_val (r_as) ?_)
    refine l_op (o_val (r_as) ?_)
    first | refine l_end ?_ | refine l_nil ?_
    repeat refine c_seq ?_
    refine c_region ?_
    refine l_op (o_val (r_mv) ?_)
    refine l_op (o_val (r_bin (a := 0) (b := 0) rfl rfl (fun _ => b_neqB false (decide_eq_false (by decide)))) ?_)
    first | refine l_end ?_ | refine l_nil ?_
    repeat refine c_seq ?_
    refine c_no rfl ?_
    refine c_skip ?_
    repeat refine c_seq ?_
    refine c_region ?_
    refine l_op (o_val (r_mv) ?_)
    refine l_op (o_val (r_mv) ?_)
    refine l_op (o_val (r_lens el29 rfl) ?_)
    refine l_op (o_callR Try.func44 rfl rfl rfl (place_ret _ n ((46 + s.len : Nat) : Int) (by omega) (by omega)) ?_)
    rintro _ w' ⟨m6, rfl, hm7, hw8⟩
    rw [hw8]; clear hw8 w'
    refine l_op (o_val (r_as) ?_)
    first | refine l_end ?_ | refine l_nil ?_
    repeat refine c_seq ?_
    refine c_region ?_
    refine l_op (o_val (r_mv) ?_)
    refine l_op (o_val (r_mv) ?_)
    obtain ⟨ab9, ah10⟩ := H.ownAddr (i := 1) rfl (by omega)
    refine l_op (o_val (r_isN m6 rfl rfl el29 ah10 (by omega) (by (try simp only [Sl.cut]); omega)) ?_)
    refine l_op (o_val (r_ldB (s := ⟨hd a4, 46 + s.len, c5, putF (key) (s.l)⟩) (k := m6) (H.slOwn (i := 1) rfl) ah10 rfl ct5 (by (try simp only [Sl.cut]); omega)) ?_)
    refine l_op (o_val (r_mv) ?_)
    refine l_op (o_val (r_bin rfl rfl (fun _ => b_xor_u8)) ?_)
    refine l_op (o_val (r_isN m6 rfl rfl el29 ah10 (by omega) (by (try simp only [Sl.cut]); omega)) ?_)
    refine l_op (o_stB (u := ((putF (key) (s.l)).getD m6 0) ^^^ x) (k := m6) H (i := 1) rfl rfl ah10 rfl cs5 (by omega) (fun w H => ?_))
    replace H : Hp w0 w [] ([.blk b1 ((key).map V8) 31, .own a4 (46 + s.len) c5 (((putF (key) (s.l)).set m6 (((putF (key) (s.l)).getD m6 0) ^^^ x)).map V8) 5 1]) := H
    first | refine l_end ?_ | refine l_nil ?_
    have hfl : ((putF (key) (s.l)).set m6 (((putF (key) (s.l)).getD m6 0) ^^^ x)).length = 46 + s.len := by rw [List.length_set, putF_len key s.l hk]; omega
    repeat refine c_seq ?_
    refine c_region ?_
    refine l_op (o_val (r_mv) ?_)
    refine l_op (o_callR Try.func63 rfl rfl rfl (ftake_ret _ ⟨hd a4, 46 + s.len, c5, (putF (key) (s.l)).set m6 (((putF (key) (s.l)).getD m6 0) ^^^ x)⟩ (H.slOwn (i := 1) rfl) (by (try simp only [Sl.cut]); omega)) ?_)
    rintro _ w ⟨a11, c12, rfl, Hc⟩
    replace H : Hp w0 w [] ([.blk b1 ((key).map V8) 31, .own a4 (46 + s.len) c5 (((putF (key) (s.l)).set m6 (((putF (key) (s.l)).getD m6 0) ^^^ x)).map V8) 5 1, .own a11 ((takeF ((putF (key) (s.l)).set m6 (((putF (key) (s.l)).getD m6 0) ^^^ x))).2.1.length) c12 (((takeF ((putF (key) (s.l)).set m6 (((putF (key) (s.l)).getD m6 0) ^^^ x))).2.1).map V8) 5 1]) := H.call Hc
    clear Hc
    refine l_op (o_val (r_mv) ?_)
    refine l_op (o_val (r_ext rfl rfl) ?_)
    refine l_op (o_val (r_ext rfl rfl) ?_)
    refine l_op (o_val (r_ext rfl rfl) ?_)
    refine l_op (o_val (r_ext rfl rfl) ?_)
    refine l_op (o_alloc H zc31 (fun b13 w H hb13 => ?_))
    replace H : Hp w0 w [] ([.blk b1 ((key).map V8) 31, .own a4 (46 + s.len) c5 (((putF (key) (s.l)).set m6 (((putF (key) (s.l)).getD m6 0) ^^^ x)).map V8) 5 1, .own a11 ((takeF ((putF (key) (s.l)).set m6 (((putF (key) (s.l)).getD m6 0) ^^^ x))).2.1.length) c12 (((takeF ((putF (key) (s.l)).set m6 (((putF (key) (s.l)).getD m6 0) ^^^ x))).2.1).map V8) 5 1, .blk b13 ((List.replicate 32 (0 : UInt8)).map V8) 31]) := H
    refine l_op (o_stA (l' := (takeF ((putF (key) (s.l)).set m6 (((putF (key) (s.l)).getD m6 0) ^^^ x))).1) H (i := 3) rfl rfl rfl cs31 (show (List.replicate 32 (0 : UInt8)).length = 32 from (List.length_replicate ..)) (show ((takeF ((putF (key) (s.l)).set m6 (((putF (key) (s.l)).getD m6 0) ^^^ x))).1).length = 32 from takeF_len _) (fun w H => ?_))
    replace H : Hp w0 w [] ([.blk b1 ((key).map V8) 31, .own a4 (46 + s.len) c5 (((putF (key) (s.l)).set m6 (((putF (key) (s.l)).getD m6 0) ^^^ x)).map V8) 5 1, .own a11 ((takeF ((putF (key) (s.l)).set m6 (((putF (key) (s.l)).getD m6 0) ^^^ x))).2.1.length) c12 (((takeF ((putF (key) (s.l)).set m6 (((putF (key) (s.l)).getD m6 0) ^^^ x))).2.1).map V8) 5 1, .blk b13 (((takeF ((putF (key) (s.l)).set m6 (((putF (key) (s.l)).getD m6 0) ^^^ x))).1).map V8) 31]) := H
    refine l_op (o_val (r_as) ?_)
    refine l_op (o_val (r_as) ?_)
    refine l_op (o_val (r_as) ?_)
    first | refine l_end ?_ | refine l_nil ?_
    repeat refine c_seq ?_
    refine c_region ?_
    refine l_op (o_val (r_mv) ?_)
    refine l_op (o_val (r_bin (a := (((takeF ((putF (key) (s.l)).set m6 (((putF (key) (s.l)).getD m6 0) ^^^ x))).2.2.2 : Nat) : Int)) (b := 0) rfl rfl (fun _ => b_neq)) ?_)
    first | refine l_end ?_ | refine l_nil ?_
    by_cases hc14 : (((takeF ((putF (key) (s.l)).set m6 (((putF (key) (s.l)).getD m6 0) ^^^ x))).2.2.2 : Nat) : Int) ≠ 0
    · skip
      repeat refine c_seq ?_
      refine c_yes (by exact congrArg Value.bool (decide_eq_true hc14)) ?_
      repeat refine c_seq ?_
      refine c_region ?_
      refine l_op (o_val (r_mv) ?_)
      refine l_op (o_val (r_bin (a := (x.toNat : Int)) (b := 0) rfl rfl (fun _ => b_neqB true (decide_eq_true (turned_ne key s.l m6 x hk (by omega) (by omega) (by omega))))) ?_)
      refine l_op (o_val (r_mv) ?_)
      refine l_yes rfl rfl rfl (o_val (r_ldAA (l := (takeF ((putF (key) (s.l)).set m6 (((putF (key) (s.l)).getD m6 0) ^^^ x))).1) H (i := 3) rfl rfl rt31 (show ((takeF ((putF (key) (s.l)).set m6 (((putF (key) (s.l)).getD m6 0) ^^^ x))).1).length = 32 from takeF_len _)) ?_)
      refine l_yes rfl rfl rfl (o_val (r_bld' (pv := []) bd31 rfl rfl) ?_)
      refine l_yes rfl rfl rfl (o_val (r_eqa (a := (takeF ((putF (key) (s.l)).set m6 (((putF (key) (s.l)).getD m6 0) ^^^ x))).1) (b := List.replicate 32 (0 : UInt8)) Try.underlying31 Try.underlying5 cs5 rfl rfl (show ((takeF ((putF (key) (s.l)).set m6 (((putF (key) (s.l)).getD m6 0) ^^^ x))).1).length = 32 from takeF_len _) (show (List.replicate 32 (0 : UInt8)).length = 32 from (List.length_replicate ..))) ?_)
      have hk15 : (decide ((takeF ((putF (key) (s.l)).set m6 (((putF (key) (s.l)).getD m6 0) ^^^ x))).1 = List.replicate 32 (0 : UInt8))) = true := decide_eq_true (takeF_bad ((putF key s.l).set m6 ((putF key s.l).getD m6 0 ^^^ x)) (by omega)).1
      refine l_op (o_val (r_pick rfl) ?_)
      refine l_op (o_val (r_mv) ?_)
      refine l_yes rfl rfl (by exact congrArg Value.bool hk15) (o_val (r_mv) ?_)
      refine l_yes rfl rfl (by exact congrArg Value.bool hk15) (o_val (r_lens el29 rfl) ?_)
      refine l_yes rfl rfl (by exact congrArg Value.bool hk15) (o_val (r_bin (a := (((takeF ((putF (key) (s.l)).set m6 (((putF (key) (s.l)).getD m6 0) ^^^ x))).2.1.length : Nat) : Int)) (b := 0) rfl rfl (fun _ => b_eqlB true (decide_eq_true (by rw [(takeF_bad ((putF key s.l).set m6 ((putF key s.l).getD m6 0 ^^^ x)) (by omega)).2.1]; rfl)))) ?_)
      refine l_op (o_val (r_pick (b := true) (congrArg Value.bool hk15)) ?_)
      refine l_op (o_val (r_mv) ?_)
      refine l_yes rfl rfl rfl (o_val (r_mv) ?_)
      refine l_yes rfl rfl rfl (o_val (r_bin (a := (((takeF ((putF (key) (s.l)).set m6 (((putF (key) (s.l)).getD m6 0) ^^^ x))).2.2.1 : Nat) : Int)) (b := 0) rfl rfl (fun _ => b_eqlB true (decide_eq_true (by rw [(takeF_bad ((putF key s.l).set m6 ((putF key s.l).getD m6 0 ^^^ x)) (by omega)).2.2]; rfl)))) ?_)
      refine l_op (o_val (r_pick rfl) ?_)
      refine l_op (o_val (r_as) ?_)
      first | refine l_end ?_ | refine l_nil ?_
      refine c_ret ?_
      try dsimp only [Exit.then, Exit.inBlock]
      refine e_ret1 (v := .bool true) Try.results17 rfl ?_
      refine ⟨_, rfl, ?_⟩
      exact ⟨rfl, H.sub (List.nil_sublist _)⟩
    · skip
      repeat refine c_seq ?_
      refine c_no (by exact congrArg Value.bool (decide_eq_false hc14)) ?_
      refine c_skip ?_
      have ho := takeF_ok ((putF (key) (s.l)).set m6 (((putF (key) (s.l)).getD m6 0) ^^^ x)) (by omega)
      repeat refine c_seq ?_
      refine c_region ?_
      refine l_op (o_val (r_ldAA (l := (takeF ((putF (key) (s.l)).set m6 (((putF (key) (s.l)).getD m6 0) ^^^ x))).1) H (i := 3) rfl rfl rt31 (show ((takeF ((putF (key) (s.l)).set m6 (((putF (key) (s.l)).getD m6 0) ^^^ x))).1).length = 32 from takeF_len _)) ?_)
      refine l_op (o_val (r_mv) ?_)
      have hk16 : ((takeF ((putF (key) (s.l)).set m6 (((putF (key) (s.l)).getD m6 0) ^^^ x))).2.1.length ≤ 4200) := ho.2.2.1
      refine l_op (o_callR Try.func59 rfl rfl rfl (fput_ok _ ((takeF ((putF (key) (s.l)).set m6 (((putF (key) (s.l)).getD m6 0) ^^^ x))).1) (show ((takeF ((putF (key) (s.l)).set m6 (((putF (key) (s.l)).getD m6 0) ^^^ x))).1).length = 32 from takeF_len _) ⟨hd a11, (takeF ((putF (key) (s.l)).set m6 (((putF (key) (s.l)).getD m6 0) ^^^ x))).2.1.length, c12, (takeF ((putF (key) (s.l)).set m6 (((putF (key) (s.l)).getD m6 0) ^^^ x))).2.1⟩ (H.slOwn (i := 2) rfl) (by (try dsimp only); omega)) ?_)
      rintro _ w ⟨a17, c18, rfl, Hc⟩
      replace H : Hp w0 w [] ([.blk b1 ((key).map V8) 31, .own a4 (46 + s.len) c5 (((putF (key) (s.l)).set m6 (((putF (key) (s.l)).getD m6 0) ^^^ x)).map V8) 5 1, .own a11 ((takeF ((putF (key) (s.l)).set m6 (((putF (key) (s.l)).getD m6 0) ^^^ x))).2.1.length) c12 (((takeF ((putF (key) (s.l)).set m6 (((putF (key) (s.l)).getD m6 0) ^^^ x))).2.1).map V8) 5 1, .blk b13 (((takeF ((putF (key) (s.l)).set m6 (((putF (key) (s.l)).getD m6 0) ^^^ x))).1).map V8) 31, .own a17 (46 + (takeF ((putF (key) (s.l)).set m6 (((putF (key) (s.l)).getD m6 0) ^^^ x))).2.1.length) c18 ((putF ((takeF ((putF (key) (s.l)).set m6 (((putF (key) (s.l)).getD m6 0) ^^^ x))).1) ((takeF ((putF (key) (s.l)).set m6 (((putF (key) (s.l)).getD m6 0) ^^^ x))).2.1)).map V8) 5 1]) := H.call Hc
      clear Hc
      refine l_op (o_val (r_mv) ?_)
      refine l_op (o_val (r_ext rfl rfl) ?_)
      refine l_op (o_val (r_ext rfl rfl) ?_)
      refine l_op (o_val (r_as) ?_)
      refine l_op (o_val (r_as) ?_)
      first | refine l_end ?_ | refine l_nil ?_
      repeat refine c_seq ?_
      refine c_still mixed (by kernel_rfl) ?_
      replace H := H.drew
      refine s_op (r_mv) ?_
      refine s_op (r_bin (a := 0) (b := 0) rfl rfl (fun _ => b_eqlB true (decide_eq_true (by decide)))) ?_
      refine s_op (r_mv) ?_
      refine s_yes rfl rfl rfl (r_mv) ?_
      refine s_yes rfl rfl rfl (r_mv) ?_
      refine s_yes rfl rfl rfl (r_lens el29 rfl) ?_
      refine s_yes rfl rfl rfl (r_bin (a := (((takeF ((putF (key) (s.l)).set m6 (((putF (key) (s.l)).getD m6 0) ^^^ x))).2.2.1 : Nat) : Int)) (b := ((46 + (takeF ((putF (key) (s.l)).set m6 (((putF (key) (s.l)).getD m6 0) ^^^ x))).2.1.length : Nat) : Int)) rfl rfl (fun _ => b_eqlB true (decide_eq_true (by omega)))) ?_
      refine s_op (r_pick rfl) ?_
      refine s_op (r_mv) ?_
      refine s_yes rfl rfl rfl (r_mv) ?_
      refine s_yes rfl rfl rfl (r_mv) ?_
      have hol19 := (H.ownLen (i := 1) rfl).2.1
      refine s_yes rfl rfl rfl (r_slS (s := ⟨hd a4, 46 + s.len, c5, (putF (key) (s.l)).set m6 (((putF (key) (s.l)).getD m6 0) ^^^ x)⟩) 0 ((takeF ((putF (key) (s.l)).set m6 (((putF (key) (s.l)).getD m6 0) ^^^ x))).2.2.1) c5 (lv := none) (hv := some (VI (((takeF ((putF (key) (s.l)).set m6 (((putF (key) (s.l)).getD m6 0) ^^^ x))).2.2.1 : Nat) : Int))) (mv := none) rfl el29 rfl rfl rfl (fun w => by exact sbh ((takeF ((putF (key) (s.l)).set m6 (((putF (key) (s.l)).getD m6 0) ^^^ x))).2.2.1) (by omega) (by (try simp only [Sl.cut]); omega) w)) ?_
      refine s_yes rfl rfl rfl (r_b2S (s := (Sl.cut ⟨hd a4, 46 + s.len, c5, (putF (key) (s.l)).set m6 (((putF (key) (s.l)).getD m6 0) ^^^ x)⟩ 0 ((takeF ((putF (key) (s.l)).set m6 (((putF (key) (s.l)).getD m6 0) ^^^ x))).2.2.1) c5)) Try.underlying29 Try.underlying5 Try.underlying9 rfl ((H.slOwn (i := 1) rfl).cut (l := 0) (h := (takeF ((putF (key) (s.l)).set m6 (((putF (key) (s.l)).getD m6 0) ^^^ x))).2.2.1) (m := c5) (by omega) (by (try simp only [Sl.cut]); omega) (by omega) (by (try simp only [Sl.cut]); omega))) ?_
      refine s_yes rfl rfl rfl (r_mv) ?_
      refine s_yes rfl rfl rfl (r_b2S (s := ⟨hd a17, 46 + (takeF ((putF (key) (s.l)).set m6 (((putF (key) (s.l)).getD m6 0) ^^^ x))).2.1.length, c18, putF ((takeF ((putF (key) (s.l)).set m6 (((putF (key) (s.l)).getD m6 0) ^^^ x))).1) ((takeF ((putF (key) (s.l)).set m6 (((putF (key) (s.l)).getD m6 0) ^^^ x))).2.1)⟩) Try.underlying29 Try.underlying5 Try.underlying9 rfl (H.slOwn (i := 4) rfl)) ?_
      refine s_yes rfl rfl rfl (r_streq (a := (((putF (key) (s.l)).set m6 (((putF (key) (s.l)).getD m6 0) ^^^ x)).drop 0).take ((takeF ((putF (key) (s.l)).set m6 (((putF (key) (s.l)).getD m6 0) ^^^ x))).2.2.1)) (b := putF ((takeF ((putF (key) (s.l)).set m6 (((putF (key) (s.l)).getD m6 0) ^^^ x))).1) ((takeF ((putF (key) (s.l)).set m6 (((putF (key) (s.l)).getD m6 0) ^^^ x))).2.1)) rfl rfl) ?_
      have hk20 : (decide ((((putF (key) (s.l)).set m6 (((putF (key) (s.l)).getD m6 0) ^^^ x)).drop 0).take ((takeF ((putF (key) (s.l)).set m6 (((putF (key) (s.l)).getD m6 0) ^^^ x))).2.2.1) = putF ((takeF ((putF (key) (s.l)).set m6 (((putF (key) (s.l)).getD m6 0) ^^^ x))).1) ((takeF ((putF (key) (s.l)).set m6 (((putF (key) (s.l)).getD m6 0) ^^^ x))).2.1))) = true := decide_eq_true ho.2.2.2
      refine s_op (r_pick rfl) ?_
      refine s_op (r_as) ?_
      refine s_nil ?_
      refine c_ret ?_
      try dsimp only [Exit.then, Exit.inBlock]
      refine e_ret1 (v := .bool (decide ((((putF (key) (s.l)).set m6 (((putF (key) (s.l)).getD m6 0) ^^^ x)).drop 0).take ((takeF ((putF (key) (s.l)).set m6 (((putF (key) (s.l)).getD m6 0) ^^^ x))).2.2.1) = putF ((takeF ((putF (key) (s.l)).set m6 (((putF (key) (s.l)).getD m6 0) ^^^ x))).1) ((takeF ((putF (key) (s.l)).set m6 (((putF (key) (s.l)).getD m6 0) ^^^ x))).2.1)))) Try.results17 rfl ?_
      refine ⟨_, rfl, ?_⟩
      exact ⟨congrArg Value.bool hk20, H.sub (List.nil_sublist _)⟩
end Go.Proofs.Ytjmbbhnpfmblpaa
