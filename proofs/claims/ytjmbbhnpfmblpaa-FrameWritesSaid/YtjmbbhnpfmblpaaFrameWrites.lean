import Derived.Test.YtjmbbhnpfmblpaaFrameB
/- layer 10: frames are written as the document has it. -/
namespace Go.Proofs.Ytjmbbhnpfmblpaa
open Go
set_option maxRecDepth 100000
theorem frameWrites_ret (w0 : World) (key : List UInt8) (s : Sl) (n : Int) (hk : key.length = 32) (hs : s.ok w0) :
    Ret Try.prog 14 [.agg ((key).map V8).toArray, s.v, VI n] w0 fun v w' => v = .bool true ∧ Hp w0 w' [] [] := by
  refine ret_mk Try.func14 rfl Try.ntmps14 (by simp) ?_
  have H := Hp.refl w0 []
  have hsl := hs.ln
  repeat refine c_seq ?_
  refine c_region ?_
  refine l_op (o_box (v := .agg ((key).map V8).toArray) H rfl (fun b1 w H hb1 => ?_))
  replace H : Hp w0 w [] ([.blk b1 ((key).map V8) 31]) := H
  refine l_op (o_val (r_as) ?_)
  first | refine l_end ?_ | refine l_nil ?_
  repeat refine c_seq ?_
  refine c_region ?_
  refine l_op (o_callR Try.func58 rfl rfl rfl (begun10_ret _) ?_)
  rintro _ w ⟨rfl, Hc⟩
  replace H : Hp w0 w [] ([.blk b1 ((key).map V8) 31]) := H.call Hc
  clear Hc
  refine l_op (o_val (r_not rfl) ?_)
  first | refine l_end ?_ | refine l_nil ?_
  repeat refine c_seq ?_
  refine c_no rfl ?_
  refine c_skip ?_
  repeat refine c_seq ?_
  refine c_region ?_
  refine l_op (o_val (r_mv) ?_)
  refine l_op (o_val (r_lens el29 rfl) ?_)
  refine l_op (o_val (r_bin (a := (s.len : Int)) (b := 8192) rfl rfl (fun _ => b_gtr)) ?_)
  first | refine l_end ?_ | refine l_nil ?_
  by_cases hc2 : 8192 < (s.len : Int)
  · skip
    repeat refine c_seq ?_
    refine c_yes (by exact congrArg Value.bool (decide_eq_true hc2)) ?_
    repeat refine c_seq ?_
    refine c_region ?_
    refine l_op (o_val (r_as) ?_)
    first | refine l_end ?_ | refine l_nil ?_
    refine c_ret ?_
    try dsimp only [Exit.then, Exit.inBlock]
    refine e_ret1 (v := .bool true) Try.results14 rfl ?_
    refine ⟨_, rfl, ?_⟩
    exact ⟨rfl, H.sub (List.nil_sublist _)⟩
  · skip
    repeat refine c_seq ?_
    refine c_no (by exact congrArg Value.bool (decide_eq_false hc2)) ?_
    refine c_skip ?_
    repeat refine c_seq ?_
    refine c_region ?_
    refine l_op (o_val (r_mv) ?_)
    refine l_op (o_callR Try.func42 rfl rfl rfl (twin_ret _ s (hs.up H (fun _ => apart_nil _)) (by omega)) ?_)
    rintro _ w ⟨b3, rfl, Hc⟩
    replace H : Hp w0 w [] ([.blk b1 ((key).map V8) 31, .blk b3 (tw s.l 3) 5]) := H.call Hc
    clear Hc
    refine l_op (o_val (r_as) ?_)
    first | refine l_end ?_ | refine l_nil ?_
    repeat refine c_seq ?_
    refine c_region ?_
    refine l_op (o_val (r_as) ?_)
    first | refine l_end ?_ | refine l_nil ?_
    repeat refine c_seq ?_
    refine c_block ?_
    repeat refine c_seq ?_
    refine c_loop (fun (i : Nat) => [(1, s.v), (2, VI n), (3, .pointer (some ⟨b1, 0, none⟩)), (7, (⟨some ⟨b3, 0, none⟩, s.len, s.len + 3, s.l⟩ : Sl).v), (8, VI (i : Int))])
      (fun (i : Nat) w => (i ≤ 2) ∧ Hp w0 w [] ([.blk b1 ((key).map V8) 31, .blk b3 (tw s.l 3) 5]))
      (fun (i : Nat) => 2 - i) 0 ⟨rfl, rfl, rfl, rfl, rfl, trivial⟩ ⟨by omega, H⟩ ?_
    clear H
    rintro i τ w ⟨hi, H⟩
    repeat refine c_seq ?_
    refine c_region ?_
    refine l_op (o_val (r_mv) ?_)
    refine l_op (o_val (r_bin (a := (i : Int)) (b := 2) rfl rfl (fun _ => b_lss)) ?_)
    first | refine l_end ?_ | refine l_nil ?_
    by_cases hc4 : (i : Int) < 2
    · skip
      repeat refine c_seq ?_
      refine c_yes (by exact congrArg Value.bool (decide_eq_true hc4)) ?_
      refine c_skip ?_
      repeat refine c_seq ?_
      refine c_block ?_
      repeat refine c_seq ?_
      refine c_region ?_
      refine l_op (o_val (r_ldAA (l := key) H (i := 0) rfl rfl rt31 (show (key).length = 32 from hk)) ?_)
      refine l_op (o_val (r_mv) ?_)
      by_cases hc5 : s.len ≤ 4200
      · skip
        refine l_op (o_callR Try.func59 rfl rfl rfl (fput_ok _ (key) (show (key).length = 32 from hk) (⟨some ⟨b3, 0, none⟩, s.len, s.len + 3, s.l⟩ : Sl) (kept_of_blk (H.has (.blk b3 (tw s.l 3) 5) (by simp)) s.len hsl (by omega)).ok (by (try dsimp only); omega)) ?_)
        rintro _ w ⟨a6, c7, rfl, Hc⟩
        replace H : Hp w0 w [] ([.blk b1 ((key).map V8) 31, .blk b3 (tw s.l 3) 5, .own a6 (46 + s.len) c7 ((putF (key) (s.l)).map V8) 5 1]) := H.call Hc
        clear Hc
        refine l_op (o_val (r_mv) ?_)
        refine l_op (o_val (r_ext rfl rfl) ?_)
        refine l_op (o_val (r_ext rfl rfl) ?_)
        refine l_op (o_val (r_as) ?_)
        refine l_op (o_val (r_as) ?_)
        first | refine l_end ?_ | refine l_nil ?_
        repeat refine c_seq ?_
        refine c_region ?_
        refine l_op (o_val (r_ldAA (l := key) H (i := 0) rfl rfl rt31 (show (key).length = 32 from hk)) ?_)
        refine l_op (o_val (r_mv) ?_)
        refine l_op (o_callR Try.func60 rfl rfl rfl (fput10_ok _ (key) (show (key).length = 32 from hk) s (hs.up H (fun _ => apart_nil _)) (by (try dsimp only); omega)) ?_)
        rintro _ w ⟨a8, c9, rfl, Hc⟩
        replace H : Hp w0 w [] ([.blk b1 ((key).map V8) 31, .blk b3 (tw s.l 3) 5, .own a6 (46 + s.len) c7 ((putF (key) (s.l)).map V8) 5 1, .own a8 (46 + s.len) c9 ((putF (key) (s.l)).map V8) 5 1]) := H.call Hc
        clear Hc
        refine l_op (o_val (r_mv) ?_)
        refine l_op (o_val (r_ext rfl rfl) ?_)
        refine l_op (o_val (r_ext rfl rfl) ?_)
        refine l_op (o_val (r_as) ?_)
        refine l_op (o_val (r_as) ?_)
        first | refine l_end ?_ | refine l_nil ?_
        repeat refine c_seq ?_
        refine c_region ?_
        refine l_op (o_val (r_mv) ?_)
        refine l_op (o_val (r_mv) ?_)
        refine l_op (o_val (r_bin (a := 0) (b := 0) rfl rfl (fun _ => b_neqB false (decide_eq_false (by decide)))) ?_)
        refine l_op (o_val (r_mv) ?_)
        refine l_yes rfl rfl rfl (o_val (r_mv) ?_)
        refine l_yes rfl rfl rfl (o_val (r_b2S (s := ⟨hd a6, 46 + s.len, c7, putF (key) (s.l)⟩) Try.underlying29 Try.underlying5 Try.underlying9 rfl (H.slOwn (i := 2) rfl)) ?_)
        refine l_yes rfl rfl rfl (o_val (r_mv) ?_)
        refine l_yes rfl rfl rfl (o_val (r_b2S (s := ⟨hd a8, 46 + s.len, c9, putF (key) (s.l)⟩) Try.underlying29 Try.underlying5 Try.underlying9 rfl (H.slOwn (i := 3) rfl)) ?_)
        refine l_yes rfl rfl rfl (o_val (r_strne (a := putF (key) (s.l)) (b := putF (key) (s.l)) rfl rfl) ?_)
        refine l_op (o_val (r_pick rfl) ?_)
        refine l_op (o_val (r_mv) ?_)
        refine l_yes rfl rfl (by exact congrArg Value.bool (congrArg not (decide_eq_true (rfl : putF (key) (s.l) = putF (key) (s.l))))) (o_val (r_mv) ?_)
        refine l_yes rfl rfl (by exact congrArg Value.bool (congrArg not (decide_eq_true (rfl : putF (key) (s.l) = putF (key) (s.l))))) (o_val (r_mv) ?_)
        refine l_yes rfl rfl (by exact congrArg Value.bool (congrArg not (decide_eq_true (rfl : putF (key) (s.l) = putF (key) (s.l))))) (o_callR Try.func54 rfl rfl rfl (kept_ret _ (⟨some ⟨b3, 0, none⟩, s.len, s.len + 3, s.l⟩ : Sl) s (kept_of_blk (H.has (.blk b3 (tw s.l 3) 5) (by simp)) s.len hsl (by omega)) (hs.up H (fun _ => apart_nil _)) rfl (by (try dsimp only); omega)) ?_)
        rintro _ w ⟨rfl, Hc⟩
        replace H : Hp w0 w [] ([.blk b1 ((key).map V8) 31, .blk b3 (tw s.l 3) 5, .own a6 (46 + s.len) c7 ((putF (key) (s.l)).map V8) 5 1, .own a8 (46 + s.len) c9 ((putF (key) (s.l)).map V8) 5 1]) := H.call Hc
        clear Hc
        refine l_yes rfl rfl (by exact congrArg Value.bool (congrArg not (decide_eq_true (rfl : putF (key) (s.l) = putF (key) (s.l))))) (o_val (r_not rfl) ?_)
        refine l_op (o_val (r_pick (b := false) (congrArg Value.bool (congrArg not (decide_eq_true (rfl : putF (key) (s.l) = putF (key) (s.l)))))) ?_)
        refine l_op (o_val (r_mv) ?_)
        refine l_yes rfl rfl rfl (o_val (r_mv) ?_)
        refine l_yes rfl rfl rfl (o_callR Try.func61 rfl rfl rfl (fsize_ret _ (n)) ?_)
        rintro _ w ⟨rfl, Hc⟩
        replace H : Hp w0 w [] ([.blk b1 ((key).map V8) 31, .blk b3 (tw s.l 3) 5, .own a6 (46 + s.len) c7 ((putF (key) (s.l)).map V8) 5 1, .own a8 (46 + s.len) c9 ((putF (key) (s.l)).map V8) 5 1]) := H.call Hc
        clear Hc
        refine l_yes rfl rfl rfl (o_val (r_mv) ?_)
        refine l_yes rfl rfl rfl (o_callR Try.func62 rfl rfl rfl (fsize10_ret _ (n)) ?_)
        rintro _ w ⟨rfl, Hc⟩
        replace H : Hp w0 w [] ([.blk b1 ((key).map V8) 31, .blk b3 (tw s.l 3) 5, .own a6 (46 + s.len) c7 ((putF (key) (s.l)).map V8) 5 1, .own a8 (46 + s.len) c9 ((putF (key) (s.l)).map V8) 5 1]) := H.call Hc
        clear Hc
        refine l_yes rfl rfl rfl (o_val (r_bin (a := (if n < 0 ∨ 4200 < n then 0 else 46 + n)) (b := (if n < 0 ∨ 4200 < n then 0 else 46 + n)) rfl rfl (fun _ => b_neqB false (decide_eq_false (fun h => h rfl)))) ?_)
        refine l_op (o_val (r_pick rfl) ?_)
        first | refine l_end ?_ | refine l_nil ?_
        repeat refine c_seq ?_
        refine c_no rfl ?_
        refine c_skip ?_
        repeat refine c_seq ?_
        refine c_region ?_
        refine l_op (o_val (r_mv) ?_)
        refine l_op (o_callR Try.func43 rfl rfl rfl (spoilOwn_ret H (i := 2) rfl) ?_)
        rintro _ w ⟨rfl, Hc⟩
        clear H
        have H := Hc; clear Hc
        replace H : Hp w0 w [] ([.blk b1 ((key).map V8) 31, .blk b3 (tw s.l 3) 5, .own a6 (46 + s.len) c7 ((List.replicate (46 + s.len) (90 : UInt8)).map V8) 5 1, .own a8 (46 + s.len) c9 ((putF (key) (s.l)).map V8) 5 1]) := H
        first | refine l_end ?_ | refine l_nil ?_
        repeat refine c_seq ?_
        refine c_region ?_
        refine l_op (o_val (r_mv) ?_)
        refine l_op (o_val (r_bin (a := (i : Int)) (b := 1) rfl rfl (fun _ => b_add (by omega) (by omega))) ?_)
        refine l_op (o_val (r_as) ?_)
        first | refine l_end ?_ | refine l_nil ?_
        refine round_end (i + 1) ?_ ?_ ?_
        · exact ⟨rfl, rfl, rfl, rfl, show VI ((i : Int) + 1) = VI ((i + 1 : Nat) : Int) from congrArg VI (by omega), trivial⟩
        · refine ⟨?_, ?_⟩
          · try dsimp only
            exact by omega
          · exact H.sub (.cons_cons _ (.cons_cons _ (List.nil_sublist _)))
        · show 2 - (i + 1 : Nat) < 2 - i; omega
      · skip
        refine l_op (o_callR Try.func59 rfl rfl rfl (fput_long _ (key) (show (key).length = 32 from hk) (⟨some ⟨b3, 0, none⟩, s.len, s.len + 3, s.l⟩ : Sl) (kept_of_blk (H.has (.blk b3 (tw s.l 3) 5) (by simp)) s.len hsl (by omega)).ok (by (try dsimp only); omega)) ?_)
        rintro _ w ⟨rfl, Hc⟩
        replace H : Hp w0 w [] ([.blk b1 ((key).map V8) 31, .blk b3 (tw s.l 3) 5]) := H.call Hc
        clear Hc
        refine l_op (o_val (r_mv) ?_)
        refine l_op (o_val (r_ext rfl rfl) ?_)
        refine l_op (o_val (r_ext rfl rfl) ?_)
        refine l_op (o_val (r_as) ?_)
        refine l_op (o_val (r_as) ?_)
        first | refine l_end ?_ | refine l_nil ?_
        repeat refine c_seq ?_
        refine c_region ?_
        refine l_op (o_val (r_ldAA (l := key) H (i := 0) rfl rfl rt31 (show (key).length = 32 from hk)) ?_)
        refine l_op (o_val (r_mv) ?_)
        refine l_op (o_callR Try.func60 rfl rfl rfl (fput10_long _ (key) (show (key).length = 32 from hk) s (hs.up H (fun _ => apart_nil _)) (by (try dsimp only); omega)) ?_)
        rintro _ w ⟨rfl, Hc⟩
        replace H : Hp w0 w [] ([.blk b1 ((key).map V8) 31, .blk b3 (tw s.l 3) 5]) := H.call Hc
        clear Hc
        refine l_op (o_val (r_mv) ?_)
        refine l_op (o_val (r_ext rfl rfl) ?_)
        refine l_op (o_val (r_ext rfl rfl) ?_)
        refine l_op (o_val (r_as) ?_)
        refine l_op (o_val (r_as) ?_)
        first | refine l_end ?_ | refine l_nil ?_
        repeat refine c_seq ?_
        refine c_region ?_
        refine l_op (o_val (r_mv) ?_)
        refine l_op (o_val (r_mv) ?_)
        refine l_op (o_val (r_bin (a := 2) (b := 2) rfl rfl (fun _ => b_neqB false (decide_eq_false (by decide)))) ?_)
        refine l_op (o_val (r_mv) ?_)
        refine l_yes rfl rfl rfl (o_val (r_mv) ?_)
        refine l_yes rfl rfl rfl (o_val (r_b2S (s := ⟨none, 0, 0, []⟩) Try.underlying29 Try.underlying5 Try.underlying9 rfl (Sl.ok_nil _)) ?_)
        refine l_yes rfl rfl rfl (o_val (r_mv) ?_)
        refine l_yes rfl rfl rfl (o_val (r_b2S (s := ⟨none, 0, 0, []⟩) Try.underlying29 Try.underlying5 Try.underlying9 rfl (Sl.ok_nil _)) ?_)
        refine l_yes rfl rfl rfl (o_val (r_strne (a := ([] : List UInt8)) (b := ([] : List UInt8)) rfl rfl) ?_)
        refine l_op (o_val (r_pick rfl) ?_)
        refine l_op (o_val (r_mv) ?_)
        refine l_yes rfl rfl (by exact congrArg Value.bool (congrArg not (decide_eq_true (rfl : ([] : List UInt8) = ([] : List UInt8))))) (o_val (r_mv) ?_)
        refine l_yes rfl rfl (by exact congrArg Value.bool (congrArg not (decide_eq_true (rfl : ([] : List UInt8) = ([] : List UInt8))))) (o_val (r_mv) ?_)
        refine l_yes rfl rfl (by exact congrArg Value.bool (congrArg not (decide_eq_true (rfl : ([] : List UInt8) = ([] : List UInt8))))) (o_callR Try.func54 rfl rfl rfl (kept_ret _ (⟨some ⟨b3, 0, none⟩, s.len, s.len + 3, s.l⟩ : Sl) s (kept_of_blk (H.has (.blk b3 (tw s.l 3) 5) (by simp)) s.len hsl (by omega)) (hs.up H (fun _ => apart_nil _)) rfl (by (try dsimp only); omega)) ?_)
        rintro _ w ⟨rfl, Hc⟩
        replace H : Hp w0 w [] ([.blk b1 ((key).map V8) 31, .blk b3 (tw s.l 3) 5]) := H.call Hc
        clear Hc
        refine l_yes rfl rfl (by exact congrArg Value.bool (congrArg not (decide_eq_true (rfl : ([] : List UInt8) = ([] : List UInt8))))) (o_val (r_not rfl) ?_)
        refine l_op (o_val (r_pick (b := false) (congrArg Value.bool (congrArg not (decide_eq_true (rfl : ([] : List UInt8) = ([] : List UInt8)))))) ?_)
        refine l_op (o_val (r_mv) ?_)
        refine l_yes rfl rfl rfl (o_val (r_mv) ?_)
        refine l_yes rfl rfl rfl (o_callR Try.func61 rfl rfl rfl (fsize_ret _ (n)) ?_)
        rintro _ w ⟨rfl, Hc⟩
        replace H : Hp w0 w [] ([.blk b1 ((key).map V8) 31, .blk b3 (tw s.l 3) 5]) := H.call Hc
        clear Hc
        refine l_yes rfl rfl rfl (o_val (r_mv) ?_)
        refine l_yes rfl rfl rfl (o_callR Try.func62 rfl rfl rfl (fsize10_ret _ (n)) ?_)
        rintro _ w ⟨rfl, Hc⟩
        replace H : Hp w0 w [] ([.blk b1 ((key).map V8) 31, .blk b3 (tw s.l 3) 5]) := H.call Hc
        clear Hc
        refine l_yes rfl rfl rfl (o_val (r_bin (a := (if n < 0 ∨ 4200 < n then 0 else 46 + n)) (b := (if n < 0 ∨ 4200 < n then 0 else 46 + n)) rfl rfl (fun _ => b_neqB false (decide_eq_false (fun h => h rfl)))) ?_)
        refine l_op (o_val (r_pick rfl) ?_)
        first | refine l_end ?_ | refine l_nil ?_
        repeat refine c_seq ?_
        refine c_no rfl ?_
        refine c_skip ?_
        repeat refine c_seq ?_
        refine c_region ?_
        refine l_op (o_val (r_mv) ?_)
        refine l_op (o_callR Try.func43 rfl rfl rfl (spoil0_ret _) ?_)
        rintro _ w ⟨rfl, Hc⟩
        replace H : Hp w0 w [] ([.blk b1 ((key).map V8) 31, .blk b3 (tw s.l 3) 5]) := H.call Hc
        clear Hc
        first | refine l_end ?_ | refine l_nil ?_
        repeat refine c_seq ?_
        refine c_region ?_
        refine l_op (o_val (r_mv) ?_)
        refine l_op (o_val (r_bin (a := (i : Int)) (b := 1) rfl rfl (fun _ => b_add (by omega) (by omega))) ?_)
        refine l_op (o_val (r_as) ?_)
        first | refine l_end ?_ | refine l_nil ?_
        refine round_end (i + 1) ?_ ?_ ?_
        · exact ⟨rfl, rfl, rfl, rfl, show VI ((i : Int) + 1) = VI ((i + 1 : Nat) : Int) from congrArg VI (by omega), trivial⟩
        · refine ⟨?_, ?_⟩
          · try dsimp only
            exact by omega
          · exact H.sub (.cons_cons _ (.cons_cons _ (List.nil_sublist _)))
        · show 2 - (i + 1 : Nat) < 2 - i; omega
    · skip
      repeat refine c_seq ?_
      refine c_no (by exact congrArg Value.bool (decide_eq_false hc4)) ?_
      refine c_exit ?_
      repeat refine c_seq ?_
      refine c_region ?_
      refine l_op (o_val (r_as) ?_)
      first | refine l_end ?_ | refine l_nil ?_
      refine c_ret ?_
      try dsimp only [Exit.then, Exit.inBlock]
      refine e_ret1 (v := .bool true) Try.results14 rfl ?_
      refine ⟨_, rfl, ?_⟩
      exact ⟨rfl, H.sub (List.nil_sublist _)⟩
end Go.Proofs.Ytjmbbhnpfmblpaa
