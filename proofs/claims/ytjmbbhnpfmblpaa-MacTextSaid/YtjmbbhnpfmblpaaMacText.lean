import Derived.Test.YtjmbbhnpfmblpaaMacB
/- layer 3: the sum of parts is that of one text. -/
namespace Go.Proofs.Ytjmbbhnpfmblpaa
open Go
set_option maxRecDepth 100000
theorem macText_ret (w0 : World) (s : Sl) (pa : Option Addr) (pl pc : Nat) (ps : List Sl) (hs : s.ok w0) (hr : RdS w0 pa (ps.map Sl.v)) (hl : ps.length = pl) (hok : ∀ p ∈ ps, p.ok w0) (hle : pl ≤ pc) (hmx : pc ≤ maxLen) :
    Ret Try.prog 12 [s.v, .slice pa pl pc] w0 fun v w' => v = .bool true ∧ Hp w0 w' [] [] := by
  refine ret_mk Try.func12 rfl Try.ntmps12 (by simp) ?_
  have H := Hp.refl w0 []
  have hsl := hs.ln
  have hmL : maxLen = 9223372036854775807 := rfl
  repeat refine c_seq ?_
  refine c_region ?_
  refine l_op (o_val (r_as) ?_)
  first | refine l_end ?_ | refine l_nil ?_
  repeat refine c_seq ?_
  refine c_region ?_
  refine l_op (o_callR Try.func47 rfl rfl rfl (begun3_ret _) ?_)
  rintro _ w ⟨rfl, Hc⟩
  replace H : Hp w0 w [] ([]) := H.call Hc
  clear Hc
  refine l_op (o_val (r_not rfl) ?_)
  first | refine l_end ?_ | refine l_nil ?_
  repeat refine c_seq ?_
  refine c_no rfl ?_
  refine c_skip ?_
  repeat refine c_seq ?_
  refine c_region ?_
  refine l_op (o_val (r_mv) ?_)
  refine l_op (o_val (r_lens el29 rfl) ?_)
  refine l_op (o_val (r_bin rfl rfl (fun _ => b_gtr)) ?_)
  refine l_op (o_val (r_mv) ?_)
  by_cases hc1 : 4096 < (s.len : Int)
  · skip
    refine l_no rfl rfl (by exact congrArg Value.bool (decide_eq_true hc1)) rfl ?_
    refine l_no rfl rfl (by exact congrArg Value.bool (decide_eq_true hc1)) rfl ?_
    refine l_no rfl rfl (by exact congrArg Value.bool (decide_eq_true hc1)) rfl ?_
    refine l_op (o_val (r_pick (b := true) (congrArg Value.bool (decide_eq_true hc1))) ?_)
    refine l_op (o_val (r_mv) ?_)
    refine l_no rfl rfl rfl rfl ?_
    refine l_no rfl rfl rfl rfl ?_
    refine l_no rfl rfl rfl rfl ?_
    refine l_op (o_val (r_pick rfl) ?_)
    first | refine l_end ?_ | refine l_nil ?_
    repeat refine c_seq ?_
    refine c_yes rfl ?_
    repeat refine c_seq ?_
    refine c_region ?_
    refine l_op (o_val (r_as) ?_)
    first | refine l_end ?_ | refine l_nil ?_
    refine c_ret ?_
    try dsimp only [Exit.then, Exit.inBlock]
    refine e_ret1 (v := .bool true) Try.results12 rfl ?_
    refine ⟨_, rfl, ?_⟩
    exact ⟨rfl, H.sub (List.nil_sublist _)⟩
  · skip
    refine l_yes rfl rfl (by exact congrArg Value.bool (decide_eq_false hc1)) (o_val (r_mv) ?_)
    refine l_yes rfl rfl (by exact congrArg Value.bool (decide_eq_false hc1)) (o_val (r_lens el22 rfl) ?_)
    refine l_yes rfl rfl (by exact congrArg Value.bool (decide_eq_false hc1)) (o_val (r_bin rfl rfl (fun _ => b_gtr)) ?_)
    refine l_op (o_val (r_pick (b := false) (congrArg Value.bool (decide_eq_false hc1))) ?_)
    refine l_op (o_val (r_mv) ?_)
    by_cases hc2 : 1024 < (pl : Int)
    · skip
      refine l_no rfl rfl (by exact congrArg Value.bool (decide_eq_true hc2)) rfl ?_
      refine l_no rfl rfl (by exact congrArg Value.bool (decide_eq_true hc2)) rfl ?_
      refine l_no rfl rfl (by exact congrArg Value.bool (decide_eq_true hc2)) rfl ?_
      refine l_op (o_val (r_pick (b := true) (congrArg Value.bool (decide_eq_true hc2))) ?_)
      first | refine l_end ?_ | refine l_nil ?_
      repeat refine c_seq ?_
      refine c_yes rfl ?_
      repeat refine c_seq ?_
      refine c_region ?_
      refine l_op (o_val (r_as) ?_)
      first | refine l_end ?_ | refine l_nil ?_
      refine c_ret ?_
      try dsimp only [Exit.then, Exit.inBlock]
      refine e_ret1 (v := .bool true) Try.results12 rfl ?_
      refine ⟨_, rfl, ?_⟩
      exact ⟨rfl, H.sub (List.nil_sublist _)⟩
    · skip
      refine l_yes rfl rfl (by exact congrArg Value.bool (decide_eq_false hc2)) (o_val (r_mv) ?_)
      refine l_yes rfl rfl (by exact congrArg Value.bool (decide_eq_false hc2)) (o_callR Try.func32 rfl rfl rfl (sum_parts _ pa pl pc ps (H.rd hr (apart_nil _)) hl (fun p hp => (hok p hp).up H (fun _ => apart_nil _)) (by omega) 4096 (by omega)) ?_)
      rintro _ w ⟨n3, rfl, hsum4, hsun5, Hc⟩
      replace H : Hp w0 w [] ([]) := H.call Hc
      clear Hc
      refine l_yes rfl rfl (by exact congrArg Value.bool (decide_eq_false hc2)) (o_val (r_bin rfl rfl (fun _ => b_gtr)) ?_)
      refine l_op (o_val (r_pick (b := false) (congrArg Value.bool (decide_eq_false hc2))) ?_)
      first | refine l_end ?_ | refine l_nil ?_
      by_cases hc6 : 4096 < (n3 : Int)
      · skip
        repeat refine c_seq ?_
        refine c_yes (by exact congrArg Value.bool (decide_eq_true hc6)) ?_
        repeat refine c_seq ?_
        refine c_region ?_
        refine l_op (o_val (r_as) ?_)
        first | refine l_end ?_ | refine l_nil ?_
        refine c_ret ?_
        try dsimp only [Exit.then, Exit.inBlock]
        refine e_ret1 (v := .bool true) Try.results12 rfl ?_
        refine ⟨_, rfl, ?_⟩
        exact ⟨rfl, H.sub (List.nil_sublist _)⟩
      · skip
        repeat refine c_seq ?_
        refine c_no (by exact congrArg Value.bool (decide_eq_false hc6)) ?_
        refine c_skip ?_
        have hB : (framed (ps.map Sl.l)).length ≤ 1000000 := by
          rw [framed_len]; have := hsum4 (by omega); omega
        repeat refine c_seq ?_
        refine c_region ?_
        refine l_op (o_val (r_as) ?_)
        first | refine l_end ?_ | refine l_nil ?_
        repeat refine c_seq ?_
        refine c_region ?_
        refine l_op (o_val (r_as) ?_)
        first | refine l_end ?_ | refine l_nil ?_
        repeat refine c_seq ?_
        refine c_block ?_
        repeat refine c_seq ?_
        refine c_loop3 (fun (i : Nat) (a : Option Nat) (c : Nat) => [(0, s.v), (1, .slice pa pl pc), (5, .slice (hd a) ((fr ps i).length) c), (6, VI (i : Int))])
          (fun (i : Nat) (a : Option Nat) (c : Nat) w => (i ≤ pl) ∧ Hp w0 w [] ([.own a ((fr ps i).length) c ((fr ps i).map V8) 5 1]))
          (fun (i : Nat) (a : Option Nat) (c : Nat) => pl - i) 0 none 0 ⟨rfl, rfl, rfl, rfl, trivial⟩ ⟨Nat.zero_le _, (H.nilEnd 5 1)⟩ ?_
        clear H
        rintro i a c τ w ⟨hi, H⟩
        repeat refine c_seq ?_
        refine c_region ?_
        refine l_op (o_val (r_mv) ?_)
        refine l_op (o_val (r_mv) ?_)
        refine l_op (o_val (r_lens el22 rfl) ?_)
        refine l_op (o_val (r_bin rfl rfl (fun _ => b_lss)) ?_)
        first | refine l_end ?_ | refine l_nil ?_
        by_cases hc7 : (i : Int) < (pl : Int)
        · skip
          repeat refine c_seq ?_
          refine c_yes (by exact congrArg Value.bool (decide_eq_true hc7)) ?_
          refine c_skip ?_
          repeat refine c_seq ?_
          refine c_block ?_
          repeat refine c_seq ?_
          refine wp_held (fun w => Hp w0 w [] []) mixed ?_
          replace H := H.drew
          have HS := H.sub (List.nil_sublist _)
          refine t_take 0 rfl (by kernel_rfl) (by kernel_rfl) (by kernel_rfl) (fun _ _ _ h => h) (fun w HS => r_mv) HS ?_
          refine t_take 1 rfl (by kernel_rfl) (by kernel_rfl) (by kernel_rfl) (fun _ _ _ h => h) (fun w HS => r_mv) HS ?_
          refine t_take 2 rfl (by kernel_rfl) (by kernel_rfl) (by kernel_rfl) (fun _ _ _ h => h) (fun w HS => r_mv) HS ?_
          obtain ⟨ab8, ao9, ah10⟩ := (HS.rd hr (apart_nil _)).addr (by simp only [List.length_map]; omega)
          refine t_take 3 rfl (by kernel_rfl) (by kernel_rfl) (by kernel_rfl) (fun _ _ _ h => h) (fun w HS => r_isN i rfl rfl el22 ah10 (by omega) (by (try dsimp only); omega)) HS ?_
          obtain ⟨p11, hp12⟩ : ∃ p, ps[i]? = some p := ⟨_, List.getElem?_eq_getElem (by omega)⟩
          have hpok13 := hok p11 (List.mem_of_getElem? hp12)
          have hpok13n := hpok13.ln
          have hpok13m := hpok13.le
          refine t_take 4 rfl (by kernel_rfl) (by kernel_rfl) (by kernel_rfl) (fun _ _ _ h => h) (fun w HS => r_ldP (k := i) (HS.rd hr (apart_nil _)) ah10 rfl ct29 hp12) HS ?_
          refine t_take 5 rfl (by kernel_rfl) (by kernel_rfl) (by kernel_rfl) (fun _ _ _ h => h) (fun w HS => r_lens el29 rfl) HS ?_
          refine t_take 6 rfl (by kernel_rfl) (by kernel_rfl) (by kernel_rfl) (fun _ _ _ h => h) (fun w HS => r_conv (v := ((UInt64.ofNat p11.len).toNat : Int)) Try.underlying3 Try.underlying35 rfl (w_u64_N p11.len (by omega))) HS ?_
          refine t_take 9 rfl (by kernel_rfl) (by kernel_rfl) (by kernel_rfl) (fun _ _ _ h => h) (fun w HS => r_mv) HS ?_
          refine t_take 10 rfl (by kernel_rfl) (by kernel_rfl) (by kernel_rfl) (fun _ _ _ h => h) (fun w HS => r_mv) HS ?_
          refine t_take 11 rfl (by kernel_rfl) (by kernel_rfl) (by kernel_rfl) (fun _ _ _ h => h) (fun w HS => r_isN i rfl rfl el22 ah10 (by omega) (by (try dsimp only); omega)) HS ?_
          refine t_take 12 rfl (by kernel_rfl) (by kernel_rfl) (by kernel_rfl) (fun _ _ _ h => h) (fun w HS => r_ldP (k := i) (HS.rd hr (apart_nil _)) ah10 rfl ct29 hp12) HS ?_
          refine t_step 7 rfl (by kernel_rfl) (o_callR Try.func55 rfl rfl rfl (eight_ret _ (UInt64.ofNat p11.len)) ?_)
          rintro _ w ⟨a14, c15, rfl, Hc⟩
          replace H : Hp w0 w [] ([.own a ((fr ps i).length) c ((fr ps i).map V8) 5 1, .own a14 8 c15 ((be (UInt64.ofNat p11.len).toNat 8).map V8) 5 1]) := H.call Hc
          clear Hc
          refine ⟨H.sub (List.nil_sublist _), ?_⟩
          replace HS := H.sub (List.nil_sublist _)
          have hs1 := fr_succ ps i p11 hp12
          have hs2 := fr_le ps (i + 1)
          have hs3 : (fr ps (i + 1)).length = (fr ps i).length + 8 + p11.l.length := by rw [hs1]; simp [be_len]; omega
          refine t_step 8 rfl (by kernel_rfl) (o_appB (s := ⟨hd a14, 8, c15, be (UInt64.ofNat p11.len).toNat 8⟩) (l' := fr ps i ++ (be (UInt64.ofNat p11.len).toNat 8)) (len' := (fr ps i).length + 8) rfl rfl H (i := 0) rfl sl29 Try.underlying29 rfl rfl (H.slOwn (i := 1) rfl) (by omega) (fun a16 c17 w H => ?_))
          replace H : Hp w0 w [] ([.own a16 ((fr ps i).length + 8) c17 ((fr ps i ++ (be (UInt64.ofNat p11.len).toNat 8)).map V8) 5 1, .own a14 8 c15 ((be (UInt64.ofNat p11.len).toNat 8).map V8) 5 1]) := H
          refine ⟨H.sub (List.nil_sublist _), ?_⟩
          replace HS := H.sub (List.nil_sublist _)
          refine t_step 13 rfl (by kernel_rfl) (o_appB (s := p11) (l' := fr ps (i + 1)) (len' := (fr ps (i + 1)).length) (by rw [hs1, ofNat_nat _ (by omega), hpok13n]) (by omega) H (i := 0) rfl sl29 Try.underlying29 rfl rfl (hpok13.up H (fun _ => apart_nil _)) (by omega) (fun a18 c19 w H => ?_))
          replace H : Hp w0 w [] ([.own a18 ((fr ps (i + 1)).length) c19 ((fr ps (i + 1)).map V8) 5 1, .own a14 8 c15 ((be (UInt64.ofNat p11.len).toNat 8).map V8) 5 1]) := H
          refine ⟨H.sub (List.nil_sublist _), ?_⟩
          replace HS := H.sub (List.nil_sublist _)
          refine t_take 14 rfl (by kernel_rfl) (by kernel_rfl) (by kernel_rfl) (fun _ _ _ h => h) (fun w HS => r_as) HS ?_
          refine t_done (by kernel_rfl) ?_
          clear HS
          repeat refine c_seq ?_
          refine c_region ?_
          refine l_op (o_val (r_mv) ?_)
          refine l_op (o_val (r_bin rfl rfl (fun _ => b_add (by omega) (by omega))) ?_)
          refine l_op (o_val (r_as) ?_)
          first | refine l_end ?_ | refine l_nil ?_
          refine round_end (i + 1, a18, c19) ?_ ?_ ?_
          · exact ⟨rfl, rfl, rfl, show VI ((i : Int) + 1) = VI ((i + 1 : Nat) : Int) from congrArg VI (by omega), trivial⟩
          · refine ⟨?_, ?_⟩
            · try dsimp only
              exact by omega
            · exact H.sub (.cons_cons _ (List.nil_sublist _))
          · show pl - (i + 1 : Nat) < pl - i; omega
        · skip
          repeat refine c_seq ?_
          refine c_no (by exact congrArg Value.bool (decide_eq_false hc7)) ?_
          refine c_exit ?_
          have hi2 : i = pl := by omega
          have hfl := fr_le ps i
          have hfa := fr_all ps i (by omega)
          repeat refine c_seq ?_
          refine c_region ?_
          refine l_op (o_val (r_mv) ?_)
          refine l_op (o_val (r_mv) ?_)
          refine l_op (o_callR Try.func52 rfl rfl rfl (macOf_ret _ s (hs.up H (fun _ => apart_nil _)) pa pl pc ps (H.rd hr (apart_nil _)) hl (fun p hp => (hok p hp).up H (fun _ => apart_nil _)) (by omega) (by omega)) ?_)
          rintro _ w ⟨rfl, Hc⟩
          replace H : Hp w0 w [] ([.own a ((fr ps i).length) c ((fr ps i).map V8) 5 1]) := H.call Hc
          clear Hc
          refine l_op (o_val (r_mv) ?_)
          refine l_op (o_val (r_mv) ?_)
          refine l_op (o_callR Try.func49 rfl rfl rfl (raw_ret _ s ⟨hd a, (fr ps i).length, c, fr ps i⟩ (hs.up H (fun _ => apart_nil _)) (H.slOwn (i := 0) rfl)) ?_)
          rintro _ w ⟨rfl, Hc⟩
          replace H : Hp w0 w [] ([.own a ((fr ps i).length) c ((fr ps i).map V8) 5 1]) := H.call Hc
          clear Hc
          refine l_op (o_val (r_eqa (a := hmac (s.l) (framed (ps.map Sl.l))) (b := hmac (s.l) (fr ps i)) Try.underlying31 Try.underlying5 cs5 rfl rfl (show (hmac (s.l) (framed (ps.map Sl.l))).length = 32 from hmac_len _ _) (show (hmac (s.l) (fr ps i)).length = 32 from hmac_len _ _)) ?_)
          have hk20 : (decide (hmac (s.l) (framed (ps.map Sl.l)) = hmac (s.l) (fr ps i))) = true := decide_eq_true (by rw [hfa])
          refine l_op (o_val (r_as) ?_)
          first | refine l_end ?_ | refine l_nil ?_
          refine c_ret ?_
          try dsimp only [Exit.then, Exit.inBlock]
          refine e_ret1 (v := .bool (decide (hmac (s.l) (framed (ps.map Sl.l)) = hmac (s.l) (fr ps i)))) Try.results12 rfl ?_
          refine ⟨_, rfl, ?_⟩
          exact ⟨congrArg Value.bool hk20, H.sub (List.nil_sublist _)⟩
end Go.Proofs.Ytjmbbhnpfmblpaa
