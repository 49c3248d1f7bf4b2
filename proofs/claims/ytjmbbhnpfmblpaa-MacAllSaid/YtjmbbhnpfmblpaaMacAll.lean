import Derived.Test.YtjmbbhnpfmblpaaMacB
/- layer 3: sums under a key. -/
namespace Go.Proofs.Ytjmbbhnpfmblpaa
open Go
set_option maxRecDepth 100000
theorem macAll_ret (w0 : World) (s : Sl) (pa : Option Addr) (pl pc : Nat) (ps : List Sl) (hs : s.ok w0) (hr : RdS w0 pa (ps.map Sl.v)) (hl : ps.length = pl) (hok : ∀ p ∈ ps, p.ok w0) (hle : pl ≤ pc) (hmx : pc ≤ maxLen) :
    Ret Try.prog 11 [s.v, .slice pa pl pc] w0 fun v w' => v = .bool true ∧ Hp w0 w' [] [] := by
  refine ret_mk Try.func11 rfl Try.ntmps11 (by simp) ?_
  have H := Hp.refl w0 []
  have hsl := hs.ln
  have hmL : maxLen = 9223372036854775807 := rfl
  repeat refine c_seq ?_
  refine c_region ?_
  refine l_op (o_val (r_as) ?_)
  first | refine l_end ?_ | refine l_nil ?_
  repeat refine c_seq ?_
  refine c_region ?_
  refine l_op (o_callR Try.func47 rfl rfl rfl (begun3_ret _) ?_)
  rintro _ w ⟨rfl, Hc⟩
  replace H : Hp w0 w [] ([]) := H.call Hc
  clear Hc
  refine l_op (o_val (r_not rfl) ?_)
  first | refine l_end ?_ | refine l_nil ?_
  repeat refine c_seq ?_
  refine c_no rfl ?_
  refine c_skip ?_
  repeat refine c_seq ?_
  refine c_region ?_
  refine l_op (o_val (r_mv) ?_)
  refine l_op (o_val (r_lens el29 rfl) ?_)
  refine l_op (o_val (r_bin rfl rfl (fun _ => b_gtr)) ?_)
  refine l_op (o_val (r_mv) ?_)
  by_cases hc1 : 4096 < (s.len : Int)
  · skip
    refine l_no rfl rfl (by exact congrArg Value.bool (decide_eq_true hc1)) rfl ?_
    refine l_no rfl rfl (by exact congrArg Value.bool (decide_eq_true hc1)) rfl ?_
    refine l_no rfl rfl (by exact congrArg Value.bool (decide_eq_true hc1)) rfl ?_
    refine l_op (o_val (r_pick (b := true) (congrArg Value.bool (decide_eq_true hc1))) ?_)
    refine l_op (o_val (r_mv) ?_)
    refine l_no rfl rfl rfl rfl ?_
    refine l_no rfl rfl rfl rfl ?_
    refine l_no rfl rfl rfl rfl ?_
    refine l_op (o_val (r_pick rfl) ?_)
    first | refine l_end ?_ | refine l_nil ?_
    repeat refine c_seq ?_
    refine c_yes rfl ?_
    repeat refine c_seq ?_
    refine c_region ?_
    refine l_op (o_val (r_as) ?_)
    first | refine l_end ?_ | refine l_nil ?_
    refine c_ret ?_
    try dsimp only [Exit.then, Exit.inBlock]
    refine e_ret1 (v := .bool true) Try.results11 rfl ?_
    refine ⟨_, rfl, ?_⟩
    exact ⟨rfl, H.sub (List.nil_sublist _)⟩
  · skip
    refine l_yes rfl rfl (by exact congrArg Value.bool (decide_eq_false hc1)) (o_val (r_mv) ?_)
    refine l_yes rfl rfl (by exact congrArg Value.bool (decide_eq_false hc1)) (o_val (r_lens el22 rfl) ?_)
    refine l_yes rfl rfl (by exact congrArg Value.bool (decide_eq_false hc1)) (o_val (r_bin rfl rfl (fun _ => b_gtr)) ?_)
    refine l_op (o_val (r_pick (b := false) (congrArg Value.bool (decide_eq_false hc1))) ?_)
    refine l_op (o_val (r_mv) ?_)
    by_cases hc2 : 1024 < (pl : Int)
    · skip
      refine l_no rfl rfl (by exact congrArg Value.bool (decide_eq_true hc2)) rfl ?_
      refine l_no rfl rfl (by exact congrArg Value.bool (decide_eq_true hc2)) rfl ?_
      refine l_no rfl rfl (by exact congrArg Value.bool (decide_eq_true hc2)) rfl ?_
      refine l_op (o_val (r_pick (b := true) (congrArg Value.bool (decide_eq_true hc2))) ?_)
      first | refine l_end ?_ | refine l_nil ?_
      repeat refine c_seq ?_
      refine c_yes rfl ?_
      repeat refine c_seq ?_
      refine c_region ?_
      refine l_op (o_val (r_as) ?_)
      first | refine l_end ?_ | refine l_nil ?_
      refine c_ret ?_
      try dsimp only [Exit.then, Exit.inBlock]
      refine e_ret1 (v := .bool true) Try.results11 rfl ?_
      refine ⟨_, rfl, ?_⟩
      exact ⟨rfl, H.sub (List.nil_sublist _)⟩
    · skip
      refine l_yes rfl rfl (by exact congrArg Value.bool (decide_eq_false hc2)) (o_val (r_mv) ?_)
      refine l_yes rfl rfl (by exact congrArg Value.bool (decide_eq_false hc2)) (o_callR Try.func32 rfl rfl rfl (sum_parts _ pa pl pc ps (H.rd hr (apart_nil _)) hl (fun p hp => (hok p hp).up H (fun _ => apart_nil _)) (by omega) 4096 (by omega)) ?_)
      rintro _ w ⟨n3, rfl, hsum4, hsun5, Hc⟩
      replace H : Hp w0 w [] ([]) := H.call Hc
      clear Hc
      refine l_yes rfl rfl (by exact congrArg Value.bool (decide_eq_false hc2)) (o_val (r_bin rfl rfl (fun _ => b_gtr)) ?_)
      refine l_op (o_val (r_pick (b := false) (congrArg Value.bool (decide_eq_false hc2))) ?_)
      first | refine l_end ?_ | refine l_nil ?_
      by_cases hc6 : 4096 < (n3 : Int)
      · skip
        repeat refine c_seq ?_
        refine c_yes (by exact congrArg Value.bool (decide_eq_true hc6)) ?_
        repeat refine c_seq ?_
        refine c_region ?_
        refine l_op (o_val (r_as) ?_)
        first | refine l_end ?_ | refine l_nil ?_
        refine c_ret ?_
        try dsimp only [Exit.then, Exit.inBlock]
        refine e_ret1 (v := .bool true) Try.results11 rfl ?_
        refine ⟨_, rfl, ?_⟩
        exact ⟨rfl, H.sub (List.nil_sublist _)⟩
      · skip
        repeat refine c_seq ?_
        refine c_no (by exact congrArg Value.bool (decide_eq_false hc6)) ?_
        refine c_skip ?_
        have hcl := hsum4 (by omega)
        have hB : (framed (ps.map Sl.l)).length ≤ 1000000 := by rw [framed_len]; omega
        repeat refine c_seq ?_
        refine c_region ?_
        refine l_op (o_val (r_mv) ?_)
        refine l_op (o_callR Try.func42 rfl rfl rfl (twin_ret _ s (hs.up H (fun _ => apart_nil _)) (by omega)) ?_)
        rintro _ w ⟨b7, rfl, Hc⟩
        replace H : Hp w0 w [] ([.blk b7 (tw s.l 3) 5]) := H.call Hc
        clear Hc
        refine l_op (o_val (r_mv) ?_)
        refine l_op (o_callR Try.func33 rfl rfl rfl (twins_ret _ pa pl pc ps (H.rd hr (apart_nil _)) hl (fun p hp => (hok p hp).up H (fun _ => apart_nil _)) (fun p hp => by have h1 := mem_cat hp; have h2 := (hok p hp).ln; omega) (by omega)) ?_)
        rintro _ w ⟨ta, tc, ts, rfl, he, hrt, hkt, Hc⟩
        replace H : Hp w0 w [] ([.blk b7 (tw s.l 3) 5]) := H.call Hc
        clear Hc
        have hkk := kept_of_blk (H.has (.blk b7 (tw s.l 3) 5) (by simp)) s.len hsl (by omega)
        have Hb := H
        replace hs := hs.up H (fun _ => apart_nil _)
        replace hr := H.rd hr (apart_nil _)
        replace hok : ∀ p ∈ ps, p.ok _ := fun p hp => (hok p hp).up H (fun _ => apart_nil _)
        clear H
        rename World => wb
        have H := Hp.refl wb []
        have htp := len_of_map he
        have hlt : ts.length = pl := by omega
        have hokt : ∀ p ∈ ts, p.ok wb := fun p hp => (hkt p hp).ok
        have hft : framed (ts.map Sl.l) = framed (ps.map Sl.l) := by rw [he]
        have hBt : (framed (ts.map Sl.l)).length ≤ 1000000 := by rw [hft]; exact hB
        refine l_op (o_val (r_as) ?_)
        refine l_op (o_val (r_as) ?_)
        first | refine l_end ?_ | refine l_nil ?_
        repeat refine c_seq ?_
        refine c_region ?_
        refine l_op (o_val (r_mv) ?_)
        refine l_op (o_callR Try.func51 rfl rfl rfl (joined_ret _ pa pl pc ps (H.rd hr (apart_nil _)) hl (fun p hp => (hok p hp).up H (fun _ => apart_nil _)) (by omega) (by omega)) ?_)
        rintro _ w ⟨a8, c9, rfl, Hc⟩
        replace H : Hp wb w [] ([.own a8 ((cat ps).length) c9 ((cat ps).map V8) 5 1]) := H.call Hc
        clear Hc
        refine l_op (o_val (r_as) ?_)
        first | refine l_end ?_ | refine l_nil ?_
        repeat refine c_seq ?_
        refine c_region ?_
        refine l_op (o_val (r_mv) ?_)
        refine l_op (o_val (r_mv) ?_)
        refine l_op (o_callR Try.func52 rfl rfl rfl (macOf_ret _ (⟨some ⟨b7, 0, none⟩, s.len, s.len + 3, s.l⟩ : Sl) ((hkk.up H (apart_nil _)).ok) ta pl tc ts (H.rd hrt (apart_nil _)) hlt (fun p hp => (hokt p hp).up H (fun _ => apart_nil _)) (by omega) (by omega)) ?_)
        rintro _ w ⟨rfl, Hc⟩
        replace H : Hp wb w [] ([.own a8 ((cat ps).length) c9 ((cat ps).map V8) 5 1]) := H.call Hc
        clear Hc
        refine l_op (o_val (r_mv) ?_)
        refine l_op (o_val (r_mv) ?_)
        refine l_op (o_callR Try.func53 rfl rfl rfl (of3_ret _ s (hs.up H (fun _ => apart_nil _)) pa pl pc ps (H.rd hr (apart_nil _)) hl (fun p hp => (hok p hp).up H (fun _ => apart_nil _)) (by (try dsimp only); omega) (by omega) (by omega)) ?_)
        rintro _ w ⟨rfl, Hc⟩
        replace H : Hp wb w [] ([.own a8 ((cat ps).length) c9 ((cat ps).map V8) 5 1]) := H.call Hc
        clear Hc
        refine l_op (o_val (r_eqa (a := hmac (s.l) (framed (ts.map Sl.l))) (b := hmac (s.l) (framed (ps.map Sl.l))) Try.underlying31 Try.underlying5 cs5 rfl rfl (show (hmac (s.l) (framed (ts.map Sl.l))).length = 32 from hmac_len _ _) (show (hmac (s.l) (framed (ps.map Sl.l))).length = 32 from hmac_len _ _)) ?_)
        have hk10 : (decide (hmac (s.l) (framed (ts.map Sl.l)) = hmac (s.l) (framed (ps.map Sl.l)))) = true := decide_eq_true (by rw [hft])
        refine l_op (o_val (r_mv) ?_)
        refine l_yes rfl rfl (by exact congrArg Value.bool hk10) (o_val (r_mv) ?_)
        refine l_yes rfl rfl (by exact congrArg Value.bool hk10) (o_val (r_mv) ?_)
        refine l_yes rfl rfl (by exact congrArg Value.bool hk10) (o_callR Try.func49 rfl rfl rfl (raw_ret _ (⟨some ⟨b7, 0, none⟩, s.len, s.len + 3, s.l⟩ : Sl) ⟨hd a8, (cat ps).length, c9, cat ps⟩ ((hkk.up H (apart_nil _)).ok) (H.slOwn (i := 0) rfl)) ?_)
        rintro _ w ⟨rfl, Hc⟩
        replace H : Hp wb w [] ([.own a8 ((cat ps).length) c9 ((cat ps).map V8) 5 1]) := H.call Hc
        clear Hc
        refine l_yes rfl rfl (by exact congrArg Value.bool hk10) (o_val (r_mv) ?_)
        refine l_yes rfl rfl (by exact congrArg Value.bool hk10) (o_val (r_mv) ?_)
        refine l_yes rfl rfl (by exact congrArg Value.bool hk10) (o_callR Try.func50 rfl rfl rfl (raw3_ret _ s ⟨hd a8, (cat ps).length, c9, cat ps⟩ (hs.up H (fun _ => apart_nil _)) (H.slOwn (i := 0) rfl) (by (try dsimp only); omega) (by (try dsimp only); omega)) ?_)
        rintro _ w ⟨rfl, Hc⟩
        replace H : Hp wb w [] ([.own a8 ((cat ps).length) c9 ((cat ps).map V8) 5 1]) := H.call Hc
        clear Hc
        refine l_yes rfl rfl (by exact congrArg Value.bool hk10) (o_val (r_eqa (a := hmac (s.l) (cat ps)) (b := hmac (s.l) (cat ps)) Try.underlying31 Try.underlying5 cs5 rfl rfl (show (hmac (s.l) (cat ps)).length = 32 from hmac_len _ _) (show (hmac (s.l) (cat ps)).length = 32 from hmac_len _ _)) ?_)
        have hk11 : (decide (hmac (s.l) (cat ps) = hmac (s.l) (cat ps))) = true := decide_eq_true rfl
        refine l_op (o_val (r_pick (b := true) (congrArg Value.bool hk10)) ?_)
        refine l_op (o_val (r_mv) ?_)
        refine l_yes rfl rfl (by exact congrArg Value.bool hk11) (o_val (r_mv) ?_)
        refine l_yes rfl rfl (by exact congrArg Value.bool hk11) (o_val (r_mv) ?_)
        refine l_yes rfl rfl (by exact congrArg Value.bool hk11) (o_callR Try.func54 rfl rfl rfl (kept_ret _ (⟨some ⟨b7, 0, none⟩, s.len, s.len + 3, s.l⟩ : Sl) s (hkk.up H (apart_nil _)) (hs.up H (fun _ => apart_nil _)) rfl (by (try dsimp only); omega)) ?_)
        rintro _ w ⟨rfl, Hc⟩
        replace H : Hp wb w [] ([.own a8 ((cat ps).length) c9 ((cat ps).map V8) 5 1]) := H.call Hc
        clear Hc
        refine l_op (o_val (r_pick (b := true) (congrArg Value.bool hk11)) ?_)
        refine l_op (o_val (r_mv) ?_)
        refine l_yes rfl rfl rfl (o_val (r_mv) ?_)
        refine l_yes rfl rfl rfl (o_val (r_mv) ?_)
        refine l_yes rfl rfl rfl (o_callR Try.func40 rfl rfl rfl (allkept_ret _ ta pl tc ts (H.rd hrt (apart_nil _)) hlt (fun p hp => (hkt p hp).up H (apart_nil _)) pa pl pc ps (H.rd hr (apart_nil _)) hl (fun p hp => (hok p hp).up H (fun _ => apart_nil _)) he (fun p hp => by have h1 := mem_cat hp; have h2 := (hok p hp).ln; omega) (by omega)) ?_)
        rintro _ w ⟨rfl, Hc⟩
        replace H : Hp wb w [] ([.own a8 ((cat ps).length) c9 ((cat ps).map V8) 5 1]) := H.call Hc
        clear Hc
        refine l_op (o_val (r_pick rfl) ?_)
        refine l_op (o_val (r_as) ?_)
        first | refine l_end ?_ | refine l_nil ?_
        refine c_ret ?_
        try dsimp only [Exit.then, Exit.inBlock]
        refine e_ret1 (v := .bool true) Try.results11 rfl ?_
        refine ⟨_, rfl, ?_⟩
        exact ⟨rfl, (Hb.call H).sub (List.nil_sublist _)⟩
end Go.Proofs.Ytjmbbhnpfmblpaa
