import Derived.Test.YtjmbbhnpfmblpaaMacB
/- layer 3: bytes are told alike just if they are. -/
namespace Go.Proofs.Ytjmbbhnpfmblpaa
open Go
set_option maxRecDepth 100000
theorem xor_zero_iff (a x : UInt8) : a ^^^ x = a ↔ (x.toNat : Int) = 0 := by
  constructor
  · intro h
    have h1 := congrArg (fun z => a ^^^ z) h
    simp only [← UInt8.xor_assoc, UInt8.xor_self, UInt8.zero_xor] at h1
    rw [h1]; rfl
  · intro h
    have : x = 0 := by apply UInt8.toNat_inj.1; rw [show (0 : UInt8).toNat = 0 from rfl]; omega
    rw [this]; simp
theorem set_eq_iff (l : List UInt8) (m : Nat) (c : UInt8) (hm : m < l.length) : l = l.set m c ↔ c = l.getD m 0 := by
  rw [List.getD_eq_getElem?_getD, List.getElem?_eq_getElem hm, Option.getD_some]
  constructor
  · intro e
    have := congrArg (·[m]?) e
    simp only [List.getElem?_set_self hm, List.getElem?_eq_getElem hm, Option.some.injEq] at this
    exact this.symm
  · intro e; rw [e]; simp
theorem set_zero (l : List UInt8) (m : Nat) (x : UInt8) (hm : m < l.length) (h : (x.toNat : Int) = 0) : l = l.set m (l.getD m 0 ^^^ x) :=
  (set_eq_iff l m _ hm).2 ((xor_zero_iff _ x).2 h)
theorem set_ne (l : List UInt8) (m : Nat) (x : UInt8) (hm : m < l.length) (h : ¬ (x.toNat : Int) = 0) : ¬ l = l.set m (l.getD m 0 ^^^ x) :=
  fun e => h ((xor_zero_iff _ x).1 ((set_eq_iff l m _ hm).1 e))
theorem macEqual_ret (w0 : World) (s u : Sl) (n : Int) (x : UInt8) (hs : s.ok w0) (hu : u.ok w0) :
    Ret Try.prog 9 [s.v, u.v, VI n, V8 x] w0 fun v w' => v = .bool true ∧ Hp w0 w' [] [] := by
  refine ret_mk Try.func9 rfl Try.ntmps9 (by simp) ?_
  have H := Hp.refl w0 []
  have hsl := hs.ln
  have hul := hu.ln
  repeat refine c_seq ?_
  refine c_region ?_
  refine l_op (o_val (r_as) ?_)
  first | refine l_end ?_ | refine l_nil ?_
  repeat refine c_seq ?_
  refine c_region ?_
  refine l_op (o_callR Try.func47 rfl rfl rfl (begun3_ret _) ?_)
  rintro _ w ⟨rfl, Hc⟩
  replace H : Hp w0 w [] ([]) := H.call Hc
  clear Hc
  refine l_op (o_val (r_not rfl) ?_)
  first | refine l_end ?_ | refine l_nil ?_
  repeat refine c_seq ?_
  refine c_no rfl ?_
  refine c_skip ?_
  repeat refine c_seq ?_
  refine c_region ?_
  refine l_op (o_val (r_mv) ?_)
  refine l_op (o_val (r_lens el29 rfl) ?_)
  refine l_op (o_val (r_bin rfl rfl (fun _ => b_gtr)) ?_)
  refine l_op (o_val (r_mv) ?_)
  by_cases hc1 : 4096 < (s.len : Int)
  · skip
    refine l_no rfl rfl (by exact congrArg Value.bool (decide_eq_true hc1)) rfl ?_
    refine l_no rfl rfl (by exact congrArg Value.bool (decide_eq_true hc1)) rfl ?_
    refine l_no rfl rfl (by exact congrArg Value.bool (decide_eq_true hc1)) rfl ?_
    refine l_op (o_val (r_pick (b := true) (congrArg Value.bool (decide_eq_true hc1))) ?_)
    first | refine l_end ?_ | refine l_nil ?_
    repeat refine c_seq ?_
    refine c_yes rfl ?_
    repeat refine c_seq ?_
    refine c_region ?_
    refine l_op (o_val (r_as) ?_)
    first | refine l_end ?_ | refine l_nil ?_
    refine c_ret ?_
    try dsimp only [Exit.then, Exit.inBlock]
    refine e_ret1 (v := .bool true) Try.results9 rfl ?_
    refine ⟨_, rfl, ?_⟩
    exact ⟨rfl, H.sub (List.nil_sublist _)⟩
  · skip
    refine l_yes rfl rfl (by exact congrArg Value.bool (decide_eq_false hc1)) (o_val (r_mv) ?_)
    refine l_yes rfl rfl (by exact congrArg Value.bool (decide_eq_false hc1)) (o_val (r_lens el29 rfl) ?_)
    refine l_yes rfl rfl (by exact congrArg Value.bool (decide_eq_false hc1)) (o_val (r_bin rfl rfl (fun _ => b_gtr)) ?_)
    refine l_op (o_val (r_pick (b := false) (congrArg Value.bool (decide_eq_false hc1))) ?_)
    first | refine l_end ?_ | refine l_nil ?_
    by_cases hc2 : 4096 < (u.len : Int)
    · skip
      repeat refine c_seq ?_
      refine c_yes (by exact congrArg Value.bool (decide_eq_true hc2)) ?_
      repeat refine c_seq ?_
      refine c_region ?_
      refine l_op (o_val (r_as) ?_)
      first | refine l_end ?_ | refine l_nil ?_
      refine c_ret ?_
      try dsimp only [Exit.then, Exit.inBlock]
      refine e_ret1 (v := .bool true) Try.results9 rfl ?_
      refine ⟨_, rfl, ?_⟩
      exact ⟨rfl, H.sub (List.nil_sublist _)⟩
    · skip
      repeat refine c_seq ?_
      refine c_no (by exact congrArg Value.bool (decide_eq_false hc2)) ?_
      refine c_skip ?_
      repeat refine c_seq ?_
      refine c_region ?_
      refine l_op (o_bslB (([] : List UInt8)) H sl29 zc5 rfl rfl (by decide) (fun b3 w H hb3 => ?_))
      replace H : Hp w0 w [] ([.own (some b3) 0 0 ((([] : List UInt8)).map V8) 5 1]) := H
      refine l_op (o_val (r_mv) ?_)
      refine l_op (o_appB (s := s) (l' := s.l) (len' := s.len) rfl (Nat.zero_add _) H (i := 0) rfl sl29 Try.underlying29 rfl rfl (hs.up H (fun _ => apart_nil _)) (by omega) (fun a4 c5 w H => ?_))
      replace H : Hp w0 w [] ([.own a4 s.len c5 ((s.l).map V8) 5 1]) := H
      refine l_op (o_val (r_as) ?_)
      first | refine l_end ?_ | refine l_nil ?_
      repeat refine c_seq ?_
      refine c_region ?_
      refine l_op (o_val (r_mv) ?_)
      refine l_op (o_val (r_lens el29 rfl) ?_)
      refine l_op (o_val (r_bin rfl rfl (fun _ => b_gtr)) ?_)
      first | refine l_end ?_ | refine l_nil ?_
      by_cases hc6 : 0 < (s.len : Int)
      · skip
        repeat refine c_seq ?_
        refine c_yes (by exact congrArg Value.bool (decide_eq_true hc6)) ?_
        repeat refine c_seq ?_
        refine c_region ?_
        refine l_op (o_val (r_mv) ?_)
        refine l_op (o_val (r_mv) ?_)
        refine l_op (o_val (r_mv) ?_)
        refine l_op (o_val (r_lens el29 rfl) ?_)
        refine l_op (o_callR Try.func44 rfl rfl rfl (place_ret _ n (s.len : Int) (by omega) (by omega)) ?_)
        rintro _ w' ⟨m7, rfl, hm8, hw9⟩
        rw [hw9]; clear hw9 w'
        obtain ⟨ab10, ah11⟩ := H.ownAddr (i := 0) rfl (by omega)
        refine l_op (o_val (r_isN m7 rfl rfl el29 ah11 (by omega) (by (try dsimp only); omega)) ?_)
        refine l_op (o_val (r_ldB (s := ⟨hd a4, s.len, c5, s.l⟩) (k := m7) (H.slOwn (i := 0) rfl) ah11 rfl ct5 (by (try dsimp only); omega)) ?_)
        refine l_op (o_val (r_mv) ?_)
        refine l_op (o_val (r_bin rfl rfl (fun _ => b_xor_u8)) ?_)
        refine l_op (o_val (r_isN m7 rfl rfl el29 ah11 (by omega) (by (try dsimp only); omega)) ?_)
        refine l_op (o_stB (u := ((s.l).getD m7 0) ^^^ x) (k := m7) H (i := 0) rfl rfl ah11 rfl cs5 (by omega) (fun w H => ?_))
        replace H : Hp w0 w [] ([.own a4 s.len c5 (((s.l).set m7 (((s.l).getD m7 0) ^^^ x)).map V8) 5 1]) := H
        first | refine l_end ?_ | refine l_nil ?_
        repeat refine c_seq ?_
        refine wp_held (fun w => Hp w0 w [] []) mixed ?_
        replace H := H.drew
        have HS := H.sub (List.nil_sublist _)
        refine t_take 0 rfl (by kernel_rfl) (by kernel_rfl) (by kernel_rfl) (fun _ _ _ h => h) (fun w HS => r_mv) HS ?_
        refine t_take 1 rfl (by kernel_rfl) (by kernel_rfl) (by kernel_rfl) (fun _ _ _ h => h) (fun w HS => r_mv) HS ?_
        refine t_take 3 rfl (by kernel_rfl) (by kernel_rfl) (by kernel_rfl) (fun _ _ _ h => h) (fun w HS => r_mv) HS ?_
        refine t_take 4 rfl (by kernel_rfl) (by kernel_rfl) (by kernel_rfl) (fun _ _ _ h => h) (fun w HS => r_b2S (s := s) Try.underlying29 Try.underlying5 Try.underlying9 rfl (hs.up HS (fun _ => apart_nil _))) HS ?_
        refine t_take 5 rfl (by kernel_rfl) (by kernel_rfl) (by kernel_rfl) (fun _ _ _ h => h) (fun w HS => r_mv) HS ?_
        refine t_take 6 rfl (by kernel_rfl) (by kernel_rfl) (by kernel_rfl) (fun _ _ _ h => h) (fun w HS => r_b2S (s := u) Try.underlying29 Try.underlying5 Try.underlying9 rfl (hu.up HS (fun _ => apart_nil _))) HS ?_
        refine t_take 7 rfl (by kernel_rfl) (by kernel_rfl) (by kernel_rfl) (fun _ _ _ h => h) (fun w HS => r_streq (a := s.l) (b := u.l) rfl rfl) HS ?_
        refine t_step 2 rfl (by kernel_rfl) (o_callR Try.func48 rfl rfl rfl (equal_ret _ s u (hs.up H (fun _ => apart_nil _)) (hu.up H (fun _ => apart_nil _))) ?_)
        rintro _ w ⟨rfl, Hc⟩
        replace H : Hp w0 w [] ([.own a4 s.len c5 (((s.l).set m7 (((s.l).getD m7 0) ^^^ x)).map V8) 5 1]) := H.call Hc
        clear Hc
        refine ⟨H.sub (List.nil_sublist _), ?_⟩
        replace HS := H.sub (List.nil_sublist _)
        refine t_take 8 rfl (by kernel_rfl) (by kernel_rfl) (by kernel_rfl) (fun _ _ _ h => h) (fun w HS => r_beq Try.underlying4 rfl rfl) HS ?_
        have hk12 : ((decide (s.l = u.l)) == (decide (s.l = u.l))) = true := beq_self_eq_true _
        refine t_take 9 rfl (by kernel_rfl) (by kernel_rfl) (by kernel_rfl) (fun _ _ _ h => h) (fun w HS => r_mv) HS ?_
        refine t_takeg 10 rfl (by kernel_rfl) (by kernel_rfl) (by kernel_rfl) (fun _ _ _ h => h) (yielded_mk _ _ _ rfl _ rfl (by exact congrArg Value.bool hk12)) (fun w HS => r_mv) HS ?_
        refine t_takeg 11 rfl (by kernel_rfl) (by kernel_rfl) (by kernel_rfl) (fun _ _ _ h => h) (yielded_mk _ _ _ rfl _ rfl (by exact congrArg Value.bool hk12)) (fun w HS => r_mv) HS ?_
        refine t_stepg 12 rfl (by kernel_rfl) (yielded_mk _ _ _ rfl _ rfl (by exact congrArg Value.bool hk12)) (o_callR Try.func48 rfl rfl rfl (equal_ret _ s s (hs.up H (fun _ => apart_nil _)) (hs.up H (fun _ => apart_nil _))) ?_)
        rintro _ w ⟨rfl, Hc⟩
        replace H : Hp w0 w [] ([.own a4 s.len c5 (((s.l).set m7 (((s.l).getD m7 0) ^^^ x)).map V8) 5 1]) := H.call Hc
        clear Hc
        have hk13 : (decide (s.l = s.l)) = true := decide_eq_true rfl
        refine ⟨H.sub (List.nil_sublist _), ?_⟩
        replace HS := H.sub (List.nil_sublist _)
        refine t_take 13 rfl (by kernel_rfl) (by kernel_rfl) (by kernel_rfl) (fun _ _ _ h => h) (fun w HS => r_pick (b := true) (congrArg Value.bool hk12)) HS ?_
        refine t_take 14 rfl (by kernel_rfl) (by kernel_rfl) (by kernel_rfl) (fun _ _ _ h => h) (fun w HS => r_mv) HS ?_
        refine t_takeg 15 rfl (by kernel_rfl) (by kernel_rfl) (by kernel_rfl) (fun _ _ _ h => h) (yielded_mk _ _ _ rfl _ rfl (by exact congrArg Value.bool hk13)) (fun w HS => r_mv) HS ?_
        refine t_takeg 16 rfl (by kernel_rfl) (by kernel_rfl) (by kernel_rfl) (fun _ _ _ h => h) (yielded_mk _ _ _ rfl _ rfl (by exact congrArg Value.bool hk13)) (fun w HS => r_mv) HS ?_
        refine t_takeg 18 rfl (by kernel_rfl) (by kernel_rfl) (by kernel_rfl) (fun _ _ _ h => h) (yielded_mk _ _ _ rfl _ rfl (by exact congrArg Value.bool hk13)) (fun w HS => r_mv) HS ?_
        refine t_takeg 19 rfl (by kernel_rfl) (by kernel_rfl) (by kernel_rfl) (fun _ _ _ h => h) (yielded_mk _ _ _ rfl _ rfl (by exact congrArg Value.bool hk13)) (fun w HS => r_bin (a := (x.toNat : Int)) (b := 0) rfl rfl (fun _ => b_eql)) HS ?_
        refine t_stepg 17 rfl (by kernel_rfl) (yielded_mk _ _ _ rfl _ rfl (by exact congrArg Value.bool hk13)) (o_callR Try.func48 rfl rfl rfl (equal_ret _ s ⟨hd a4, s.len, c5, (s.l).set m7 (((s.l).getD m7 0) ^^^ x)⟩ (hs.up H (fun _ => apart_nil _)) (H.slOwn (i := 0) rfl)) ?_)
        rintro _ w ⟨rfl, Hc⟩
        replace H : Hp w0 w [] ([.own a4 s.len c5 (((s.l).set m7 (((s.l).getD m7 0) ^^^ x)).map V8) 5 1]) := H.call Hc
        clear Hc
        refine ⟨H.sub (List.nil_sublist _), ?_⟩
        replace HS := H.sub (List.nil_sublist _)
        refine t_takeg 20 rfl (by kernel_rfl) (by kernel_rfl) (by kernel_rfl) (fun _ _ _ h => h) (yielded_mk _ _ _ rfl _ rfl (by exact congrArg Value.bool hk13)) (fun w HS => r_mv) HS ?_
        by_cases hc14 : (x.toNat : Int) = 0
        · skip
          refine t_no 21 rfl (by kernel_rfl) (by kernel_rfl) (by kernel_rfl) (fun _ _ _ h => h) (yielded_mk _ _ _ rfl _ rfl (by exact congrArg Value.bool (decide_eq_true hc14))) rfl HS ?_
          refine t_no 22 rfl (by kernel_rfl) (by kernel_rfl) (by kernel_rfl) (fun _ _ _ h => h) (yielded_mk _ _ _ rfl _ rfl (by exact congrArg Value.bool (decide_eq_true hc14))) rfl HS ?_
          refine t_no 23 rfl (by kernel_rfl) (by kernel_rfl) (by kernel_rfl) (fun _ _ _ h => h) (yielded_mk _ _ _ rfl _ rfl (by exact congrArg Value.bool (decide_eq_true hc14))) rfl HS ?_
          refine t_takeg 24 rfl (by kernel_rfl) (by kernel_rfl) (by kernel_rfl) (fun _ _ _ h => h) (yielded_mk _ _ _ rfl _ rfl (by exact congrArg Value.bool hk13)) (fun w HS => r_pick (b := true) (congrArg Value.bool (decide_eq_true hc14))) HS ?_
          refine t_takeg 25 rfl (by kernel_rfl) (by kernel_rfl) (by kernel_rfl) (fun _ _ _ h => h) (yielded_mk _ _ _ rfl _ rfl (by exact congrArg Value.bool hk13)) (fun w HS => r_beq Try.underlying4 rfl rfl) HS ?_
          have hk15 : ((decide (s.l = (s.l).set m7 (((s.l).getD m7 0) ^^^ x))) == true) = true := beq_iff_eq.2 (decide_eq_true (set_zero s.l m7 x (by omega) hc14))
          refine t_take 26 rfl (by kernel_rfl) (by kernel_rfl) (by kernel_rfl) (fun _ _ _ h => h) (fun w HS => r_pick (b := true) (congrArg Value.bool hk13)) HS ?_
          refine t_take 27 rfl (by kernel_rfl) (by kernel_rfl) (by kernel_rfl) (fun _ _ _ h => h) (fun w HS => r_mv) HS ?_
          refine t_takeg 28 rfl (by kernel_rfl) (by kernel_rfl) (by kernel_rfl) (fun _ _ _ h => h) (yielded_mk _ _ _ rfl _ rfl (by exact congrArg Value.bool hk15)) (fun w HS => r_mv) HS ?_
          refine t_takeg 29 rfl (by kernel_rfl) (by kernel_rfl) (by kernel_rfl) (fun _ _ _ h => h) (yielded_mk _ _ _ rfl _ rfl (by exact congrArg Value.bool hk15)) (fun w HS => r_mv) HS ?_
          refine t_stepg 30 rfl (by kernel_rfl) (yielded_mk _ _ _ rfl _ rfl (by exact congrArg Value.bool hk15)) (o_bslB ([(0 : UInt8)]) H sl29 zc5 rfl rfl (by decide) (fun b16 w H hb16 => ?_))
          replace H : Hp w0 w [] ([.own a4 s.len c5 (((s.l).set m7 (((s.l).getD m7 0) ^^^ x)).map V8) 5 1, .own (some b16) 1 1 (([(0 : UInt8)]).map V8) 5 1]) := H
          refine ⟨H.sub (List.nil_sublist _), ?_⟩
          replace HS := H.sub (List.nil_sublist _)
          refine t_stepg 31 rfl (by kernel_rfl) (yielded_mk _ _ _ rfl _ rfl (by exact congrArg Value.bool hk15)) (o_appB (s := ⟨hd (some b16), 1, 1, [(0 : UInt8)]⟩) (l' := (s.l).set m7 (((s.l).getD m7 0) ^^^ x) ++ ([(0 : UInt8)])) (len' := s.len + 1) rfl rfl H (i := 0) rfl sl29 Try.underlying29 rfl rfl (H.slOwn (i := 1) rfl) (by omega) (fun a17 c18 w H => ?_))
          replace H : Hp w0 w [] ([.own a17 (s.len + 1) c18 (((s.l).set m7 (((s.l).getD m7 0) ^^^ x) ++ ([(0 : UInt8)])).map V8) 5 1, .own (some b16) 1 1 (([(0 : UInt8)]).map V8) 5 1]) := H
          refine ⟨H.sub (List.nil_sublist _), ?_⟩
          replace HS := H.sub (List.nil_sublist _)
          refine t_stepg 32 rfl (by kernel_rfl) (yielded_mk _ _ _ rfl _ rfl (by exact congrArg Value.bool hk15)) (o_callR Try.func48 rfl rfl rfl (equal_ret _ s ⟨hd a17, s.len + 1, c18, (s.l).set m7 (((s.l).getD m7 0) ^^^ x) ++ ([(0 : UInt8)])⟩ (hs.up H (fun _ => apart_nil _)) (H.slOwn (i := 0) rfl)) ?_)
          rintro _ w ⟨rfl, Hc⟩
          replace H : Hp w0 w [] ([.own a17 (s.len + 1) c18 (((s.l).set m7 (((s.l).getD m7 0) ^^^ x) ++ ([(0 : UInt8)])).map V8) 5 1, .own (some b16) 1 1 (([(0 : UInt8)]).map V8) 5 1]) := H.call Hc
          clear Hc
          have hk19 : (decide (s.l = (s.l).set m7 (((s.l).getD m7 0) ^^^ x) ++ ([(0 : UInt8)]))) = false := decide_eq_false (fun e => by have := congrArg List.length e; simp at this)
          refine ⟨H.sub (List.nil_sublist _), ?_⟩
          replace HS := H.sub (List.nil_sublist _)
          refine t_takeg 33 rfl (by kernel_rfl) (by kernel_rfl) (by kernel_rfl) (fun _ _ _ h => h) (yielded_mk _ _ _ rfl _ rfl (by exact congrArg Value.bool hk15)) (fun w HS => r_not rfl) HS ?_
          refine t_take 34 rfl (by kernel_rfl) (by kernel_rfl) (by kernel_rfl) (fun _ _ _ h => h) (fun w HS => r_pick (b := true) (congrArg Value.bool hk15)) HS ?_
          refine t_take 35 rfl (by kernel_rfl) (by kernel_rfl) (by kernel_rfl) (fun _ _ _ h => h) (fun w HS => r_as) HS ?_
          refine t_done (by kernel_rfl) ?_
          clear HS
          refine c_ret ?_
          try dsimp only [Exit.then, Exit.inBlock]
          refine e_ret1 (v := .bool (!(decide (s.l = (s.l).set m7 (((s.l).getD m7 0) ^^^ x) ++ ([(0 : UInt8)]))))) Try.results9 rfl ?_
          refine ⟨_, rfl, ?_⟩
          exact ⟨congrArg Value.bool (congrArg not hk19), H.sub (List.nil_sublist _)⟩
        · skip
          refine t_takeg 21 rfl (by kernel_rfl) (by kernel_rfl) (by kernel_rfl) (fun _ _ _ h => h) (yielded_mk _ _ _ rfl _ rfl (by exact congrArg Value.bool (decide_eq_false hc14))) (fun w HS => r_mv) HS ?_
          refine t_takeg 22 rfl (by kernel_rfl) (by kernel_rfl) (by kernel_rfl) (fun _ _ _ h => h) (yielded_mk _ _ _ rfl _ rfl (by exact congrArg Value.bool (decide_eq_false hc14))) (fun w HS => r_lens el29 rfl) HS ?_
          refine t_takeg 23 rfl (by kernel_rfl) (by kernel_rfl) (by kernel_rfl) (fun _ _ _ h => h) (yielded_mk _ _ _ rfl _ rfl (by exact congrArg Value.bool (decide_eq_false hc14))) (fun w HS => r_bin rfl rfl (fun _ => b_eql)) HS ?_
          refine t_takeg 24 rfl (by kernel_rfl) (by kernel_rfl) (by kernel_rfl) (fun _ _ _ h => h) (yielded_mk _ _ _ rfl _ rfl (by exact congrArg Value.bool hk13)) (fun w HS => r_pick (b := false) (congrArg Value.bool (decide_eq_false hc14))) HS ?_
          refine t_takeg 25 rfl (by kernel_rfl) (by kernel_rfl) (by kernel_rfl) (fun _ _ _ h => h) (yielded_mk _ _ _ rfl _ rfl (by exact congrArg Value.bool hk13)) (fun w HS => r_beq Try.underlying4 rfl rfl) HS ?_
          have hk20 : ((decide (s.l = (s.l).set m7 (((s.l).getD m7 0) ^^^ x))) == (decide ((s.len : Int) = 0))) = true := beq_iff_eq.2 (by rw [decide_eq_false (set_ne s.l m7 x (by omega) hc14), decide_eq_false (by omega)])
          refine t_take 26 rfl (by kernel_rfl) (by kernel_rfl) (by kernel_rfl) (fun _ _ _ h => h) (fun w HS => r_pick (b := true) (congrArg Value.bool hk13)) HS ?_
          refine t_take 27 rfl (by kernel_rfl) (by kernel_rfl) (by kernel_rfl) (fun _ _ _ h => h) (fun w HS => r_mv) HS ?_
          refine t_takeg 28 rfl (by kernel_rfl) (by kernel_rfl) (by kernel_rfl) (fun _ _ _ h => h) (yielded_mk _ _ _ rfl _ rfl (by exact congrArg Value.bool hk20)) (fun w HS => r_mv) HS ?_
          refine t_takeg 29 rfl (by kernel_rfl) (by kernel_rfl) (by kernel_rfl) (fun _ _ _ h => h) (yielded_mk _ _ _ rfl _ rfl (by exact congrArg Value.bool hk20)) (fun w HS => r_mv) HS ?_
          refine t_stepg 30 rfl (by kernel_rfl) (yielded_mk _ _ _ rfl _ rfl (by exact congrArg Value.bool hk20)) (o_bslB ([(0 : UInt8)]) H sl29 zc5 rfl rfl (by decide) (fun b21 w H hb21 => ?_))
          replace H : Hp w0 w [] ([.own a4 s.len c5 (((s.l).set m7 (((s.l).getD m7 0) ^^^ x)).map V8) 5 1, .own (some b21) 1 1 (([(0 : UInt8)]).map V8) 5 1]) := H
          refine ⟨H.sub (List.nil_sublist _), ?_⟩
          replace HS := H.sub (List.nil_sublist _)
          refine t_stepg 31 rfl (by kernel_rfl) (yielded_mk _ _ _ rfl _ rfl (by exact congrArg Value.bool hk20)) (o_appB (s := ⟨hd (some b21), 1, 1, [(0 : UInt8)]⟩) (l' := (s.l).set m7 (((s.l).getD m7 0) ^^^ x) ++ ([(0 : UInt8)])) (len' := s.len + 1) rfl rfl H (i := 0) rfl sl29 Try.underlying29 rfl rfl (H.slOwn (i := 1) rfl) (by omega) (fun a22 c23 w H => ?_))
          replace H : Hp w0 w [] ([.own a22 (s.len + 1) c23 (((s.l).set m7 (((s.l).getD m7 0) ^^^ x) ++ ([(0 : UInt8)])).map V8) 5 1, .own (some b21) 1 1 (([(0 : UInt8)]).map V8) 5 1]) := H
          refine ⟨H.sub (List.nil_sublist _), ?_⟩
          replace HS := H.sub (List.nil_sublist _)
          refine t_stepg 32 rfl (by kernel_rfl) (yielded_mk _ _ _ rfl _ rfl (by exact congrArg Value.bool hk20)) (o_callR Try.func48 rfl rfl rfl (equal_ret _ s ⟨hd a22, s.len + 1, c23, (s.l).set m7 (((s.l).getD m7 0) ^^^ x) ++ ([(0 : UInt8)])⟩ (hs.up H (fun _ => apart_nil _)) (H.slOwn (i := 0) rfl)) ?_)
          rintro _ w ⟨rfl, Hc⟩
          replace H : Hp w0 w [] ([.own a22 (s.len + 1) c23 (((s.l).set m7 (((s.l).getD m7 0) ^^^ x) ++ ([(0 : UInt8)])).map V8) 5 1, .own (some b21) 1 1 (([(0 : UInt8)]).map V8) 5 1]) := H.call Hc
          clear Hc
          have hk24 : (decide (s.l = (s.l).set m7 (((s.l).getD m7 0) ^^^ x) ++ ([(0 : UInt8)]))) = false := decide_eq_false (fun e => by have := congrArg List.length e; simp at this)
          refine ⟨H.sub (List.nil_sublist _), ?_⟩
          replace HS := H.sub (List.nil_sublist _)
          refine t_takeg 33 rfl (by kernel_rfl) (by kernel_rfl) (by kernel_rfl) (fun _ _ _ h => h) (yielded_mk _ _ _ rfl _ rfl (by exact congrArg Value.bool hk20)) (fun w HS => r_not rfl) HS ?_
          refine t_take 34 rfl (by kernel_rfl) (by kernel_rfl) (by kernel_rfl) (fun _ _ _ h => h) (fun w HS => r_pick (b := true) (congrArg Value.bool hk20)) HS ?_
          refine t_take 35 rfl (by kernel_rfl) (by kernel_rfl) (by kernel_rfl) (fun _ _ _ h => h) (fun w HS => r_as) HS ?_
          refine t_done (by kernel_rfl) ?_
          clear HS
          refine c_ret ?_
          try dsimp only [Exit.then, Exit.inBlock]
          refine e_ret1 (v := .bool (!(decide (s.l = (s.l).set m7 (((s.l).getD m7 0) ^^^ x) ++ ([(0 : UInt8)]))))) Try.results9 rfl ?_
          refine ⟨_, rfl, ?_⟩
          exact ⟨congrArg Value.bool (congrArg not hk24), H.sub (List.nil_sublist _)⟩
      · skip
        repeat refine c_seq ?_
        refine c_no (by exact congrArg Value.bool (decide_eq_false hc6)) ?_
        refine c_skip ?_
        repeat refine c_seq ?_
        refine wp_held (fun w => Hp w0 w [] []) mixed ?_
        replace H := H.drew
        have HS := H.sub (List.nil_sublist _)
        refine t_take 0 rfl (by kernel_rfl) (by kernel_rfl) (by kernel_rfl) (fun _ _ _ h => h) (fun w HS => r_mv) HS ?_
        refine t_take 1 rfl (by kernel_rfl) (by kernel_rfl) (by kernel_rfl) (fun _ _ _ h => h) (fun w HS => r_mv) HS ?_
        refine t_take 3 rfl (by kernel_rfl) (by kernel_rfl) (by kernel_rfl) (fun _ _ _ h => h) (fun w HS => r_mv) HS ?_
        refine t_take 4 rfl (by kernel_rfl) (by kernel_rfl) (by kernel_rfl) (fun _ _ _ h => h) (fun w HS => r_b2S (s := s) Try.underlying29 Try.underlying5 Try.underlying9 rfl (hs.up HS (fun _ => apart_nil _))) HS ?_
        refine t_take 5 rfl (by kernel_rfl) (by kernel_rfl) (by kernel_rfl) (fun _ _ _ h => h) (fun w HS => r_mv) HS ?_
        refine t_take 6 rfl (by kernel_rfl) (by kernel_rfl) (by kernel_rfl) (fun _ _ _ h => h) (fun w HS => r_b2S (s := u) Try.underlying29 Try.underlying5 Try.underlying9 rfl (hu.up HS (fun _ => apart_nil _))) HS ?_
        refine t_take 7 rfl (by kernel_rfl) (by kernel_rfl) (by kernel_rfl) (fun _ _ _ h => h) (fun w HS => r_streq (a := s.l) (b := u.l) rfl rfl) HS ?_
        refine t_step 2 rfl (by kernel_rfl) (o_callR Try.func48 rfl rfl rfl (equal_ret _ s u (hs.up H (fun _ => apart_nil _)) (hu.up H (fun _ => apart_nil _))) ?_)
        rintro _ w ⟨rfl, Hc⟩
        replace H : Hp w0 w [] ([.own a4 s.len c5 ((s.l).map V8) 5 1]) := H.call Hc
        clear Hc
        refine ⟨H.sub (List.nil_sublist _), ?_⟩
        replace HS := H.sub (List.nil_sublist _)
        refine t_take 8 rfl (by kernel_rfl) (by kernel_rfl) (by kernel_rfl) (fun _ _ _ h => h) (fun w HS => r_beq Try.underlying4 rfl rfl) HS ?_
        have hk25 : ((decide (s.l = u.l)) == (decide (s.l = u.l))) = true := beq_self_eq_true _
        refine t_take 9 rfl (by kernel_rfl) (by kernel_rfl) (by kernel_rfl) (fun _ _ _ h => h) (fun w HS => r_mv) HS ?_
        refine t_takeg 10 rfl (by kernel_rfl) (by kernel_rfl) (by kernel_rfl) (fun _ _ _ h => h) (yielded_mk _ _ _ rfl _ rfl (by exact congrArg Value.bool hk25)) (fun w HS => r_mv) HS ?_
        refine t_takeg 11 rfl (by kernel_rfl) (by kernel_rfl) (by kernel_rfl) (fun _ _ _ h => h) (yielded_mk _ _ _ rfl _ rfl (by exact congrArg Value.bool hk25)) (fun w HS => r_mv) HS ?_
        refine t_stepg 12 rfl (by kernel_rfl) (yielded_mk _ _ _ rfl _ rfl (by exact congrArg Value.bool hk25)) (o_callR Try.func48 rfl rfl rfl (equal_ret _ s s (hs.up H (fun _ => apart_nil _)) (hs.up H (fun _ => apart_nil _))) ?_)
        rintro _ w ⟨rfl, Hc⟩
        replace H : Hp w0 w [] ([.own a4 s.len c5 ((s.l).map V8) 5 1]) := H.call Hc
        clear Hc
        have hk26 : (decide (s.l = s.l)) = true := decide_eq_true rfl
        refine ⟨H.sub (List.nil_sublist _), ?_⟩
        replace HS := H.sub (List.nil_sublist _)
        refine t_take 13 rfl (by kernel_rfl) (by kernel_rfl) (by kernel_rfl) (fun _ _ _ h => h) (fun w HS => r_pick (b := true) (congrArg Value.bool hk25)) HS ?_
        refine t_take 14 rfl (by kernel_rfl) (by kernel_rfl) (by kernel_rfl) (fun _ _ _ h => h) (fun w HS => r_mv) HS ?_
        refine t_takeg 15 rfl (by kernel_rfl) (by kernel_rfl) (by kernel_rfl) (fun _ _ _ h => h) (yielded_mk _ _ _ rfl _ rfl (by exact congrArg Value.bool hk26)) (fun w HS => r_mv) HS ?_
        refine t_takeg 16 rfl (by kernel_rfl) (by kernel_rfl) (by kernel_rfl) (fun _ _ _ h => h) (yielded_mk _ _ _ rfl _ rfl (by exact congrArg Value.bool hk26)) (fun w HS => r_mv) HS ?_
        refine t_takeg 18 rfl (by kernel_rfl) (by kernel_rfl) (by kernel_rfl) (fun _ _ _ h => h) (yielded_mk _ _ _ rfl _ rfl (by exact congrArg Value.bool hk26)) (fun w HS => r_mv) HS ?_
        refine t_takeg 19 rfl (by kernel_rfl) (by kernel_rfl) (by kernel_rfl) (fun _ _ _ h => h) (yielded_mk _ _ _ rfl _ rfl (by exact congrArg Value.bool hk26)) (fun w HS => r_bin (a := (x.toNat : Int)) (b := 0) rfl rfl (fun _ => b_eql)) HS ?_
        refine t_stepg 17 rfl (by kernel_rfl) (yielded_mk _ _ _ rfl _ rfl (by exact congrArg Value.bool hk26)) (o_callR Try.func48 rfl rfl rfl (equal_ret _ s ⟨hd a4, s.len, c5, s.l⟩ (hs.up H (fun _ => apart_nil _)) (H.slOwn (i := 0) rfl)) ?_)
        rintro _ w ⟨rfl, Hc⟩
        replace H : Hp w0 w [] ([.own a4 s.len c5 ((s.l).map V8) 5 1]) := H.call Hc
        clear Hc
        refine ⟨H.sub (List.nil_sublist _), ?_⟩
        replace HS := H.sub (List.nil_sublist _)
        refine t_takeg 20 rfl (by kernel_rfl) (by kernel_rfl) (by kernel_rfl) (fun _ _ _ h => h) (yielded_mk _ _ _ rfl _ rfl (by exact congrArg Value.bool hk26)) (fun w HS => r_mv) HS ?_
        by_cases hc27 : (x.toNat : Int) = 0
        · skip
          refine t_no 21 rfl (by kernel_rfl) (by kernel_rfl) (by kernel_rfl) (fun _ _ _ h => h) (yielded_mk _ _ _ rfl _ rfl (by exact congrArg Value.bool (decide_eq_true hc27))) rfl HS ?_
          refine t_no 22 rfl (by kernel_rfl) (by kernel_rfl) (by kernel_rfl) (fun _ _ _ h => h) (yielded_mk _ _ _ rfl _ rfl (by exact congrArg Value.bool (decide_eq_true hc27))) rfl HS ?_
          refine t_no 23 rfl (by kernel_rfl) (by kernel_rfl) (by kernel_rfl) (fun _ _ _ h => h) (yielded_mk _ _ _ rfl _ rfl (by exact congrArg Value.bool (decide_eq_true hc27))) rfl HS ?_
          refine t_takeg 24 rfl (by kernel_rfl) (by kernel_rfl) (by kernel_rfl) (fun _ _ _ h => h) (yielded_mk _ _ _ rfl _ rfl (by exact congrArg Value.bool hk26)) (fun w HS => r_pick (b := true) (congrArg Value.bool (decide_eq_true hc27))) HS ?_
          refine t_takeg 25 rfl (by kernel_rfl) (by kernel_rfl) (by kernel_rfl) (fun _ _ _ h => h) (yielded_mk _ _ _ rfl _ rfl (by exact congrArg Value.bool hk26)) (fun w HS => r_beq Try.underlying4 rfl rfl) HS ?_
          have hk28 : ((decide (s.l = s.l)) == true) = true := beq_iff_eq.2 (decide_eq_true rfl)
          refine t_take 26 rfl (by kernel_rfl) (by kernel_rfl) (by kernel_rfl) (fun _ _ _ h => h) (fun w HS => r_pick (b := true) (congrArg Value.bool hk26)) HS ?_
          refine t_take 27 rfl (by kernel_rfl) (by kernel_rfl) (by kernel_rfl) (fun _ _ _ h => h) (fun w HS => r_mv) HS ?_
          refine t_takeg 28 rfl (by kernel_rfl) (by kernel_rfl) (by kernel_rfl) (fun _ _ _ h => h) (yielded_mk _ _ _ rfl _ rfl (by exact congrArg Value.bool hk28)) (fun w HS => r_mv) HS ?_
          refine t_takeg 29 rfl (by kernel_rfl) (by kernel_rfl) (by kernel_rfl) (fun _ _ _ h => h) (yielded_mk _ _ _ rfl _ rfl (by exact congrArg Value.bool hk28)) (fun w HS => r_mv) HS ?_
          refine t_stepg 30 rfl (by kernel_rfl) (yielded_mk _ _ _ rfl _ rfl (by exact congrArg Value.bool hk28)) (o_bslB ([(0 : UInt8)]) H sl29 zc5 rfl rfl (by decide) (fun b29 w H hb29 => ?_))
          replace H : Hp w0 w [] ([.own a4 s.len c5 ((s.l).map V8) 5 1, .own (some b29) 1 1 (([(0 : UInt8)]).map V8) 5 1]) := H
          refine ⟨H.sub (List.nil_sublist _), ?_⟩
          replace HS := H.sub (List.nil_sublist _)
          refine t_stepg 31 rfl (by kernel_rfl) (yielded_mk _ _ _ rfl _ rfl (by exact congrArg Value.bool hk28)) (o_appB (s := ⟨hd (some b29), 1, 1, [(0 : UInt8)]⟩) (l' := s.l ++ ([(0 : UInt8)])) (len' := s.len + 1) rfl rfl H (i := 0) rfl sl29 Try.underlying29 rfl rfl (H.slOwn (i := 1) rfl) (by omega) (fun a30 c31 w H => ?_))
          replace H : Hp w0 w [] ([.own a30 (s.len + 1) c31 ((s.l ++ ([(0 : UInt8)])).map V8) 5 1, .own (some b29) 1 1 (([(0 : UInt8)]).map V8) 5 1]) := H
          refine ⟨H.sub (List.nil_sublist _), ?_⟩
          replace HS := H.sub (List.nil_sublist _)
          refine t_stepg 32 rfl (by kernel_rfl) (yielded_mk _ _ _ rfl _ rfl (by exact congrArg Value.bool hk28)) (o_callR Try.func48 rfl rfl rfl (equal_ret _ s ⟨hd a30, s.len + 1, c31, s.l ++ ([(0 : UInt8)])⟩ (hs.up H (fun _ => apart_nil _)) (H.slOwn (i := 0) rfl)) ?_)
          rintro _ w ⟨rfl, Hc⟩
          replace H : Hp w0 w [] ([.own a30 (s.len + 1) c31 ((s.l ++ ([(0 : UInt8)])).map V8) 5 1, .own (some b29) 1 1 (([(0 : UInt8)]).map V8) 5 1]) := H.call Hc
          clear Hc
          have hk32 : (decide (s.l = s.l ++ ([(0 : UInt8)]))) = false := decide_eq_false (fun e => by have := congrArg List.length e; simp at this)
          refine ⟨H.sub (List.nil_sublist _), ?_⟩
          replace HS := H.sub (List.nil_sublist _)
          refine t_takeg 33 rfl (by kernel_rfl) (by kernel_rfl) (by kernel_rfl) (fun _ _ _ h => h) (yielded_mk _ _ _ rfl _ rfl (by exact congrArg Value.bool hk28)) (fun w HS => r_not rfl) HS ?_
          refine t_take 34 rfl (by kernel_rfl) (by kernel_rfl) (by kernel_rfl) (fun _ _ _ h => h) (fun w HS => r_pick (b := true) (congrArg Value.bool hk28)) HS ?_
          refine t_take 35 rfl (by kernel_rfl) (by kernel_rfl) (by kernel_rfl) (fun _ _ _ h => h) (fun w HS => r_as) HS ?_
          refine t_done (by kernel_rfl) ?_
          clear HS
          refine c_ret ?_
          try dsimp only [Exit.then, Exit.inBlock]
          refine e_ret1 (v := .bool (!(decide (s.l = s.l ++ ([(0 : UInt8)]))))) Try.results9 rfl ?_
          refine ⟨_, rfl, ?_⟩
          exact ⟨congrArg Value.bool (congrArg not hk32), H.sub (List.nil_sublist _)⟩
        · skip
          refine t_takeg 21 rfl (by kernel_rfl) (by kernel_rfl) (by kernel_rfl) (fun _ _ _ h => h) (yielded_mk _ _ _ rfl _ rfl (by exact congrArg Value.bool (decide_eq_false hc27))) (fun w HS => r_mv) HS ?_
          refine t_takeg 22 rfl (by kernel_rfl) (by kernel_rfl) (by kernel_rfl) (fun _ _ _ h => h) (yielded_mk _ _ _ rfl _ rfl (by exact congrArg Value.bool (decide_eq_false hc27))) (fun w HS => r_lens el29 rfl) HS ?_
          refine t_takeg 23 rfl (by kernel_rfl) (by kernel_rfl) (by kernel_rfl) (fun _ _ _ h => h) (yielded_mk _ _ _ rfl _ rfl (by exact congrArg Value.bool (decide_eq_false hc27))) (fun w HS => r_bin rfl rfl (fun _ => b_eql)) HS ?_
          refine t_takeg 24 rfl (by kernel_rfl) (by kernel_rfl) (by kernel_rfl) (fun _ _ _ h => h) (yielded_mk _ _ _ rfl _ rfl (by exact congrArg Value.bool hk26)) (fun w HS => r_pick (b := false) (congrArg Value.bool (decide_eq_false hc27))) HS ?_
          refine t_takeg 25 rfl (by kernel_rfl) (by kernel_rfl) (by kernel_rfl) (fun _ _ _ h => h) (yielded_mk _ _ _ rfl _ rfl (by exact congrArg Value.bool hk26)) (fun w HS => r_beq Try.underlying4 rfl rfl) HS ?_
          have hk33 : ((decide (s.l = s.l)) == (decide ((s.len : Int) = 0))) = true := beq_iff_eq.2 (by rw [decide_eq_true rfl, decide_eq_true (by omega)])
          refine t_take 26 rfl (by kernel_rfl) (by kernel_rfl) (by kernel_rfl) (fun _ _ _ h => h) (fun w HS => r_pick (b := true) (congrArg Value.bool hk26)) HS ?_
          refine t_take 27 rfl (by kernel_rfl) (by kernel_rfl) (by kernel_rfl) (fun _ _ _ h => h) (fun w HS => r_mv) HS ?_
          refine t_takeg 28 rfl (by kernel_rfl) (by kernel_rfl) (by kernel_rfl) (fun _ _ _ h => h) (yielded_mk _ _ _ rfl _ rfl (by exact congrArg Value.bool hk33)) (fun w HS => r_mv) HS ?_
          refine t_takeg 29 rfl (by kernel_rfl) (by kernel_rfl) (by kernel_rfl) (fun _ _ _ h => h) (yielded_mk _ _ _ rfl _ rfl (by exact congrArg Value.bool hk33)) (fun w HS => r_mv) HS ?_
          refine t_stepg 30 rfl (by kernel_rfl) (yielded_mk _ _ _ rfl _ rfl (by exact congrArg Value.bool hk33)) (o_bslB ([(0 : UInt8)]) H sl29 zc5 rfl rfl (by decide) (fun b34 w H hb34 => ?_))
          replace H : Hp w0 w [] ([.own a4 s.len c5 ((s.l).map V8) 5 1, .own (some b34) 1 1 (([(0 : UInt8)]).map V8) 5 1]) := H
          refine ⟨H.sub (List.nil_sublist _), ?_⟩
          replace HS := H.sub (List.nil_sublist _)
          refine t_stepg 31 rfl (by kernel_rfl) (yielded_mk _ _ _ rfl _ rfl (by exact congrArg Value.bool hk33)) (o_appB (s := ⟨hd (some b34), 1, 1, [(0 : UInt8)]⟩) (l' := s.l ++ ([(0 : UInt8)])) (len' := s.len + 1) rfl rfl H (i := 0) rfl sl29 Try.underlying29 rfl rfl (H.slOwn (i := 1) rfl) (by omega) (fun a35 c36 w H => ?_))
          replace H : Hp w0 w [] ([.own a35 (s.len + 1) c36 ((s.l ++ ([(0 : UInt8)])).map V8) 5 1, .own (some b34) 1 1 (([(0 : UInt8)]).map V8) 5 1]) := H
          refine ⟨H.sub (List.nil_sublist _), ?_⟩
          replace HS := H.sub (List.nil_sublist _)
          refine t_stepg 32 rfl (by kernel_rfl) (yielded_mk _ _ _ rfl _ rfl (by exact congrArg Value.bool hk33)) (o_callR Try.func48 rfl rfl rfl (equal_ret _ s ⟨hd a35, s.len + 1, c36, s.l ++ ([(0 : UInt8)])⟩ (hs.up H (fun _ => apart_nil _)) (H.slOwn (i := 0) rfl)) ?_)
          rintro _ w ⟨rfl, Hc⟩
          replace H : Hp w0 w [] ([.own a35 (s.len + 1) c36 ((s.l ++ ([(0 : UInt8)])).map V8) 5 1, .own (some b34) 1 1 (([(0 : UInt8)]).map V8) 5 1]) := H.call Hc
          clear Hc
          have hk37 : (decide (s.l = s.l ++ ([(0 : UInt8)]))) = false := decide_eq_false (fun e => by have := congrArg List.length e; simp at this)
          refine ⟨H.sub (List.nil_sublist _), ?_⟩
          replace HS := H.sub (List.nil_sublist _)
          refine t_takeg 33 rfl (by kernel_rfl) (by kernel_rfl) (by kernel_rfl) (fun _ _ _ h => h) (yielded_mk _ _ _ rfl _ rfl (by exact congrArg Value.bool hk33)) (fun w HS => r_not rfl) HS ?_
          refine t_take 34 rfl (by kernel_rfl) (by kernel_rfl) (by kernel_rfl) (fun _ _ _ h => h) (fun w HS => r_pick (b := true) (congrArg Value.bool hk33)) HS ?_
          refine t_take 35 rfl (by kernel_rfl) (by kernel_rfl) (by kernel_rfl) (fun _ _ _ h => h) (fun w HS => r_as) HS ?_
          refine t_done (by kernel_rfl) ?_
          clear HS
          refine c_ret ?_
          try dsimp only [Exit.then, Exit.inBlock]
          refine e_ret1 (v := .bool (!(decide (s.l = s.l ++ ([(0 : UInt8)]))))) Try.results9 rfl ?_
          refine ⟨_, rfl, ?_⟩
          exact ⟨congrArg Value.bool (congrArg not hk37), H.sub (List.nil_sublist _)⟩
end Go.Proofs.Ytjmbbhnpfmblpaa
