import Derived.Test.YtjmbbhnpfmblpaaLaw0
/- lists of twins. -/
namespace Go.Proofs.Ytjmbbhnpfmblpaa
open Go
set_option maxRecDepth 100000
theorem kept_get (ts ps : List Sl) (he : ts.map Sl.l = ps.map Sl.l) (i : Nat) (t p : Sl) (ht : ts[i]? = some t) (hp : ps[i]? = some p) : t.l = p.l := by
  have := congrArg (·[i]?) he
  simpa [ht, hp] using this
theorem len_of_map {ts ps : List Sl} (he : ts.map Sl.l = ps.map Sl.l) : ts.length = ps.length := by
  have := congrArg List.length he
  simpa using this
def tch (t : Sl) : Ch := .blk ((t.a.map (·.block)).getD 0) (tw t.l 3) 5
/-- a twin: where it stands. -/
def Sl.at (t : Sl) : Prop := ∃ b, t.a = some ⟨b, 0, none⟩ ∧ t.l.length = t.len ∧ t.cap = t.len + 3 ∧ t.len ≤ 1048576
theorem kept_of_tch {w : World} {t : Sl} (ha : t.at) (h : (tch t).ok w) : t.kept w := by
  obtain ⟨b, hb, hl, hc, hm⟩ := ha
  obtain ⟨a, len, cap, l⟩ := t
  simp only at hb hl hc hm
  subst hb hc
  exact kept_of_blk h len hl (by omega)
theorem allkept_ret (w0 : World) (ta : Option Addr) (tl tc : Nat) (ts : List Sl) (hrt : RdS w0 ta (ts.map Sl.v)) (hlt : ts.length = tl) (hkt : ∀ p ∈ ts, p.kept w0) (pa : Option Addr) (pl pc : Nat) (ps : List Sl) (hr : RdS w0 pa (ps.map Sl.v)) (hl : ps.length = pl) (hok : ∀ p ∈ ps, p.ok w0) (he : ts.map Sl.l = ps.map Sl.l) (hB : ∀ p ∈ ps, p.len ≤ 1048576) (hp63 : pl ≤ 1048576) :
    Ret Try.prog 40 [.slice ta tl tc, .slice pa pl pc] w0 fun v w' => v = .bool true ∧ Hp w0 w' [] [] := by
  refine ret_mk Try.func40 rfl Try.ntmps40 (by simp) ?_
  have H := Hp.refl w0 []
  have htp := len_of_map he
  have hokt : ∀ p ∈ ts, p.ok w0 := fun p hp => (hkt p hp).ok
  repeat refine c_seq ?_
  refine c_region ?_
  refine l_op (o_val (r_as) ?_)
  first | refine l_end ?_ | refine l_nil ?_
  repeat refine c_seq ?_
  refine c_region ?_
  refine l_op (o_val (r_as) ?_)
  first | refine l_end ?_ | refine l_nil ?_
  repeat refine c_seq ?_
  refine c_block ?_
  repeat refine c_seq ?_
  refine c_loop (fun (i : Nat) => [(0, .slice ta tl tc), (1, .slice pa pl pc), (5, VI (i : Int))])
    (fun (i : Nat) w => (i ≤ pl) ∧ Hp w0 w [] ([]))
    (fun (i : Nat) => pl - i) 0 ⟨rfl, rfl, rfl, trivial⟩ ⟨Nat.zero_le _, H⟩ ?_
  clear H
  rintro i τ w ⟨hi, H⟩
  repeat refine c_seq ?_
  refine c_region ?_
  refine l_op (o_val (r_mv) ?_)
  refine l_op (o_val (r_mv) ?_)
  refine l_op (o_val (r_lens el22 rfl) ?_)
  refine l_op (o_val (r_bin (a := (i : Int)) (b := (pl : Int)) rfl rfl (fun _ => b_lss)) ?_)
  first | refine l_end ?_ | refine l_nil ?_
  by_cases hc1 : (i : Int) < (pl : Int)
  · skip
    repeat refine c_seq ?_
    refine c_yes (by exact congrArg Value.bool (decide_eq_true hc1)) ?_
    refine c_skip ?_
    repeat refine c_seq ?_
    refine c_block ?_
    repeat refine c_seq ?_
    refine wp_held (fun w => Hp w0 w [] []) mixed ?_
    replace H := H.drew
    have HS := H
    refine t_take 0 rfl (by kernel_rfl) (by kernel_rfl) (by kernel_rfl) (fun _ _ _ h => h) (fun w HS => r_mv) HS ?_
    refine t_take 1 rfl (by kernel_rfl) (by kernel_rfl) (by kernel_rfl) (fun _ _ _ h => h) (fun w HS => r_mv) HS ?_
    obtain ⟨ab2, ao3, ah4⟩ := (HS.rd hrt (apart_nil _)).addr (by simp only [List.length_map]; omega)
    refine t_take 2 rfl (by kernel_rfl) (by kernel_rfl) (by kernel_rfl) (fun _ _ _ h => h) (fun w HS => r_isN i rfl rfl el22 ah4 (by omega) (by (try simp only [Sl.cut]); omega)) HS ?_
    obtain ⟨p5, hp6⟩ : ∃ p, ts[i]? = some p := ⟨_, List.getElem?_eq_getElem (by omega)⟩
    have hpok7 := hokt p5 (List.mem_of_getElem? hp6)
    have hpok7n := hpok7.ln
    have hpok7m := hpok7.le
    refine t_take 3 rfl (by kernel_rfl) (by kernel_rfl) (by kernel_rfl) (fun _ _ _ h => h) (fun w HS => r_ldP (k := i) (HS.rd hrt (apart_nil _)) ah4 rfl ct29 hp6) HS ?_
    refine t_take 4 rfl (by kernel_rfl) (by kernel_rfl) (by kernel_rfl) (fun _ _ _ h => h) (fun w HS => r_mv) HS ?_
    refine t_take 5 rfl (by kernel_rfl) (by kernel_rfl) (by kernel_rfl) (fun _ _ _ h => h) (fun w HS => r_mv) HS ?_
    obtain ⟨ab8, ao9, ah10⟩ := (HS.rd hr (apart_nil _)).addr (by simp only [List.length_map]; omega)
    refine t_take 6 rfl (by kernel_rfl) (by kernel_rfl) (by kernel_rfl) (fun _ _ _ h => h) (fun w HS => r_isN i rfl rfl el22 ah10 (by omega) (by (try simp only [Sl.cut]); omega)) HS ?_
    obtain ⟨p11, hp12⟩ : ∃ p, ps[i]? = some p := ⟨_, List.getElem?_eq_getElem (by omega)⟩
    have hpok13 := hok p11 (List.mem_of_getElem? hp12)
    have hpok13n := hpok13.ln
    have hpok13m := hpok13.le
    refine t_take 7 rfl (by kernel_rfl) (by kernel_rfl) (by kernel_rfl) (fun _ _ _ h => h) (fun w HS => r_ldP (k := i) (HS.rd hr (apart_nil _)) ah10 rfl ct29 hp12) HS ?_
    refine t_step 8 rfl (by kernel_rfl) (o_callR Try.func54 rfl rfl rfl (kept_ret _ p5 p11 (((hkt p5 (List.mem_of_getElem? hp6)).up H (apart_nil _))) (hpok13.up H (fun _ => apart_nil _)) (kept_get ts ps he i p5 p11 hp6 hp12) (by have := hB p11 (List.mem_of_getElem? hp12); omega)) ?_)
    rintro _ w ⟨rfl, Hc⟩
    replace H : Hp w0 w [] ([]) := H.call Hc
    clear Hc
    refine ⟨H, ?_⟩
    replace HS := H
    refine t_take 9 rfl (by kernel_rfl) (by kernel_rfl) (by kernel_rfl) (fun _ _ _ h => h) (fun w HS => r_not rfl) HS ?_
    refine t_done (by kernel_rfl) ?_
    clear HS
    repeat refine c_seq ?_
    refine c_no rfl ?_
    refine c_skip ?_
    repeat refine c_seq ?_
    refine c_region ?_
    refine l_op (o_val (r_mv) ?_)
    refine l_op (o_val (r_bin (a := (i : Int)) (b := 1) rfl rfl (fun _ => b_add (by omega) (by omega))) ?_)
    refine l_op (o_val (r_as) ?_)
    first | refine l_end ?_ | refine l_nil ?_
    refine round_end (i + 1) ?_ ?_ ?_
    · exact ⟨rfl, rfl, show VI ((i : Int) + 1) = VI ((i + 1 : Nat) : Int) from congrArg VI (by omega), trivial⟩
    · refine ⟨?_, ?_⟩
      · try dsimp only
        exact by omega
      · exact H
    · show pl - (i + 1 : Nat) < pl - i; omega
  · skip
    repeat refine c_seq ?_
    refine c_no (by exact congrArg Value.bool (decide_eq_false hc1)) ?_
    refine c_exit ?_
    repeat refine c_seq ?_
    refine c_region ?_
    refine l_op (o_val (r_mv) ?_)
    refine l_op (o_val (r_lens el22 rfl) ?_)
    refine l_op (o_val (r_mv) ?_)
    refine l_op (o_val (r_lens el22 rfl) ?_)
    refine l_op (o_val (r_bin (a := (tl : Int)) (b := (pl : Int)) rfl rfl (fun _ => b_eqlB true (decide_eq_true (by omega)))) ?_)
    refine l_op (o_val (r_as) ?_)
    first | refine l_end ?_ | refine l_nil ?_
    refine c_ret ?_
    try dsimp only [Exit.then, Exit.inBlock]
    refine e_ret1 (v := .bool true) Try.results40 rfl ?_
    refine ⟨_, rfl, ?_⟩
    exact ⟨rfl, H⟩
theorem twins_step {w0 w : World} {a : Option Nat} {i c : Nat} {ts : List Sl} {b : Nat} {p : Sl} {C : List Value}
    (H : Hp w0 w [] (.own a i c (ts.map Sl.v) 29 1 :: ts.map tch ++ [.blk b (tw p.l 3) 5])) :
    Hp w0 w [] (.own a i c (ts.map Sl.v) 29 1 :: (ts ++ [(⟨some ⟨b, 0, none⟩, p.len, p.len + 3, p.l⟩ : Sl)]).map tch) := by
  rw [List.map_append]; exact H
theorem twins_ret (w0 : World) (pa : Option Addr) (pl pc : Nat) (ps : List Sl) (hr : RdS w0 pa (ps.map Sl.v)) (hl : ps.length = pl) (hok : ∀ p ∈ ps, p.ok w0) (hB : ∀ p ∈ ps, p.len ≤ 1048576) (hp63 : pl ≤ 1048576) :
    Ret Try.prog 33 [.slice pa pl pc] w0 fun v w' => ∃ (ta : Option Addr) (tc : Nat) (ts : List Sl), v = .slice ta pl tc ∧ ts.map Sl.l = ps.map Sl.l ∧ RdS w' ta (ts.map Sl.v) ∧ (∀ p ∈ ts, p.kept w') ∧ Hp w0 w' [] [] := by
  refine ret_mk Try.func33 rfl Try.ntmps33 (by simp) ?_
  have H := Hp.refl w0 []
  repeat refine c_seq ?_
  refine c_region ?_
  refine l_op (o_val (r_as) ?_)
  first | refine l_end ?_ | refine l_nil ?_
  repeat refine c_seq ?_
  refine c_region ?_
  refine l_op (o_val (r_as) ?_)
  first | refine l_end ?_ | refine l_nil ?_
  repeat refine c_seq ?_
  refine c_region ?_
  refine l_op (o_val (r_as) ?_)
  first | refine l_end ?_ | refine l_nil ?_
  repeat refine c_seq ?_
  refine c_block ?_
  repeat refine c_seq ?_
  refine c_loop4 (fun (i : Nat) (a : Option Nat) (c : Nat) (ts : List Sl) => [(0, .slice pa pl pc), (3, .slice (hd a) i c), (4, VI (i : Int))])
    (fun (i : Nat) (a : Option Nat) (c : Nat) (ts : List Sl) w => (i ≤ pl ∧ ts.map Sl.l = (ps.take i).map Sl.l ∧ ∀ t ∈ ts, t.at) ∧ Hp w0 w [] (Ch.own a i c (ts.map Sl.v) 29 1 :: ts.map tch))
    (fun (i : Nat) (a : Option Nat) (c : Nat) (ts : List Sl) => pl - i) 0 none 0 ([]) ⟨rfl, rfl, rfl, trivial⟩ ⟨⟨Nat.zero_le _, rfl, fun t ht => (by cases ht)⟩, (H.nilEnd 29 1)⟩ ?_
  clear H
  rintro i a c ts τ w ⟨⟨hi, he, hat⟩, H⟩
  repeat refine c_seq ?_
  refine c_region ?_
  refine l_op (o_val (r_mv) ?_)
  refine l_op (o_val (r_mv) ?_)
  refine l_op (o_val (r_lens el22 rfl) ?_)
  refine l_op (o_val (r_bin (a := (i : Int)) (b := (pl : Int)) rfl rfl (fun _ => b_lss)) ?_)
  first | refine l_end ?_ | refine l_nil ?_
  by_cases hc1 : (i : Int) < (pl : Int)
  · skip
    repeat refine c_seq ?_
    refine c_yes (by exact congrArg Value.bool (decide_eq_true hc1)) ?_
    refine c_skip ?_
    repeat refine c_seq ?_
    refine c_block ?_
    repeat refine c_seq ?_
    refine c_region ?_
    refine l_op (o_val (r_mv) ?_)
    refine l_op (o_val (r_mv) ?_)
    refine l_op (o_val (r_mv) ?_)
    obtain ⟨ab2, ao3, ah4⟩ := (H.rd hr (apart_nil _)).addr (by simp only [List.length_map]; omega)
    refine l_op (o_val (r_isN i rfl rfl el22 ah4 (by omega) (by (try simp only [Sl.cut]); omega)) ?_)
    obtain ⟨p5, hp6⟩ : ∃ p, ps[i]? = some p := ⟨_, List.getElem?_eq_getElem (by omega)⟩
    have hpok7 := hok p5 (List.mem_of_getElem? hp6)
    have hpok7n := hpok7.ln
    have hpok7m := hpok7.le
    refine l_op (o_val (r_ldP (k := i) (H.rd hr (apart_nil _)) ah4 rfl ct29 hp6) ?_)
    refine l_op (o_callR Try.func42 rfl rfl rfl (twin_ret _ p5 (hpok7.up H (fun _ => apart_nil _)) (by have := hB p5 (List.mem_of_getElem? hp6); omega)) ?_)
    rintro _ w ⟨b8, rfl, Hc⟩
    replace H := twins_step (C := []) (p := p5) (H.call Hc); clear Hc
    replace H : Hp w0 w [] (Ch.own a i c (ts.map Sl.v) 29 1 :: (ts ++ [(⟨some ⟨b8, 0, none⟩, p5.len, p5.len + 3, p5.l⟩ : Sl)]).map tch) := H
    refine l_op (o_bslV ([(⟨some ⟨b8, 0, none⟩, p5.len, p5.len + 3, p5.l⟩ : Sl).v]) H sl22 zc29 rfl (by simp [Value.oneCell', Sl.v]) rfl (by decide) (fun b9 w H hb9 => ?_))
    replace H := H.rot
    replace H : Hp w0 w [] (Ch.own (some b9) 1 1 ([(⟨some ⟨b8, 0, none⟩, p5.len, p5.len + 3, p5.l⟩ : Sl).v]) 29 1 :: Ch.own a i c (ts.map Sl.v) 29 1 :: (ts ++ [(⟨some ⟨b8, 0, none⟩, p5.len, p5.len + 3, p5.l⟩ : Sl)]).map tch) := H
    refine l_op (o_appV (ys := [(⟨some ⟨b8, 0, none⟩, p5.len, p5.len + 3, p5.l⟩ : Sl).v]) (zs := (ts ++ [(⟨some ⟨b8, 0, none⟩, p5.len, p5.len + 3, p5.l⟩ : Sl)]).map Sl.v) (len' := i + 1) (by simp) rfl H (i := 1) rfl (j := 0) rfl sl22 Try.underlying22 rfl rfl (by simp [Value.oneCell', Sl.v]) (by omega) (by decide) (fun a10 c11 w H => ?_))
    replace H : Hp w0 w [] (Ch.own (some b9) 1 1 ([(⟨some ⟨b8, 0, none⟩, p5.len, p5.len + 3, p5.l⟩ : Sl).v]) 29 1 :: Ch.own a10 (i + 1) c11 ((ts ++ [(⟨some ⟨b8, 0, none⟩, p5.len, p5.len + 3, p5.l⟩ : Sl)]).map Sl.v) 29 1 :: (ts ++ [(⟨some ⟨b8, 0, none⟩, p5.len, p5.len + 3, p5.l⟩ : Sl)]).map tch) := H
    refine l_op (o_val (r_as) ?_)
    first | refine l_end ?_ | refine l_nil ?_
    repeat refine c_seq ?_
    refine c_region ?_
    refine l_op (o_val (r_mv) ?_)
    refine l_op (o_val (r_bin (a := (i : Int)) (b := 1) rfl rfl (fun _ => b_add (by omega) (by omega))) ?_)
    refine l_op (o_val (r_as) ?_)
    first | refine l_end ?_ | refine l_nil ?_
    refine round_end (i + 1, a10, c11, ts ++ [(⟨some ⟨b8, 0, none⟩, p5.len, p5.len + 3, p5.l⟩ : Sl)]) ?_ ?_ ?_
    · exact ⟨rfl, rfl, show VI ((i : Int) + 1) = VI ((i + 1 : Nat) : Int) from congrArg VI (by omega), trivial⟩
    · refine ⟨?_, ?_⟩
      · try dsimp only
        exact ⟨by omega, by rw [List.map_append, he, List.take_add_one, hp6]; simp, fun t ht => (List.mem_append.1 ht).elim (hat t) (fun h => by rw [List.mem_singleton] at h; rw [h]; exact ⟨_, rfl, hpok7.ln, rfl, hB p5 (List.mem_of_getElem? hp6)⟩)⟩
      · exact H.sub (.cons _ (.cons_cons _ (List.Sublist.refl _)))
    · show pl - (i + 1 : Nat) < pl - i; omega
  · skip
    repeat refine c_seq ?_
    refine c_no (by exact congrArg Value.bool (decide_eq_false hc1)) ?_
    refine c_exit ?_
    repeat refine c_seq ?_
    refine c_region ?_
    refine l_op (o_val (r_mv) ?_)
    refine l_op (o_val (r_as) ?_)
    first | refine l_end ?_ | refine l_nil ?_
    refine c_ret ?_
    try dsimp only [Exit.then, Exit.inBlock]
    refine e_ret1 (v := .slice (hd a) i c) Try.results33 rfl ?_
    refine ⟨_, rfl, ?_⟩
    have hi2 : i = pl := by omega
    subst hi2
    rw [List.take_of_length_le (by omega)] at he
    exact ⟨_, _, ts, rfl, he, H.own (i := 0) rfl, fun t ht => kept_of_tch (hat t ht) (H.has _ (List.mem_cons_of_mem _ (List.mem_map_of_mem ht))), H.sub (List.nil_sublist _)⟩
end Go.Proofs.Ytjmbbhnpfmblpaa
