import Derived.Test.YtjmbbhnpfmblpaaCut
/- layer 2: however bytes are cut, the hash is the same. -/
namespace Go.Proofs.Ytjmbbhnpfmblpaa
open Go
set_option maxRecDepth 100000
theorem cat1 (a : Sl) : cat [a] = a.l := by simp [cat]
theorem abs0 (l : List Sl) : absorb HS.init (cat (l.take 0)) = HS.init := rfl
attribute [local irreducible] digest absorb cat
set_option maxHeartbeats 1000000 in
theorem shaCuts_ret (w0 : World) (s : Sl) (ya : Option Addr) (yl yc : Nat) (ys : List Int) (za : Option Addr) (zl zc : Nat) (zs : List Int) (hs : s.ok w0)
    (hy : RdS w0 ya (ys.map VI)) (hyl : ys.length = yl) (hz : RdS w0 za (zs.map VI)) (hzl : zs.length = zl) :
    Ret Try.prog 4 [s.v, .slice ya yl yc, .slice za zl zc] w0 fun v w' => v = .bool true ∧ Hp w0 w' [] [] := by
  refine ret_mk Try.func4 rfl Try.ntmps4 (by simp) ?_
  have H := Hp.refl w0 []
  repeat refine c_seq ?_
  refine c_region ?_
  refine l_op (o_as ?_)
  first | refine l_end ?_ | refine l_nil ?_
  repeat refine c_seq ?_
  refine c_region ?_
  refine l_op (o_callR Try.func31 rfl rfl rfl (begun2_ret _) ?_)
  rintro _ w ⟨rfl, Hc⟩
  replace H := H.call Hc
  rw [List.append_nil] at H
  clear Hc
  refine l_op (o_not rfl ?_)
  first | refine l_end ?_ | refine l_nil ?_
  repeat refine c_seq ?_
  refine c_no rfl ?_
  refine c_skip ?_
  by_cases h1 : (16384 : Int) < (s.len : Int)
  · skip
    repeat refine c_seq ?_
    refine c_region ?_
    refine l_op (o_mv ?_)
    refine l_op (o_lens el29 rfl ?_)
    refine l_op (o_bin rfl rfl (fun _ => b_gtrB true (decide_eq_true h1)) ?_)
    refine l_op (o_mv ?_)
    refine l_no rfl rfl rfl rfl ?_
    refine l_no rfl rfl rfl rfl ?_
    refine l_no rfl rfl rfl rfl ?_
    refine l_op (o_pick rfl ?_)
    refine l_op (o_mv ?_)
    refine l_no rfl rfl rfl rfl ?_
    refine l_no rfl rfl rfl rfl ?_
    refine l_no rfl rfl rfl rfl ?_
    refine l_op (o_pick rfl ?_)
    first | refine l_end ?_ | refine l_nil ?_
    repeat refine c_seq ?_
    refine c_yes rfl ?_
    repeat refine c_seq ?_
    refine c_region ?_
    refine l_op (o_as ?_)
    first | refine l_end ?_ | refine l_nil ?_
    refine c_ret ?_
    try simp only [Exit.then]
    exact e_ret1 Try.results4 rfl ⟨_, rfl, rfl, H⟩
  by_cases h2 : (1024 : Int) < (yl : Int)
  · skip
    repeat refine c_seq ?_
    refine c_region ?_
    refine l_op (o_mv ?_)
    refine l_op (o_lens el29 rfl ?_)
    refine l_op (o_bin rfl rfl (fun _ => b_gtrB false (decide_eq_false h1)) ?_)
    refine l_op (o_mv ?_)
    refine l_yes rfl rfl rfl (o_mv ?_)
    refine l_yes rfl rfl rfl (o_lens el39 rfl ?_)
    refine l_yes rfl rfl rfl (o_bin rfl rfl (fun _ => b_gtrB true (decide_eq_true h2)) ?_)
    refine l_op (o_pick rfl ?_)
    refine l_op (o_mv ?_)
    refine l_no rfl rfl rfl rfl ?_
    refine l_no rfl rfl rfl rfl ?_
    refine l_no rfl rfl rfl rfl ?_
    refine l_op (o_pick rfl ?_)
    first | refine l_end ?_ | refine l_nil ?_
    repeat refine c_seq ?_
    refine c_yes rfl ?_
    repeat refine c_seq ?_
    refine c_region ?_
    refine l_op (o_as ?_)
    first | refine l_end ?_ | refine l_nil ?_
    refine c_ret ?_
    try simp only [Exit.then]
    exact e_ret1 Try.results4 rfl ⟨_, rfl, rfl, H⟩
  by_cases h3 : (1024 : Int) < (zl : Int)
  · skip
    repeat refine c_seq ?_
    refine c_region ?_
    refine l_op (o_mv ?_)
    refine l_op (o_lens el29 rfl ?_)
    refine l_op (o_bin rfl rfl (fun _ => b_gtrB false (decide_eq_false h1)) ?_)
    refine l_op (o_mv ?_)
    refine l_yes rfl rfl rfl (o_mv ?_)
    refine l_yes rfl rfl rfl (o_lens el39 rfl ?_)
    refine l_yes rfl rfl rfl (o_bin rfl rfl (fun _ => b_gtrB false (decide_eq_false h2)) ?_)
    refine l_op (o_pick rfl ?_)
    refine l_op (o_mv ?_)
    refine l_yes rfl rfl rfl (o_mv ?_)
    refine l_yes rfl rfl rfl (o_lens el39 rfl ?_)
    refine l_yes rfl rfl rfl (o_bin rfl rfl (fun _ => b_gtrB true (decide_eq_true h3)) ?_)
    refine l_op (o_pick rfl ?_)
    first | refine l_end ?_ | refine l_nil ?_
    repeat refine c_seq ?_
    refine c_yes rfl ?_
    repeat refine c_seq ?_
    refine c_region ?_
    refine l_op (o_as ?_)
    first | refine l_end ?_ | refine l_nil ?_
    refine c_ret ?_
    try simp only [Exit.then]
    exact e_ret1 Try.results4 rfl ⟨_, rfl, rfl, H⟩
  repeat refine c_seq ?_
  refine c_region ?_
  refine l_op (o_mv ?_)
  refine l_op (o_lens el29 rfl ?_)
  refine l_op (o_bin rfl rfl (fun _ => b_gtrB false (decide_eq_false h1)) ?_)
  refine l_op (o_mv ?_)
  refine l_yes rfl rfl rfl (o_mv ?_)
  refine l_yes rfl rfl rfl (o_lens el39 rfl ?_)
  refine l_yes rfl rfl rfl (o_bin rfl rfl (fun _ => b_gtrB false (decide_eq_false h2)) ?_)
  refine l_op (o_pick rfl ?_)
  refine l_op (o_mv ?_)
  refine l_yes rfl rfl rfl (o_mv ?_)
  refine l_yes rfl rfl rfl (o_lens el39 rfl ?_)
  refine l_yes rfl rfl rfl (o_bin rfl rfl (fun _ => b_gtrB false (decide_eq_false h3)) ?_)
  refine l_op (o_pick rfl ?_)
  first | refine l_end ?_ | refine l_nil ?_
  repeat refine c_seq ?_
  refine c_no rfl ?_
  refine c_skip ?_
  repeat refine c_seq ?_
  refine c_region ?_
  refine l_op (o_callR Try.func34 rfl rfl rfl (new_ret _) ?_)
  rintro _ w ⟨hx, rfl, Hc⟩
  replace H := H.call Hc
  rw [initH] at H
  clear Hc
  refine l_op (o_callR Try.func34 rfl rfl rfl (new_ret _) ?_)
  rintro _ w ⟨hh, rfl, Hc⟩
  replace H := H.call Hc
  rw [initH] at H
  clear Hc
  refine l_op (o_as ?_)
  refine l_op (o_as ?_)
  first | refine l_end ?_ | refine l_nil ?_
  repeat refine c_seq ?_
  refine c_region ?_
  refine l_op (o_mv ?_)
  refine l_op (o_mv ?_)
  refine l_op (o_callR Try.func41 rfl rfl rfl (cut_ret w0 _ s hs ya yl yc ys (H.rd hy (apart_nil _)) hyl (by omega) (by omega)) ?_)
  rintro _ w ⟨pa, pl, pc, ps, rfl, hpl, hpl1, hpc, hps, Hc⟩
  replace H := H.call Hc
  clear Hc
  refine l_op (o_mv ?_)
  refine l_op (o_mv ?_)
  refine l_op (o_callR Try.func41 rfl rfl rfl (cut_ret w0 _ s hs za zl zc zs (H.rd hz (apart_nil _)) hzl (by omega) (by omega)) ?_)
  rintro _ w ⟨qa, ql, qc, qs, rfl, hql, hql1, hqc, hqs, Hc⟩
  replace H : Hp w0 w [] [.blk hx (hashH HS.init) 52, .blk hh (hashH HS.init) 52, .own pa pl pc (ps.map Sl.v) 29 1, .own qa ql qc (qs.map Sl.v) 29 1] := H.call Hc
  clear Hc
  refine l_op (o_as ?_)
  refine l_op (o_as ?_)
  first | refine l_end ?_ | refine l_nil ?_
  have hz0 : ∀ l : List Sl, absorb HS.init (cat (l.take 0)) = HS.init := fun l => abs0 l
  repeat refine c_seq ?_
  refine c_region ?_
  refine l_op (o_as ?_)
  first | refine l_end ?_ | refine l_nil ?_
  repeat refine c_seq ?_
  refine c_block ?_
  refine c_loop (ι := Nat) (fun i => [(11, VI i), (7, .pointer (some ⟨hx, 0, none⟩)), (8, .pointer (some ⟨hh, 0, none⟩)), (9, .slice (hd pa) pl pc), (10, .slice (hd qa) ql qc), (0, s.v)])
    (fun i w => i ≤ pl ∧ Hp w0 w [] [.blk hx (hashH (absorb HS.init (cat (ps.take i)))) 52, .blk hh (hashH HS.init) 52, .own pa pl pc (ps.map Sl.v) 29 1, .own qa ql qc (qs.map Sl.v) 29 1])
    (fun i => pl - i) 0 ⟨rfl, rfl, rfl, rfl, rfl, rfl, trivial⟩ ⟨by omega, by rw [hz0]; exact H⟩ ?_
  clear H
  rintro i τ w ⟨hi, H⟩
  repeat refine c_seq ?_
  refine c_region ?_
  refine l_op (o_mv ?_)
  refine l_op (o_mv ?_)
  refine l_op (o_lens el22 rfl ?_)
  refine l_op (o_bin rfl rfl (fun _ => b_lss) ?_)
  first | refine l_end ?_ | refine l_nil ?_
  repeat refine c_seq ?_
  refine c_ifD rfl (fun hlt => ?_) (fun hlt => ?_)
  · have hlt' : i < pl := by omega
    have hgi : ps[i]? = some (ps[i]'(by omega)) := List.getElem?_eq_getElem _
    generalize (ps[i]'(by omega)) = p at hgi
    have hp := hps p (List.mem_of_getElem? hgi)
    have hv : (ps.map Sl.v)[(i : Int).toNat * 1]? = some p.v := by simp [hgi]
    refine c_skip ?_
    repeat refine c_seq ?_
    refine c_block ?_
    repeat refine c_seq ?_
    refine c_region ?_
    refine l_op (o_mv ?_)
    refine l_op (o_mv ?_)
    refine l_op (o_mv ?_)
    refine l_op (o_is rfl rfl el22 (by omega) (by omega) (by decide) (H.own (i := 2) rfl) (by simp [hpl]) (fun b o ha => ?_))
    refine l_op (o_lds (H.own (i := 2) rfl) ha rfl ct29 hv ?_)
    refine l_op (o_callR Try.func35 rfl rfl rfl (writeS H (i := 0) rfl (absorb64 _) (hp.up H (fun _ => apart_nil _)) (hp.apart (H.newer (i := 0) rfl rfl))) ?_)
    rintro _ w ⟨rfl, Hc⟩
    rw [← absorb_append, ← cat_succ ps i p hgi] at Hc
    clear H
    have H := Hc; clear Hc
    first | refine l_end ?_ | refine l_nil ?_
    repeat refine c_seq ?_
    refine c_region ?_
    refine l_op (o_mv ?_)
    refine l_op (o_bin rfl rfl (fun _ => b_add (by omega) (by omega)) ?_)
    refine l_op (o_as ?_)
    first | refine l_end ?_ | refine l_nil ?_
    refine round_end (i + 1) ?_ ?_ ?_
    · exact ⟨rfl, rfl, rfl, rfl, rfl, rfl, trivial⟩
    · exact ⟨hlt', H⟩
    · show pl - (i + 1) < pl - i; omega
  have hi' : i = pl := by omega
  subst hi'
  rw [List.take_of_length_le (Nat.le_of_eq hpl), hpc] at H
  clear hlt hi
  refine c_exit ?_
  repeat refine c_seq ?_
  refine c_region ?_
  refine l_op (o_as ?_)
  first | refine l_end ?_ | refine l_nil ?_
  repeat refine c_seq ?_
  refine c_block ?_
  refine c_loop (ι := Nat) (fun j => [(12, VI j), (7, .pointer (some ⟨hx, 0, none⟩)), (8, .pointer (some ⟨hh, 0, none⟩)), (10, .slice (hd qa) ql qc), (0, s.v)])
    (fun j w => j ≤ ql ∧ Hp w0 w [] [.blk hx (hashH (absorb HS.init s.l)) 52, .blk hh (hashH (absorb HS.init (cat (qs.take j)))) 52, .own pa i pc (ps.map Sl.v) 29 1, .own qa ql qc (qs.map Sl.v) 29 1])
    (fun j => ql - j) 0 ⟨rfl, rfl, rfl, rfl, rfl, trivial⟩ ⟨by omega, by rw [hz0]; exact H⟩ ?_
  clear H
  rintro j τ w ⟨hj, H⟩
  repeat refine c_seq ?_
  refine c_region ?_
  refine l_op (o_mv ?_)
  refine l_op (o_mv ?_)
  refine l_op (o_lens el22 rfl ?_)
  refine l_op (o_bin rfl rfl (fun _ => b_lss) ?_)
  first | refine l_end ?_ | refine l_nil ?_
  repeat refine c_seq ?_
  refine c_ifD rfl (fun hlt => ?_) (fun hlt => ?_)
  · have hlt' : j < ql := by omega
    have hgi : qs[j]? = some (qs[j]'(by omega)) := List.getElem?_eq_getElem _
    generalize (qs[j]'(by omega)) = p at hgi
    have hp := hqs p (List.mem_of_getElem? hgi)
    have hv : (qs.map Sl.v)[(j : Int).toNat * 1]? = some p.v := by simp [hgi]
    refine c_skip ?_
    repeat refine c_seq ?_
    refine c_block ?_
    repeat refine c_seq ?_
    refine c_region ?_
    refine l_op (o_mv ?_)
    refine l_op (o_mv ?_)
    refine l_op (o_mv ?_)
    refine l_op (o_is rfl rfl el22 (by omega) (by omega) (by decide) (H.own (i := 3) rfl) (by simp [hql]) (fun b o ha => ?_))
    refine l_op (o_lds (H.own (i := 3) rfl) ha rfl ct29 hv ?_)
    refine l_op (o_callR Try.func35 rfl rfl rfl (writeS H (i := 1) rfl (absorb64 _) (hp.up H (fun _ => apart_nil _)) (hp.apart (H.newer (i := 1) rfl rfl))) ?_)
    rintro _ w ⟨rfl, Hc⟩
    rw [← absorb_append, ← cat_succ qs j p hgi] at Hc
    clear H
    have H := Hc; clear Hc
    first | refine l_end ?_ | refine l_nil ?_
    repeat refine c_seq ?_
    refine c_region ?_
    refine l_op (o_mv ?_)
    refine l_op (o_callR Try.func38 rfl rfl rfl (sum_ret _ hh _ (absorb64 _) (H.blk (i := 1) rfl)) ?_)
    rintro _ w ⟨rfl, Hc⟩
    replace H := H.call Hc
    rw [List.append_nil] at H
    clear Hc
    first | refine l_end ?_ | refine l_nil ?_
    repeat refine c_seq ?_
    refine c_region ?_
    refine l_op (o_mv ?_)
    refine l_op (o_bin rfl rfl (fun _ => b_add (by omega) (by omega)) ?_)
    refine l_op (o_as ?_)
    first | refine l_end ?_ | refine l_nil ?_
    refine round_end (j + 1) ?_ ?_ ?_
    · exact ⟨rfl, rfl, rfl, rfl, rfl, trivial⟩
    · exact ⟨hlt', H⟩
    · show ql - (j + 1) < ql - j; omega
  have hj' : j = ql := by omega
  subst hj'
  rw [List.take_of_length_le (Nat.le_of_eq hql), hqc] at H
  clear hlt hj
  obtain ⟨sx, hsx⟩ : ∃ sx, absorb HS.init s.l = sx := ⟨_, rfl⟩
  rw [hsx] at H
  have hwx : sx.wt.length = 64 := by rw [← hsx]; exact absorb64 _
  replace H : Hp w0 w [] [.blk hx (hashH sx) 52, .blk hh (hashH sx) 52] := H.sub (.cons_cons _ (.cons_cons _ (List.nil_sublist _)))
  refine c_exit ?_
  repeat refine c_seq ?_
  refine c_region ?_
  refine l_op (o_mv ?_)
  refine l_op (o_callR Try.func38 rfl rfl rfl (sum_ret _ hx sx hwx (H.blk (i := 0) rfl)) ?_)
  rintro _ w ⟨rfl, Hc⟩
  replace H := H.call Hc
  rw [List.append_nil] at H
  clear Hc
  refine l_op (o_mv ?_)
  refine l_op (o_callR Try.func38 rfl rfl rfl (sum_ret _ hh sx hwx (H.blk (i := 1) rfl)) ?_)
  rintro _ w ⟨rfl, Hc⟩
  replace H := H.call Hc
  rw [List.append_nil] at H
  clear Hc
  refine l_op (o_eqaT (digest sx) _ rfl Try.underlying31 Try.underlying5 cs5 rfl rfl (digest_length _) ?_)
  refine l_op (o_mv ?_)
  refine l_yes rfl rfl rfl (o_mv ?_)
  refine l_yes rfl rfl rfl (o_callR Try.func39 rfl rfl rfl (len_ret _ hx sx hwx (H.blk (i := 0) rfl)) ?_)
  rintro _ w' ⟨rfl, hw⟩
  rw [hw]; clear hw w'
  refine l_yes rfl rfl rfl (o_mv ?_)
  refine l_yes rfl rfl rfl (o_callR Try.func39 rfl rfl rfl (len_ret _ hh sx hwx (H.blk (i := 1) rfl)) ?_)
  rintro _ w' ⟨rfl, hw⟩
  rw [hw]; clear hw w'
  refine l_yes rfl rfl rfl (o_bin rfl rfl (fun _ => b_eqlB true (decide_eq_true rfl)) ?_)
  refine l_op (o_pick rfl ?_)
  refine l_op (o_mv ?_)
  refine l_yes rfl rfl rfl (o_mv ?_)
  refine l_yes rfl rfl rfl (o_callR Try.func38 rfl rfl rfl (sum_ret _ hx sx hwx (H.blk (i := 0) rfl)) ?_)
  rintro _ w ⟨rfl, Hc⟩
  replace H := H.call Hc
  rw [List.append_nil] at H
  clear Hc
  refine l_yes rfl rfl rfl (o_mv ?_)
  refine l_yes rfl rfl rfl (o_bsl H sl22 zc29 (by decide) rfl (by decide) (fills _ [s.v] 1 (by simp [Value.oneCell', Sl.v]) rfl) (fun bP w H hbP => ?_))
  have hof := of_ret w (some ⟨bP, 0, none⟩) 1 1 [s] (rd_parts H _ (i := 2) rfl rfl) rfl (all1 (hs.up H (fun _ => apart_nil _))) (by decide)
  rw [cat1, hsx] at hof
  refine l_yes rfl rfl rfl (o_callR Try.func37 rfl rfl rfl hof ?_)
  rintro _ w ⟨rfl, Hc⟩
  replace H := H.call Hc
  rw [List.append_nil] at H
  clear Hc hof
  refine l_yes rfl rfl rfl (o_eqaT (digest sx) _ rfl Try.underlying31 Try.underlying5 cs5 rfl rfl (digest_length _) ?_)
  refine l_op (o_pick rfl ?_)
  refine l_op (o_as ?_)
  first | refine l_end ?_ | refine l_nil ?_
  exact c_ret (e_ret1 (v := .bool true) Try.results4 rfl ⟨_, rfl, rfl, H.sub (List.nil_sublist _)⟩)
end Go.Proofs.Ytjmbbhnpfmblpaa
