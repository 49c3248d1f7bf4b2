import Derived.Test.YtjmbbhnpfmblpaaSha8
import Derived.Test.YtjmbbhnpfmblpaaK4
/- layer 2: a copy goes on by itself. -/
namespace Go.Proofs.Ytjmbbhnpfmblpaa
open Go
set_option maxRecDepth 100000
theorem dig_all (s : HS) : ((digest s).map V8).toArray.all (·.oneCell') = true := by rw [List.all_toArray]; simp [Value.oneCell']
theorem cat_two (a b : Sl) : cat [a, b] = a.l ++ b.l := by simp [cat]
theorem cat_one (a : Sl) : cat [a] = a.l := by simp [cat]
attribute [local irreducible] digest absorb
set_option maxHeartbeats 400000 in
theorem shaCopies_ret (w0 : World) (a b c : Sl) (ha : a.ok w0) (hb : b.ok w0) (hc : c.ok w0) : Ret Try.prog 7 [a.v, b.v, c.v] w0 fun v w' => v = .bool true ∧ Hp w0 w' [] [] := by
  refine ret_mk Try.func7 rfl Try.ntmps7 (by simp) ?_
  have H := Hp.refl w0 []
  repeat refine c_seq ?_
  refine c_region ?_
  refine l_op (o_as ?_)
  first | refine l_end ?_ | refine l_nil ?_
  repeat refine c_seq ?_
  refine c_region ?_
  refine l_op (o_callR Try.func31 rfl rfl rfl (begun2_ret _) ?_)
  rintro _ w ⟨rfl, Hc⟩
  replace H := H.call Hc
  rw [List.append_nil] at H
  clear Hc
  refine l_op (o_not rfl ?_)
  first | refine l_end ?_ | refine l_nil ?_
  repeat refine c_seq ?_
  refine c_no rfl ?_
  refine c_skip ?_
  by_cases h1 : (4096 : Int) < (a.len : Int)
  · skip
    repeat refine c_seq ?_
    refine c_region ?_
    refine l_op (o_mv ?_)
    refine l_op (o_lens el29 rfl ?_)
    refine l_op (o_bin rfl rfl (fun _ => b_gtrB true (decide_eq_true h1)) ?_)
    refine l_op (o_mv ?_)
    refine l_no rfl rfl rfl rfl ?_
    refine l_no rfl rfl rfl rfl ?_
    refine l_no rfl rfl rfl rfl ?_
    refine l_op (o_pick rfl ?_)
    refine l_op (o_mv ?_)
    refine l_no rfl rfl rfl rfl ?_
    refine l_no rfl rfl rfl rfl ?_
    refine l_no rfl rfl rfl rfl ?_
    refine l_op (o_pick rfl ?_)
    first | refine l_end ?_ | refine l_nil ?_
    repeat refine c_seq ?_
    refine c_yes rfl ?_
    repeat refine c_seq ?_
    refine c_region ?_
    refine l_op (o_as ?_)
    first | refine l_end ?_ | refine l_nil ?_
    refine c_ret ?_
    try simp only [Exit.then]
    exact e_ret1 Try.results7 rfl ⟨_, rfl, rfl, H⟩
  by_cases h2 : (4096 : Int) < (b.len : Int)
  · skip
    repeat refine c_seq ?_
    refine c_region ?_
    refine l_op (o_mv ?_)
    refine l_op (o_lens el29 rfl ?_)
    refine l_op (o_bin rfl rfl (fun _ => b_gtrB false (decide_eq_false h1)) ?_)
    refine l_op (o_mv ?_)
    refine l_yes rfl rfl rfl (o_mv ?_)
    refine l_yes rfl rfl rfl (o_lens el29 rfl ?_)
    refine l_yes rfl rfl rfl (o_bin rfl rfl (fun _ => b_gtrB true (decide_eq_true h2)) ?_)
    refine l_op (o_pick rfl ?_)
    refine l_op (o_mv ?_)
    refine l_no rfl rfl rfl rfl ?_
    refine l_no rfl rfl rfl rfl ?_
    refine l_no rfl rfl rfl rfl ?_
    refine l_op (o_pick rfl ?_)
    first | refine l_end ?_ | refine l_nil ?_
    repeat refine c_seq ?_
    refine c_yes rfl ?_
    repeat refine c_seq ?_
    refine c_region ?_
    refine l_op (o_as ?_)
    first | refine l_end ?_ | refine l_nil ?_
    refine c_ret ?_
    try simp only [Exit.then]
    exact e_ret1 Try.results7 rfl ⟨_, rfl, rfl, H⟩
  by_cases h3 : (4096 : Int) < (c.len : Int)
  · skip
    repeat refine c_seq ?_
    refine c_region ?_
    refine l_op (o_mv ?_)
    refine l_op (o_lens el29 rfl ?_)
    refine l_op (o_bin rfl rfl (fun _ => b_gtrB false (decide_eq_false h1)) ?_)
    refine l_op (o_mv ?_)
    refine l_yes rfl rfl rfl (o_mv ?_)
    refine l_yes rfl rfl rfl (o_lens el29 rfl ?_)
    refine l_yes rfl rfl rfl (o_bin rfl rfl (fun _ => b_gtrB false (decide_eq_false h2)) ?_)
    refine l_op (o_pick rfl ?_)
    refine l_op (o_mv ?_)
    refine l_yes rfl rfl rfl (o_mv ?_)
    refine l_yes rfl rfl rfl (o_lens el29 rfl ?_)
    refine l_yes rfl rfl rfl (o_bin rfl rfl (fun _ => b_gtrB true (decide_eq_true h3)) ?_)
    refine l_op (o_pick rfl ?_)
    first | refine l_end ?_ | refine l_nil ?_
    repeat refine c_seq ?_
    refine c_yes rfl ?_
    repeat refine c_seq ?_
    refine c_region ?_
    refine l_op (o_as ?_)
    first | refine l_end ?_ | refine l_nil ?_
    refine c_ret ?_
    try simp only [Exit.then]
    exact e_ret1 Try.results7 rfl ⟨_, rfl, rfl, H⟩
  repeat refine c_seq ?_
  refine c_region ?_
  refine l_op (o_mv ?_)
  refine l_op (o_lens el29 rfl ?_)
  refine l_op (o_bin rfl rfl (fun _ => b_gtrB false (decide_eq_false h1)) ?_)
  refine l_op (o_mv ?_)
  refine l_yes rfl rfl rfl (o_mv ?_)
  refine l_yes rfl rfl rfl (o_lens el29 rfl ?_)
  refine l_yes rfl rfl rfl (o_bin rfl rfl (fun _ => b_gtrB false (decide_eq_false h2)) ?_)
  refine l_op (o_pick rfl ?_)
  refine l_op (o_mv ?_)
  refine l_yes rfl rfl rfl (o_mv ?_)
  refine l_yes rfl rfl rfl (o_lens el29 rfl ?_)
  refine l_yes rfl rfl rfl (o_bin rfl rfl (fun _ => b_gtrB false (decide_eq_false h3)) ?_)
  refine l_op (o_pick rfl ?_)
  first | refine l_end ?_ | refine l_nil ?_
  repeat refine c_seq ?_
  refine c_no rfl ?_
  refine c_skip ?_
  repeat refine c_seq ?_
  refine c_region ?_
  refine l_op (o_callR Try.func34 rfl rfl rfl (new_ret _) ?_)
  rintro _ w ⟨hx, rfl, Hc⟩
  replace H := H.call Hc
  rw [initH] at H
  clear Hc
  refine l_op (o_as ?_)
  first | refine l_end ?_ | refine l_nil ?_
  repeat refine c_seq ?_
  refine c_region ?_
  refine l_op (o_mv ?_)
  refine l_op (o_mv ?_)
  refine l_op (o_callR Try.func35 rfl rfl rfl (writeS (x := a) H (i := 0) rfl rfl (ha.up H (fun _ => apart_nil _)) (ha.apart (H.newer (i := 0) rfl rfl))) ?_)
  rintro _ w ⟨rfl, Hc⟩
  replace H : Hp w0 w [] [.blk hx (hashH (absorb HS.init a.l)) 52] := Hc; clear Hc
  first | refine l_end ?_ | refine l_nil ?_
  have hwa : (absorb HS.init a.l).wt.length = 64 := absorb64 _
  repeat refine c_seq ?_
  refine c_region ?_
  refine l_op (o_mv ?_)
  refine l_op (o_callR Try.func46 rfl rfl rfl (copy_ret _ hx _ hwa (H.blk (i := 0) rfl)) ?_)
  rintro _ w ⟨hy, rfl, Hc⟩
  replace H : Hp w0 w [] [.blk hx (hashH (absorb HS.init a.l)) 52, .blk hy (hashH (absorb HS.init a.l)) 52] := H.call Hc
  clear Hc
  refine l_op (o_as ?_)
  first | refine l_end ?_ | refine l_nil ?_
  repeat refine c_seq ?_
  refine c_region ?_
  refine l_op (o_mv ?_)
  refine l_op (o_mv ?_)
  refine l_op (o_callR Try.func35 rfl rfl rfl (writeS (x := b) H (i := 0) rfl hwa (hb.up H (fun _ => apart_nil _)) (hb.apart (H.newer (i := 0) rfl rfl))) ?_)
  rintro _ w ⟨rfl, Hc⟩
  clear H
  have H := Hc; clear Hc
  first | refine l_end ?_ | refine l_nil ?_
  repeat refine c_seq ?_
  refine c_region ?_
  refine l_op (o_mv ?_)
  refine l_op (o_mv ?_)
  refine l_op (o_callR Try.func35 rfl rfl rfl (writeS (x := c) H (i := 1) rfl hwa (hc.up H (fun _ => apart_nil _)) (hc.apart (H.newer (i := 1) rfl rfl))) ?_)
  rintro _ w ⟨rfl, Hc⟩
  clear H
  have H := Hc; clear Hc
  rw [← absorb_append] at H
  replace H : Hp w0 w [] [.blk hx (hashH (absorb HS.init (a.l ++ b.l))) 52, .blk hy (hashH (absorb HS.init (a.l ++ c.l))) 52] := by rw [absorb_append _ _ c.l]; exact H
  first | refine l_end ?_ | refine l_nil ?_
  obtain ⟨sx, hsx⟩ : ∃ sx, absorb HS.init (a.l ++ b.l) = sx := ⟨_, rfl⟩
  obtain ⟨sy, hsy⟩ : ∃ sy, absorb HS.init (a.l ++ c.l) = sy := ⟨_, rfl⟩
  rw [hsx, hsy] at H
  have hwx : sx.wt.length = 64 := by rw [← hsx]; exact absorb64 _
  have hwy : sy.wt.length = 64 := by rw [← hsy]; exact absorb64 _
  have hm : (sy.m.toNat : Int) = ((UInt64.ofNat ((a.len : Int) + (c.len : Int)).toNat).toNat : Int) := by
    rw [← hsy, absorb_m, List.length_append, ha.ln, hc.ln]
    have : ((a.len : Int) + (c.len : Int)).toNat = a.len + c.len := by omega
    rw [this]
    have e : HS.init.m = 0 := rfl
    rw [e, UInt64.zero_add]
  repeat refine c_seq ?_
  refine c_region ?_
  refine l_op (o_mv ?_)
  refine l_op (o_callR Try.func38 rfl rfl rfl (sum_ret _ hx sx hwx (H.blk (i := 0) rfl)) ?_)
  rintro _ w ⟨rfl, Hc⟩
  replace H := H.call Hc
  rw [List.append_nil] at H
  clear Hc
  refine l_op (o_mv ?_)
  refine l_op (o_mv ?_)
  refine l_op (o_bsl H sl22 zc29 (by decide) rfl (by decide) (fills _ [a.v, b.v] 2 (by simp [Value.oneCell', Sl.v]) rfl) (fun bP w H hbP => ?_))
  have hof := of_ret w (some ⟨bP, 0, none⟩) 2 2 [a, b] (rd_parts H _ (i := 2) rfl rfl) rfl (all2 (ha.up H (fun _ => apart_nil _)) (hb.up H (fun _ => apart_nil _))) (by decide)
  rw [cat_two, hsx] at hof
  refine l_op (o_callR Try.func37 rfl rfl rfl hof ?_)
  rintro _ w ⟨rfl, Hc⟩
  replace H := H.call Hc
  rw [List.append_nil] at H
  clear Hc hof
  refine l_op (o_eqaT (digest sx) _ rfl Try.underlying31 Try.underlying5 cs5 rfl rfl (digest_length _) ?_)
  refine l_op (o_mv ?_)
  refine l_yes rfl rfl rfl (o_mv ?_)
  refine l_yes rfl rfl rfl (o_callR Try.func38 rfl rfl rfl (sum_ret _ hy sy hwy (H.blk (i := 1) rfl)) ?_)
  rintro _ w ⟨rfl, Hc⟩
  replace H := H.call Hc
  rw [List.append_nil] at H
  clear Hc
  refine l_yes rfl rfl rfl (o_mv ?_)
  refine l_yes rfl rfl rfl (o_mv ?_)
  refine l_yes rfl rfl rfl (o_bsl H sl22 zc29 (by decide) rfl (by decide) (fills _ [a.v, c.v] 2 (by simp [Value.oneCell', Sl.v]) rfl) (fun bQ w H hbQ => ?_))
  have hof := of_ret w (some ⟨bQ, 0, none⟩) 2 2 [a, c] (rd_parts H _ (i := 3) rfl rfl) rfl (all2 (ha.up H (fun _ => apart_nil _)) (hc.up H (fun _ => apart_nil _))) (by decide)
  rw [cat_two, hsy] at hof
  refine l_yes rfl rfl rfl (o_callR Try.func37 rfl rfl rfl hof ?_)
  rintro _ w ⟨rfl, Hc⟩
  replace H := H.call Hc
  rw [List.append_nil] at H
  clear Hc hof
  refine l_yes rfl rfl rfl (o_eqaT (digest sy) _ rfl Try.underlying31 Try.underlying5 cs5 rfl rfl (digest_length _) ?_)
  refine l_op (o_pick rfl ?_)
  refine l_op (o_mv ?_)
  refine l_yes rfl rfl rfl (o_mv ?_)
  refine l_yes rfl rfl rfl (o_callR Try.func39 rfl rfl rfl (len_ret _ hy sy hwy (H.blk (i := 1) rfl)) ?_)
  rintro _ w' ⟨rfl, hw⟩
  rw [hw]; clear hw w'
  refine l_yes rfl rfl rfl (o_mv ?_)
  refine l_yes rfl rfl rfl (o_lens el29 rfl ?_)
  refine l_yes rfl rfl rfl (o_mv ?_)
  refine l_yes rfl rfl rfl (o_lens el29 rfl ?_)
  refine l_yes rfl rfl rfl (o_bin rfl rfl (fun _ => b_add (by omega) (by omega)) ?_)
  refine l_yes rfl rfl rfl (o_conv Try.underlying3 Try.underlying35 rfl (w_u64_i (by omega)) ?_)
  refine l_yes rfl rfl rfl (o_bin rfl rfl (fun _ => b_eqlB true (decide_eq_true hm)) ?_)
  refine l_op (o_pick rfl ?_)
  refine l_op (o_as ?_)
  first | refine l_end ?_ | refine l_nil ?_
  exact c_ret (e_ret1 (v := .bool true) Try.results7 rfl ⟨_, rfl, rfl, H.sub (List.nil_sublist _)⟩)
end Go.Proofs.Ytjmbbhnpfmblpaa
