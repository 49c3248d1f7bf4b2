import Derived.Test.YtjmbbhnpfmblpaaTwin
/- layer 2: what was written may be written over behind it. -/
namespace Go.Proofs.Ytjmbbhnpfmblpaa
open Go
set_option maxRecDepth 100000
theorem cat2 (a b : Sl) : cat [a, b] = a.l ++ b.l := by simp [cat]
theorem tw_take (l : List UInt8) (j : Nat) : (tw l j).take l.length = l.map V8 := by
  unfold tw
  rw [List.take_append_of_le_length (by simp), List.take_of_length_le (by simp)]
theorem ok_twin {w0 w : World} {S : List Nat} {L : List Ch} (H : Hp w0 w S L) {i b len : Nat} {l : List UInt8} {T : TypeId} (hi : L[i]? = some (.blk b (tw l 3) T)) (hl : l.length = len) (hm : len ≤ 1048576) : (⟨some ⟨b, 0, none⟩, len, len + 3, l⟩ : Sl).ok w :=
  ⟨by have := (Ch.rd_all (H.has _ (List.mem_of_getElem? hi))).take l.length; rwa [tw_take] at this, hl, by simp, by simp only; omega⟩
attribute [local irreducible] digest absorb tw
set_option maxHeartbeats 400000 in
theorem shaKept_ret (w0 : World) (a b : Sl) (ha : a.ok w0) (hb : b.ok w0) : Ret Try.prog 5 [a.v, b.v] w0 fun v w' => v = .bool true ∧ Hp w0 w' [] [] := by
  refine ret_mk Try.func5 rfl Try.ntmps5 (by simp) ?_
  have H := Hp.refl w0 []
  repeat refine c_seq ?_
  refine c_region ?_
  refine l_op (o_as ?_)
  first | refine l_end ?_ | refine l_nil ?_
  repeat refine c_seq ?_
  refine c_region ?_
  refine l_op (o_callR Try.func31 rfl rfl rfl (begun2_ret _) ?_)
  rintro _ w ⟨rfl, Hc⟩
  replace H := H.call Hc
  rw [List.append_nil] at H
  clear Hc
  refine l_op (o_not rfl ?_)
  first | refine l_end ?_ | refine l_nil ?_
  repeat refine c_seq ?_
  refine c_no rfl ?_
  refine c_skip ?_
  by_cases h1 : (4096 : Int) < (a.len : Int)
  · skip
    repeat refine c_seq ?_
    refine c_region ?_
    refine l_op (o_mv ?_)
    refine l_op (o_lens el29 rfl ?_)
    refine l_op (o_bin rfl rfl (fun _ => b_gtrB true (decide_eq_true h1)) ?_)
    refine l_op (o_mv ?_)
    refine l_no rfl rfl rfl rfl ?_
    refine l_no rfl rfl rfl rfl ?_
    refine l_no rfl rfl rfl rfl ?_
    refine l_op (o_pick rfl ?_)
    first | refine l_end ?_ | refine l_nil ?_
    repeat refine c_seq ?_
    refine c_yes rfl ?_
    repeat refine c_seq ?_
    refine c_region ?_
    refine l_op (o_as ?_)
    first | refine l_end ?_ | refine l_nil ?_
    refine c_ret ?_
    try simp only [Exit.then]
    exact e_ret1 Try.results5 rfl ⟨_, rfl, rfl, H⟩
  by_cases h2 : (4096 : Int) < (b.len : Int)
  · skip
    repeat refine c_seq ?_
    refine c_region ?_
    refine l_op (o_mv ?_)
    refine l_op (o_lens el29 rfl ?_)
    refine l_op (o_bin rfl rfl (fun _ => b_gtrB false (decide_eq_false h1)) ?_)
    refine l_op (o_mv ?_)
    refine l_yes rfl rfl rfl (o_mv ?_)
    refine l_yes rfl rfl rfl (o_lens el29 rfl ?_)
    refine l_yes rfl rfl rfl (o_bin rfl rfl (fun _ => b_gtrB true (decide_eq_true h2)) ?_)
    refine l_op (o_pick rfl ?_)
    first | refine l_end ?_ | refine l_nil ?_
    repeat refine c_seq ?_
    refine c_yes rfl ?_
    repeat refine c_seq ?_
    refine c_region ?_
    refine l_op (o_as ?_)
    first | refine l_end ?_ | refine l_nil ?_
    refine c_ret ?_
    try simp only [Exit.then]
    exact e_ret1 Try.results5 rfl ⟨_, rfl, rfl, H⟩
  repeat refine c_seq ?_
  refine c_region ?_
  refine l_op (o_mv ?_)
  refine l_op (o_lens el29 rfl ?_)
  refine l_op (o_bin rfl rfl (fun _ => b_gtrB false (decide_eq_false h1)) ?_)
  refine l_op (o_mv ?_)
  refine l_yes rfl rfl rfl (o_mv ?_)
  refine l_yes rfl rfl rfl (o_lens el29 rfl ?_)
  refine l_yes rfl rfl rfl (o_bin rfl rfl (fun _ => b_gtrB false (decide_eq_false h2)) ?_)
  refine l_op (o_pick rfl ?_)
  first | refine l_end ?_ | refine l_nil ?_
  repeat refine c_seq ?_
  refine c_no rfl ?_
  refine c_skip ?_
  repeat refine c_seq ?_
  refine c_region ?_
  refine l_op (o_callR Try.func34 rfl rfl rfl (new_ret _) ?_)
  rintro _ w ⟨hx, rfl, Hc⟩
  replace H := H.call Hc
  rw [initH] at H
  clear Hc
  refine l_op (o_as ?_)
  first | refine l_end ?_ | refine l_nil ?_
  repeat refine c_seq ?_
  refine c_region ?_
  refine l_op (o_mv ?_)
  refine l_op (o_callR Try.func42 rfl rfl rfl (twin_ret _ a (ha.up H (fun _ => apart_nil _)) (by omega)) ?_)
  rintro _ w ⟨bt, rfl, Hc⟩
  replace H : Hp w0 w [] [.blk hx (hashH HS.init) 52, .blk bt (tw a.l 3) 5] := H.call Hc
  clear Hc
  refine l_op (o_as ?_)
  first | refine l_end ?_ | refine l_nil ?_
  have htl := tw_length a.l 3 (by omega)
  have hal := ha.ln
  repeat refine c_seq ?_
  refine c_region ?_
  refine l_op (o_mv ?_)
  refine l_op (o_mv ?_)
  refine l_op (o_callR Try.func35 rfl rfl rfl (writeS (x := ⟨some ⟨bt, 0, none⟩, a.len, a.len + 3, a.l⟩) H (i := 0) rfl rfl (ok_twin H (i := 1) rfl ha.ln (by omega)) (fun _ => H.apart (i := 1) (j := 0) rfl rfl (by decide) rfl rfl)) ?_)
  rintro _ w ⟨rfl, Hc⟩
  replace H : Hp w0 w [] [.blk hx (hashH (absorb HS.init a.l)) 52, .blk bt (tw a.l 3) 5] := Hc
  clear Hc
  first | refine l_end ?_ | refine l_nil ?_
  have hwa : (absorb HS.init a.l).wt.length = 64 := absorb64 _
  repeat refine c_seq ?_
  refine c_region ?_
  refine l_op (o_mv ?_)
  refine l_op (o_callR Try.func43 rfl rfl rfl (spoil_ret _ bt a.len (a.len + 3) (tw a.l 3) (H.blk (i := 1) rfl) (by omega) (by omega) (by omega)) ?_)
  rintro _ w ⟨rfl, Hc⟩
  replace H : Hp w0 w [] [.blk hx (hashH (absorb HS.init a.l)) 52, .blk bt (List.replicate (a.len + 3) (V8 90)) 5] := H.callAt (i := 1) rfl rfl rfl Hc
  clear Hc
  first | refine l_end ?_ | refine l_nil ?_
  repeat refine c_seq ?_
  refine c_region ?_
  refine l_op (o_mv ?_)
  refine l_op (o_mv ?_)
  refine l_op (o_callR Try.func35 rfl rfl rfl (writeS (x := b) H (i := 0) rfl hwa (hb.up H (fun _ => apart_nil _)) (hb.apart (H.newer (i := 0) rfl rfl))) ?_)
  rintro _ w ⟨rfl, Hc⟩
  rw [← absorb_append] at Hc
  replace H : Hp w0 w [] [.blk hx (hashH (absorb HS.init (a.l ++ b.l))) 52] := Hc.sub (List.sublist_append_left _ [_])
  clear Hc
  first | refine l_end ?_ | refine l_nil ?_
  obtain ⟨sx, hsx⟩ : ∃ sx, absorb HS.init (a.l ++ b.l) = sx := ⟨_, rfl⟩
  rw [hsx] at H
  have hwx : sx.wt.length = 64 := by rw [← hsx]; exact absorb64 _
  repeat refine c_seq ?_
  refine c_region ?_
  refine l_op (o_mv ?_)
  refine l_op (o_callR Try.func38 rfl rfl rfl (sum_ret _ hx sx hwx (H.blk (i := 0) rfl)) ?_)
  rintro _ w ⟨rfl, Hc⟩
  replace H := H.call Hc
  rw [List.append_nil] at H
  clear Hc
  refine l_op (o_mv ?_)
  refine l_op (o_mv ?_)
  refine l_op (o_bsl H sl22 zc29 (by decide) rfl (by decide) (fills _ [a.v, b.v] 2 (by simp [Value.oneCell', Sl.v]) rfl) (fun bP w H hbP => ?_))
  have hof := of_ret w (some ⟨bP, 0, none⟩) 2 2 [a, b] (rd_parts H _ (i := 1) rfl rfl) rfl (all2 (ha.up H (fun _ => apart_nil _)) (hb.up H (fun _ => apart_nil _))) (by decide)
  rw [cat2, hsx] at hof
  refine l_op (o_callR Try.func37 rfl rfl rfl hof ?_)
  rintro _ w ⟨rfl, Hc⟩
  replace H := H.call Hc
  rw [List.append_nil] at H
  clear Hc hof
  refine l_op (o_eqaT (digest sx) _ rfl Try.underlying31 Try.underlying5 cs5 rfl rfl (digest_length _) ?_)
  refine l_op (o_as ?_)
  first | refine l_end ?_ | refine l_nil ?_
  exact c_ret (e_ret1 (v := .bool true) Try.results5 rfl ⟨_, rfl, rfl, H.sub (List.nil_sublist _)⟩)
end Go.Proofs.Ytjmbbhnpfmblpaa
