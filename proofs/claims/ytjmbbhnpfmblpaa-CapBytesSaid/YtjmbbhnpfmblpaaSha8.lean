import Derived.Test.YtjmbbhnpfmblpaaSha7
/- layer 2: what stands ahead of each statement. -/
namespace Go.Proofs.Ytjmbbhnpfmblpaa
open Go
set_option maxRecDepth 100000
theorem fills (z : Value) (vs : List Value) (len : Nat) (h1 : ∀ v ∈ vs, v.oneCell' = true) (hl : vs.length = len) : Instr.fill (fun i => some (i * 1, 1)) ((Array.range (len * 1)).map (([z].toArray)[· % ([z].toArray).size]!)) (en 0 vs) = some vs.toArray := by
  have := fill_en (zs := ((Array.range (len * 1)).map (([z].toArray)[· % ([z].toArray).size]!)).toList) vs (by rw [List.all_toArray, List.all_eq_true]; exact h1) (by simp [hl])
  rwa [Array.toArray_toList] at this
theorem Hp.apart {w0 w : World} {S : List Nat} {L : List Ch} (H : Hp w0 w S L) {i j b b' o : Nat} {c c' : Ch} (hi : L[i]? = some c) (hj : L[j]? = some c') (hij : i ≠ j) (hk : c.key = some b) (hk' : c'.key = some b') : Apart (some ⟨b, o, none⟩) [b'] := by
  intro x hx
  cases hx
  simp only [List.mem_singleton]
  intro e
  have := pw_ne H.nd hi hj hij hk
  exact this (by rw [hk', e])
theorem ok_lit {w0 w : World} {S : List Nat} {L : List Ch} (H : Hp w0 w S L) {i b cap len : Nat} {l : List UInt8} {C : List Value} {e : TypeId} (hi : L[i]? = some (.obj b (litO C e))) (hC : C = l.map V8) (hl : l.length = len) (hc : len ≤ cap) (hm : len ≤ 9223372036854775807) : (⟨some ⟨b, 0, none⟩, len, cap, l⟩ : Sl).ok w :=
  ⟨by rw [← hC]; exact Ch.rd_lit (H.has _ (List.mem_of_getElem? hi)), hl, hc, hm⟩
theorem ok_blk {w0 w : World} {S : List Nat} {L : List Ch} (H : Hp w0 w S L) {i b cap len : Nat} {l : List UInt8} {C : List Value} {e : TypeId} (hi : L[i]? = some (.blk b C e)) (hC : C = l.map V8) (hl : l.length = len) (hc : len ≤ cap) (hm : len ≤ 9223372036854775807) : (⟨some ⟨b, 0, none⟩, len, cap, l⟩ : Sl).ok w :=
  ⟨by rw [← hC]; exact Ch.rd_all (H.has _ (List.mem_of_getElem? hi)), hl, hc, hm⟩
/-- the list of the parts of a hash, laid out. -/
theorem rd_parts {w0 w : World} {S : List Nat} {L : List Ch} (H : Hp w0 w S L) {i b : Nat} {C : List Value} {e : TypeId} (ps : List Sl) (hi : L[i]? = some (.blk b C e)) (hC : C = ps.map Sl.v) : RdS w (some ⟨b, 0, none⟩) (ps.map Sl.v) := by
  rw [← hC]; exact Ch.rd_all (H.has _ (List.mem_of_getElem? hi))
def abc : HS := absorb HS.init [97, 98, 99]
theorem abc_wt : abc.wt.length = 64 := absorb64 _
def abcD : List UInt8 := digest abc
theorem abcD_0 : (abcD.map V8)[0]? = some (V8 186) := by rw [List.getElem?_map, abcD, abc, abc_0]; rfl
theorem abcD_1 : (abcD.map V8)[1]? = some (V8 120) := by rw [List.getElem?_map, abcD, abc, abc_1]; rfl
theorem abcD_all : ((abcD.map V8).drop 0).take 32 = abcD.map V8 := by rw [List.drop_zero, List.take_of_length_le (by simp [abcD, digest_length])]
theorem abcD_len : abcD.length = 32 := digest_length _
theorem abc_m : abc.m = 3 := by rw [abc, absorb_m]; rfl
theorem abcD_eq : digest abc = abcD := rfl
theorem abc_eq : absorb HS.init [97, 98, 99] = abc := rfl
attribute [local irreducible] abc abcD digest absorb
theorem begun2_ret (w0 : World) : Ret Try.prog 31 [] w0 fun v w' => v = .bool true ∧ Hp w0 w' [] [] := by
  refine ret_mk Try.func31 rfl Try.ntmps31 (by simp) ?_
  have H := Hp.refl w0 []
  repeat refine c_seq ?_
  refine c_region ?_
  refine l_op (o_as ?_)
  first | refine l_end ?_ | refine l_nil ?_
  repeat refine c_seq ?_
  refine c_region ?_
  refine l_op (o_bsl H sl29 zc5 (by decide) rfl (by decide) (fills _ [V8 97] 1 (by simp [Value.oneCell', Sl.v]) rfl) (fun bA w H hbA => ?_))
  refine l_op (o_lit H (i := 0) rfl Try.underlying29 Try.underlying5 rfl (fun w H => ?_))
  refine l_op (o_bsl H sl29 zc5 (by decide) rfl (by decide) (fills _ [V8 98, V8 99] 2 (by simp [Value.oneCell', Sl.v]) rfl) (fun bB w H hbB => ?_))
  refine l_op (o_lit H (i := 1) rfl Try.underlying29 Try.underlying5 rfl (fun w H => ?_))
  refine l_op (o_bsl H sl22 zc29 (by decide) rfl (by decide) (fills _ [Sl.v ⟨some ⟨bA, 0, none⟩, 1, 1, [97]⟩, Sl.v ⟨some ⟨bB, 0, none⟩, 2, 2, [98, 99]⟩] 2 (by simp [Value.oneCell', Sl.v]) rfl) (fun bP w H hbP => ?_))
  refine l_op (o_callR Try.func37 rfl rfl rfl (of_ret _ _ 2 2 [⟨some ⟨bA, 0, none⟩, 1, 1, [97]⟩, ⟨some ⟨bB, 0, none⟩, 2, 2, [98, 99]⟩] (rd_parts H _ (i := 2) rfl rfl) rfl (by
      intro p hp
      simp only [List.mem_cons, List.not_mem_nil, or_false] at hp
      rcases hp with rfl | rfl
      · exact ok_lit H (i := 0) rfl rfl rfl (by decide) (by decide)
      · exact ok_lit H (i := 1) rfl rfl rfl (by decide) (by decide)) (by decide)) ?_)
  rintro _ w ⟨rfl, Hc⟩
  replace H := H.call Hc
  rw [List.append_nil] at H
  clear Hc
  have ec : ∀ bA bB, cat [⟨some ⟨bA, 0, none⟩, 1, 1, [97]⟩, ⟨some ⟨bB, 0, none⟩, 2, 2, [98, 99]⟩] = [97, 98, 99] := fun _ _ => rfl
  rw [ec, abc_eq, abcD_eq]
  refine l_op (o_alloc H zc31 (fun b1 w H hb1 => ?_))
  refine l_op (o_stw H (i := 3) rfl rfl rfl (by rw [cs31]; simp [abcD_len]) (by rw [List.all_toArray]; simp [Value.oneCell']) (by simp [abcD_len]) (fun w H => ?_))
  first | refine l_end ?_ | refine l_nil ?_
  replace H : Hp w0 w [] [.blk b1 (abcD.map V8) 31] := H.sub (.cons _ (.cons _ (.cons _ (List.Sublist.refl _))))
  repeat refine c_seq ?_
  refine c_region ?_
  refine l_op (o_callR Try.func34 rfl rfl rfl (new_ret _) ?_)
  rintro _ w ⟨hb, rfl, Hc⟩
  replace H := H.call Hc
  rw [initH] at H
  clear Hc
  refine l_op (o_as ?_)
  first | refine l_end ?_ | refine l_nil ?_
  repeat refine c_seq ?_
  refine c_region ?_
  refine l_op (o_mv ?_)
  refine l_op (o_bsl H sl29 zc5 (by decide) rfl (by decide) (fills _ [V8 97, V8 98, V8 99] 3 (by simp [Value.oneCell', Sl.v]) rfl) (fun bC w H hbC => ?_))
  refine l_op (o_lit H (i := 2) rfl Try.underlying29 Try.underlying5 rfl (fun w H => ?_))
  refine l_op (o_callR Try.func35 rfl rfl rfl (writeS (x := ⟨some ⟨bC, 0, none⟩, 3, 3, [97, 98, 99]⟩) H (i := 1) rfl rfl (ok_lit H (i := 2) rfl rfl rfl (by decide) (by decide)) (fun _ => H.apart (i := 2) (j := 1) rfl rfl (by decide) rfl rfl)) ?_)
  rintro _ w ⟨rfl, Hc⟩
  clear H
  have H := Hc; clear Hc
  first | refine l_end ?_ | refine l_nil ?_
  replace H : Hp w0 w [] [.blk b1 (abcD.map V8) 31, .blk hb (hashH abc) 52] := by
    rw [← abc_eq]; exact H.sub (List.sublist_append_left _ [_])
  repeat refine c_seq ?_
  refine wp_held (fun w => Hp w0 w [] [.blk b1 (abcD.map V8) 31, .blk hb (hashH abc) 52]) mixed ?_
  replace H := H.drew
  have HS : (fun w => Hp w0 w [] [.blk b1 (abcD.map V8) 31, .blk hb (hashH abc) 52]) _ := H
  refine t_take 0 rfl (by kernel_rfl) (by kernel_rfl) (by kernel_rfl) (fun _ _ _ h => h) (fun w HS => r_ia rfl rfl ar31 (by omega) (by omega)) HS ?_
  refine t_take 1 rfl (by kernel_rfl) (by kernel_rfl) (by kernel_rfl) (fun _ _ _ h => h)  (fun w HS => r_ld HS (i := 0) rfl rfl ct5 abcD_0) HS ?_
  refine t_take 2 rfl (by kernel_rfl) (by kernel_rfl) (by kernel_rfl) (fun _ _ _ h => h) (fun w HS => r_bin rfl rfl (fun _ => b_eql)) HS ?_
  refine t_take 3 rfl (by kernel_rfl) (by kernel_rfl) (by kernel_rfl) (fun _ _ _ h => h) (fun w HS => r_mv) HS ?_
  refine t_takeg 4 rfl (by kernel_rfl) (by kernel_rfl) (by kernel_rfl) (fun _ _ _ h => h) (yielded_mk _ _ _ rfl _ rfl rfl) (fun w HS => r_ia rfl rfl ar31 (by omega) (by omega)) HS ?_
  refine t_takeg 5 rfl (by kernel_rfl) (by kernel_rfl) (by kernel_rfl) (fun _ _ _ h => h) (yielded_mk _ _ _ rfl _ rfl rfl)  (fun w HS => r_ld HS (i := 0) rfl rfl ct5 abcD_1) HS ?_
  refine t_takeg 6 rfl (by kernel_rfl) (by kernel_rfl) (by kernel_rfl) (fun _ _ _ h => h) (yielded_mk _ _ _ rfl _ rfl rfl) (fun w HS => r_bin rfl rfl (fun _ => b_eql)) HS ?_
  refine t_take 7 rfl (by kernel_rfl) (by kernel_rfl) (by kernel_rfl) (fun _ _ _ h => h) (fun w HS => r_pick rfl) HS ?_
  refine t_take 8 rfl (by kernel_rfl) (by kernel_rfl) (by kernel_rfl) (fun _ _ _ h => h) (fun w HS => r_mv) HS ?_
  refine t_takeg 9 rfl (by kernel_rfl) (by kernel_rfl) (by kernel_rfl) (fun _ _ _ h => h) (yielded_mk _ _ _ rfl _ rfl rfl) (fun w HS => r_mv) HS ?_
  refine t_takeg 11 rfl (by kernel_rfl) (by kernel_rfl) (by kernel_rfl) (fun _ _ _ h => h) (yielded_mk _ _ _ rfl _ rfl rfl)  (fun w HS => r_ldr HS (i := 0) rfl rfl rt31 (by simp [abcD_len])) HS ?_
  rw [abcD_all]
  refine t_stepg 10 rfl (by kernel_rfl) (yielded_mk _ _ _ rfl _ rfl rfl) (o_callR Try.func38 rfl rfl rfl (sum_ret _ hb abc abc_wt (H.blk (i := 1) rfl)) ?_)
  rintro _ w ⟨rfl, Hc⟩
  replace H := H.call Hc
  rw [List.append_nil] at H
  rw [abcD_eq]
  refine ⟨H, ?_⟩
  replace HS : (fun w => Hp w0 w [] [.blk b1 (abcD.map V8) 31, .blk hb (hashH abc) 52]) _ := H
  refine t_takeg 12 rfl (by kernel_rfl) (by kernel_rfl) (by kernel_rfl) (fun _ _ _ h => h) (yielded_mk _ _ _ rfl _ rfl rfl)  (fun w HS => r_eqa Try.underlying31 Try.underlying5 cs5 rfl rfl abcD_len abcD_len) HS ?_
  rw [decide_eq_true (rfl : abcD = abcD)]
  refine t_take 13 rfl (by kernel_rfl) (by kernel_rfl) (by kernel_rfl) (fun _ _ _ h => h) (fun w HS => r_pick rfl) HS ?_
  refine t_take 14 rfl (by kernel_rfl) (by kernel_rfl) (by kernel_rfl) (fun _ _ _ h => h) (fun w HS => r_mv) HS ?_
  refine t_takeg 15 rfl (by kernel_rfl) (by kernel_rfl) (by kernel_rfl) (fun _ _ _ h => h) (yielded_mk _ _ _ rfl _ rfl rfl) (fun w HS => r_mv) HS ?_
  refine t_stepg 16 rfl (by kernel_rfl) (yielded_mk _ _ _ rfl _ rfl rfl) (o_callR Try.func39 rfl rfl rfl (len_ret _ hb abc abc_wt (H.blk (i := 1) rfl)) ?_)
  rintro _ w ⟨rfl, hw⟩
  rw [hw, abc_m]; clear hw w
  refine ⟨H, ?_⟩
  replace HS : (fun w => Hp w0 w [] [.blk b1 (abcD.map V8) 31, .blk hb (hashH abc) 52]) _ := H
  refine t_takeg 17 rfl (by kernel_rfl) (by kernel_rfl) (by kernel_rfl) (fun _ _ _ h => h) (yielded_mk _ _ _ rfl _ rfl rfl) (fun w HS => r_bin rfl rfl (fun _ => b_eql)) HS ?_
  refine t_take 18 rfl (by kernel_rfl) (by kernel_rfl) (by kernel_rfl) (fun _ _ _ h => h) (fun w HS => r_pick rfl) HS ?_
  refine t_take 19 rfl (by kernel_rfl) (by kernel_rfl) (by kernel_rfl) (fun _ _ _ h => h) (fun w HS => r_as) HS ?_
  refine t_done (by kernel_rfl) ?_
  clear HS
  exact c_ret (e_ret1 (v := .bool true) Try.results31 rfl ⟨_, rfl, rfl, H.sub (List.nil_sublist _)⟩)
end Go.Proofs.Ytjmbbhnpfmblpaa
