import Derived.Test.YtjmbbhnpfmblpaaRef1
/- The document's hash: a block. -/
namespace Go.Proofs.Ytjmbbhnpfmblpaa
open Go
set_option maxRecDepth 100000
def padW (l : List UInt32) : List Value := l.map W64 ++ List.replicate (64 - l.length) (W64 0)
theorem padW_length (l : List UInt32) (h : l.length ≤ 64) : (padW l).length = 64 := by simp [padW]; omega
theorem padW_get (l : List UInt32) (j : Nat) (h : j < l.length) : (padW l)[j]? = some (W64 (l.getD j 0)) := by
  rw [padW, List.getElem?_append_left (by simpa using h)]
  simp [h]
theorem padW_set (l : List UInt32) (v : UInt32) (h : l.length < 64) : (padW l).set l.length (W64 v) = padW (l ++ [v]) := by
  unfold padW
  rw [List.set_append_right _ _ (by simp)]
  have : 64 - l.length = (64 - (l ++ [v]).length) + 1 := by simp; omega
  rw [this, List.replicate_succ]
  simp
theorem turnW_ret (w : World) (x : UInt32) (n : Nat) (h0 : 0 < n) (h : n < 32) : Ret Try.prog 138 [W64 x, VI n] w fun v w' => v = W64 (rotl x (32 - n)) ∧ w' = w :=
  (turn_ret w x.toUInt64 n (by omega)).mono fun v w' ⟨hv, hw⟩ => ⟨by rw [hv, turn64_eq x n h0 h]; rfl, hw⟩
theorem downW_ret (w : World) (x : UInt32) (n : Nat) (h : n < 32) : Ret Try.prog 139 [W64 x, VI n] w fun v w' => v = W64 (x >>> UInt32.ofNat n) ∧ w' = w :=
  (down_ret w x.toUInt64 n (by omega)).mono fun v w' ⟨hv, hw⟩ => ⟨by rw [hv, down64_eq x n h]; rfl, hw⟩
section
variable {P : Program} {t : TypeId} {w : World}
theorem b_xorW {x y : UInt32} : (binOp .xor t (W64 x) (W64 y)).run P w = .ok (W64 (x ^^^ y)) w := by
  have := b_xor_u64 (P := P) (t := t) (w := w) (x := x.toUInt64) (y := y.toUInt64)
  rw [W64, W64, this, W64, UInt32.toUInt64_xor]
theorem b_andW {x y : UInt32} : (binOp .and t (W64 x) (W64 y)).run P w = .ok (W64 (x &&& y)) w := by
  have := b_and_u64 (P := P) (t := t) (w := w) (x := x.toUInt64) (y := y.toUInt64)
  rw [W64, W64, this, W64, UInt32.toUInt64_and]
theorem b_notW {x : UInt32} : (binOp .sub t (V64 4294967295) (W64 x)).run P w = .ok (W64 (~~~ x)) w := by
  have := b_sub_u64 (P := P) (t := t) (w := w) (x := 4294967295) (y := x.toUInt64)
  have e : (4294967295 : UInt64) - x.toUInt64 = (~~~ x).toUInt64 := by
    apply UInt64.toNat_inj.1
    have hx := x.toNat_lt
    rw [UInt64.toNat_sub, UInt32.toNat_toUInt64, UInt32.toNat_toUInt64, UInt32.toNat_not]
    have : (4294967295 : UInt64).toNat = 4294967295 := rfl
    rw [this]
    have : UInt32.size = 4294967296 := rfl
    omega
  rw [W64, this, W64, e]
theorem b_maskW {u : UInt64} (x : UInt32) (h : u.toUInt32 = x) : (binOp .and t (V64 u) (V64 4294967295)).run P w = .ok (W64 x) w := by
  have := b_and_u64 (P := P) (t := t) (w := w) (x := u) (y := 4294967295)
  rw [this, and_all, h, W64]
end
theorem all_W64 (l : List UInt32) : (l.map W64).toArray.all (·.oneCell') = true := by
  rw [List.all_toArray]; simp [Value.oneCell', W64]
theorem red (x : UInt32) : x.toUInt64.toUInt32 = x := UInt32.toUInt32_toUInt64 x
attribute [local irreducible] rnds
set_option maxHeartbeats 4000000 in
theorem block_ret (w0 : World) (st : S8) (bs : List UInt8) : Ret Try.prog 107 [.agg (st.l.map W64).toArray, .agg (padW (firsts bs 16)).toArray, .agg (primeWords.map W64).toArray] w0 fun v w' => v = .agg ((comp st bs).l.map W64).toArray ∧ Hp w0 w' [] [] := by
  refine ret_mk Try.func107 rfl Try.ntmps107 (by simp) ?_
  have H := Hp.refl w0 []
  repeat refine c_seq ?_
  refine c_region ?_
  refine l_op (o_box H rfl (fun b3 w H hb3 => ?_))
  refine l_op (o_box H rfl (fun b4 w H hb4 => ?_))
  refine l_op (o_box H rfl (fun b5 w H hb5 => ?_))
  refine l_op (o_alloc H zc121 (fun b6 w H hb6 => ?_))
  first | refine l_end ?_ | refine l_nil ?_
  replace H : Hp w0 w [] [.blk b3 (st.l.map W64) 121, .blk b4 (padW (sched bs 0)) 119, .blk b5 (primeWords.map W64) 119, .blk b6 (List.replicate 8 (Value.int .u64 0)) 121] := H
  repeat refine c_seq ?_
  refine c_region ?_
  refine l_op (o_as ?_)
  first | refine l_end ?_ | refine l_nil ?_
  repeat refine c_seq ?_
  refine c_block ?_
  refine c_loop (ι := Nat) (fun k => [(7, VI ((16 + k : Nat) : Int)), (3, .pointer (some ⟨b3, 0, none⟩)), (4, .pointer (some ⟨b4, 0, none⟩)), (5, .pointer (some ⟨b5, 0, none⟩)), (6, .pointer (some ⟨b6, 0, none⟩))])
    (fun k w => k ≤ 48 ∧ Hp w0 w [] [.blk b3 (st.l.map W64) 121, .blk b4 (padW (sched bs k)) 119, .blk b5 (primeWords.map W64) 119, .blk b6 (List.replicate 8 (Value.int .u64 0)) 121])
    (fun k => 48 - k) 0 ⟨rfl, rfl, rfl, rfl, rfl, trivial⟩ ⟨by omega, H⟩ ?_
  clear H
  rintro k τ w ⟨hk, H⟩
  have hsl := sched_length bs k
  repeat refine c_seq ?_
  refine c_region ?_
  refine l_op (o_mv ?_)
  refine l_op (o_bin rfl rfl (fun _ => b_lss) ?_)
  first | refine l_end ?_ | refine l_nil ?_
  repeat refine c_seq ?_
  refine c_ifD rfl (fun hlt => ?_) (fun hlt => ?_)
  · have hlt' : k < 48 := by omega
    have hg : ∀ j, j < 16 + k → (padW (sched bs k))[j]? = some (W64 ((sched bs k).getD j 0)) := fun j hj => padW_get _ _ (by omega)
    have x0 : 0 + (((16 + k : Nat) : Int) - 16).toNat * 1 = 16 + k - 16 := by omega
    have x1 : 0 + (((16 + k : Nat) : Int) - 15).toNat * 1 = 16 + k - 15 := by omega
    have x2 : 0 + (((16 + k : Nat) : Int) - 2).toNat * 1 = 16 + k - 2 := by omega
    have x3 : 0 + (((16 + k : Nat) : Int) - 7).toNat * 1 = 16 + k - 7 := by omega
    generalize hA : (sched bs k).getD (16 + k - 16) 0 = xa
    generalize hB : (sched bs k).getD (16 + k - 15) 0 = xb
    generalize hC : (sched bs k).getD (16 + k - 2) 0 = xc
    generalize hD : (sched bs k).getD (16 + k - 7) 0 = xd
    have hnx : nextWord (sched bs k) = ((xa + sg0 xb) + xd) + sg1 xc := by rw [nextWord, hsl, hA, hB, hC, hD]
    refine c_skip ?_
    repeat refine c_seq ?_
    refine c_block ?_
    repeat refine c_seq ?_
    refine c_still mixed (by kernel_rfl) ?_
    replace H := H.drew
    refine s_op (r_mv) ?_
    refine s_op (r_bin rfl rfl (fun _ => b_sub (by omega) (by omega))) ?_
    refine s_op (r_ia rfl rfl ar119 (by omega) (by omega)) ?_
    refine s_op (r_ld H (v := W64 xb) (i := 1) rfl rfl ct35 (by rw [x1, hg _ (by omega), hB])) ?_
    refine s_op (r_mv) ?_
    refine s_op (r_bin rfl rfl (fun _ => b_sub (by omega) (by omega))) ?_
    refine s_op (r_ia rfl rfl ar119 (by omega) (by omega)) ?_
    refine s_op (r_ld H (v := W64 xc) (i := 1) rfl rfl ct35 (by rw [x2, hg _ (by omega), hC])) ?_
    refine s_op (r_as) ?_
    refine s_op (r_as) ?_
    refine s_nil ?_
    repeat refine c_seq ?_
    refine c_region ?_
    refine l_op (o_mv ?_)
    refine l_op (o_callR Try.func138 rfl rfl rfl (turnW_ret _ _ 7 (by decide) (by decide)) ?_)
    rintro _ w' ⟨rfl, hw⟩
    rw [hw]; clear hw w'
    refine l_op (o_mv ?_)
    refine l_op (o_callR Try.func138 rfl rfl rfl (turnW_ret _ _ 18 (by decide) (by decide)) ?_)
    rintro _ w' ⟨rfl, hw⟩
    rw [hw]; clear hw w'
    refine l_op (o_bin rfl rfl (fun _ => b_xorW) ?_)
    refine l_op (o_mv ?_)
    refine l_op (o_callR Try.func139 rfl rfl rfl (downW_ret _ _ 3 (by decide)) ?_)
    rintro _ w' ⟨rfl, hw⟩
    rw [hw]; clear hw w'
    refine l_op (o_bin (v := W64 (sg0 xb)) rfl rfl (fun _ => b_xorW) ?_)
    refine l_op (o_as ?_)
    first | refine l_end ?_ | refine l_nil ?_
    repeat refine c_seq ?_
    refine c_region ?_
    refine l_op (o_mv ?_)
    refine l_op (o_callR Try.func138 rfl rfl rfl (turnW_ret _ _ 17 (by decide) (by decide)) ?_)
    rintro _ w' ⟨rfl, hw⟩
    rw [hw]; clear hw w'
    refine l_op (o_mv ?_)
    refine l_op (o_callR Try.func138 rfl rfl rfl (turnW_ret _ _ 19 (by decide) (by decide)) ?_)
    rintro _ w' ⟨rfl, hw⟩
    rw [hw]; clear hw w'
    refine l_op (o_bin rfl rfl (fun _ => b_xorW) ?_)
    refine l_op (o_mv ?_)
    refine l_op (o_callR Try.func139 rfl rfl rfl (downW_ret _ _ 10 (by decide)) ?_)
    rintro _ w' ⟨rfl, hw⟩
    rw [hw]; clear hw w'
    refine l_op (o_bin (v := W64 (sg1 xc)) rfl rfl (fun _ => b_xorW) ?_)
    refine l_op (o_as ?_)
    first | refine l_end ?_ | refine l_nil ?_
    repeat refine c_seq ?_
    refine c_tail 15 mixed (by kernel_rfl) ?_
    replace H := H.drew
    refine s_op (r_mv) ?_
    refine s_op (r_mv) ?_
    refine s_op (r_bin rfl rfl (fun _ => b_sub (by omega) (by omega))) ?_
    refine s_op (r_ia rfl rfl ar119 (by omega) (by omega)) ?_
    refine s_op (r_ld H (v := W64 xa) (i := 1) rfl rfl ct35 (by rw [x0, hg _ (by omega), hA])) ?_
    refine s_op (r_mv) ?_
    refine s_op (r_bin rfl rfl (fun _ => b_add_u64)) ?_
    refine s_op (r_mv) ?_
    refine s_op (r_bin rfl rfl (fun _ => b_sub (by omega) (by omega))) ?_
    refine s_op (r_ia rfl rfl ar119 (by omega) (by omega)) ?_
    refine s_op (r_ld H (v := W64 xd) (i := 1) rfl rfl ct35 (by rw [x3, hg _ (by omega), hD])) ?_
    refine s_op (r_bin rfl rfl (fun _ => b_add_u64)) ?_
    refine s_op (r_mv) ?_
    refine s_op (r_bin rfl rfl (fun _ => b_add_u64)) ?_
    refine s_op (r_bin (v := W64 (nextWord (sched bs k))) rfl (c64 4294967295 (by decide)) (fun _ => b_maskW _ (by rw [hnx]; simp only [UInt64.toUInt32_add, red]))) ?_
    refine s_nil ?_
    refine l_op (o_ia rfl rfl ar119 (by omega) (by omega) ?_)
    refine l_op (o_st H (i := 1) (v := W64 (nextWord (sched bs k))) rfl rfl rfl cs35 rfl (by rw [padW_length _ (by omega)]; omega) (fun w H => ?_))
    first | refine l_end ?_ | refine l_nil ?_
    have e : (padW (sched bs k)).set (0 + ((16 + k : Nat) : Int).toNat * 1) (W64 (nextWord (sched bs k))) = padW (sched bs (k + 1)) := by
      rw [sched, ← padW_set _ _ (by omega), hsl]; congr 1; omega
    rw [e] at H
    repeat refine c_seq ?_
    refine c_region ?_
    refine l_op (o_mv ?_)
    refine l_op (o_bin rfl rfl (fun _ => b_add (by omega) (by omega)) ?_)
    refine l_op (o_as ?_)
    first | refine l_end ?_ | refine l_nil ?_
    refine round_end (k + 1) ?_ ?_ ?_
    · exact ⟨rfl, rfl, rfl, rfl, rfl, trivial⟩
    · exact ⟨by omega, H⟩
    · show 48 - (k + 1) < 48 - k; omega
  · have hk48 : k = 48 := by omega
    subst hk48
    clear hlt hk hsl
    have hcomp : comp st bs = addS st (rnds (sched bs 48) st 64) := rfl
    rw [hcomp]
    have hsl := sched_length bs 48
    obtain ⟨sc, hsc⟩ : ∃ sc, sched bs 48 = sc := ⟨_, rfl⟩
    rw [hsc] at H hsl ⊢
    clear hsc hcomp
    have hpw : primeWords.length = 64 := rfl
    have hpad : padW sc = sc.map W64 := by simp [padW, hsl]
    rw [hpad] at H
    have g1 : ∀ j, j < 64 → (primeWords.map W64)[j]? = some (W64 (primeWords.getD j 0)) := fun j hj => by simp [show j < primeWords.length by omega]
    have g2 : ∀ j, j < 64 → (sc.map W64)[j]? = some (W64 (sc.getD j 0)) := fun j hj => by simp [show j < sc.length by omega]
    refine c_exit ?_
    repeat refine c_seq ?_
    refine c_region ?_
    refine l_op (o_ldr H (i := 0) rfl rfl rt121 (Nat.le_refl 8) ?_)
    refine l_op (o_alloc H zc121 (fun b12 w H hb12 => ?_))
    refine l_op (o_stw H (i := 4) rfl rfl rfl (by rw [cs121]; rfl) (all_W64 st.l) (by rfl) (fun w H => ?_))
    first | refine l_end ?_ | refine l_nil ?_
    repeat refine c_seq ?_
    refine c_region ?_
    refine l_op (o_as ?_)
    first | refine l_end ?_ | refine l_nil ?_
    repeat refine c_seq ?_
    refine c_block ?_
    refine c_loop (ι := Nat) (fun i => [(13, VI i), (3, .pointer (some ⟨b3, 0, none⟩)), (4, .pointer (some ⟨b4, 0, none⟩)), (5, .pointer (some ⟨b5, 0, none⟩)), (6, .pointer (some ⟨b6, 0, none⟩)), (12, .pointer (some ⟨b12, 0, none⟩))])
      (fun i w => i ≤ 64 ∧ Hp w0 w [] [.blk b3 (st.l.map W64) 121, .blk b4 (sc.map W64) 119, .blk b5 (primeWords.map W64) 119, .blk b6 (List.replicate 8 (Value.int .u64 0)) 121, .blk b12 ((rnds sc st i).l.map W64) 121])
      (fun i => 64 - i) 0 ⟨rfl, rfl, rfl, rfl, rfl, rfl, trivial⟩ ⟨by omega, by rw [rnds]; exact H⟩ ?_
    clear H
    rintro i τ w ⟨hi, H⟩
    repeat refine c_seq ?_
    refine c_region ?_
    refine l_op (o_mv ?_)
    refine l_op (o_bin rfl rfl (fun _ => b_lss) ?_)
    first | refine l_end ?_ | refine l_nil ?_
    repeat refine c_seq ?_
    refine c_ifD rfl (fun hlt => ?_) (fun hlt => ?_)
    · have hlt' : i < 64 := by omega
      have x1 : 0 + (i : Int).toNat * 1 = i := by omega
      have e9 := rnds.eq_2 sc st i
      generalize rnds sc st i = r at H e9
      generalize hkk : primeWords.getD i 0 = kk at e9
      generalize hww : sc.getD i 0 = ww at e9
      refine c_skip ?_
      repeat refine c_seq ?_
      refine c_block ?_
      repeat refine c_seq ?_
      refine c_still mixed (by kernel_rfl) ?_
      replace H := H.drew
      refine s_op (r_ia rfl rfl ar121 (by omega) (by omega)) ?_
      refine s_op (r_ld H (i := 4) rfl rfl ct35 rfl) ?_
      refine s_op (r_ia rfl rfl ar121 (by omega) (by omega)) ?_
      refine s_op (r_ld H (i := 4) rfl rfl ct35 rfl) ?_
      refine s_op (r_as) ?_
      refine s_op (r_as) ?_
      refine s_nil ?_
      repeat refine c_seq ?_
      refine c_region ?_
      refine l_op (o_mv ?_)
      refine l_op (o_callR Try.func138 rfl rfl rfl (turnW_ret _ _ 6 (by decide) (by decide)) ?_)
      rintro _ w' ⟨rfl, hw⟩
      rw [hw]; clear hw w'
      refine l_op (o_mv ?_)
      refine l_op (o_callR Try.func138 rfl rfl rfl (turnW_ret _ _ 11 (by decide) (by decide)) ?_)
      rintro _ w' ⟨rfl, hw⟩
      rw [hw]; clear hw w'
      refine l_op (o_bin rfl rfl (fun _ => b_xorW) ?_)
      refine l_op (o_mv ?_)
      refine l_op (o_callR Try.func138 rfl rfl rfl (turnW_ret _ _ 25 (by decide) (by decide)) ?_)
      rintro _ w' ⟨rfl, hw⟩
      rw [hw]; clear hw w'
      refine l_op (o_bin rfl rfl (fun _ => b_xorW) ?_)
      refine l_op (o_as ?_)
      first | refine l_end ?_ | refine l_nil ?_
      repeat refine c_seq ?_
      refine c_region ?_
      refine l_op (o_mv ?_)
      refine l_op (o_ia rfl rfl ar121 (by omega) (by omega) ?_)
      refine l_op (o_ld H (i := 4) rfl rfl ct35 rfl ?_)
      refine l_op (o_bin rfl rfl (fun _ => b_andW) ?_)
      refine l_op (o_mv ?_)
      refine l_op (o_bin (c64 4294967295 (by decide)) rfl (fun _ => b_notW) ?_)
      refine l_op (o_ia rfl rfl ar121 (by omega) (by omega) ?_)
      refine l_op (o_ld H (i := 4) rfl rfl ct35 rfl ?_)
      refine l_op (o_bin rfl rfl (fun _ => b_andW) ?_)
      refine l_op (o_bin rfl rfl (fun _ => b_xorW) ?_)
      refine l_op (o_as ?_)
      first | refine l_end ?_ | refine l_nil ?_
      repeat refine c_seq ?_
      refine c_still mixed (by kernel_rfl) ?_
      replace H := H.drew
      refine s_op (r_ia rfl rfl ar121 (by omega) (by omega)) ?_
      refine s_op (r_ld H (i := 4) rfl rfl ct35 rfl) ?_
      refine s_op (r_mv) ?_
      refine s_op (r_bin rfl rfl (fun _ => b_add_u64)) ?_
      refine s_op (r_mv) ?_
      refine s_op (r_bin rfl rfl (fun _ => b_add_u64)) ?_
      refine s_op (r_mv) ?_
      refine s_op (r_ia rfl rfl ar119 (by omega) (by omega)) ?_
      refine s_op (r_ld H (v := W64 kk) (i := 2) rfl rfl ct35 (by rw [x1, g1 i hlt', hkk])) ?_
      refine s_op (r_bin rfl rfl (fun _ => b_add_u64)) ?_
      refine s_op (r_mv) ?_
      refine s_op (r_ia rfl rfl ar119 (by omega) (by omega)) ?_
      refine s_op (r_ld H (v := W64 ww) (i := 1) rfl rfl ct35 (by rw [x1, g2 i hlt', hww])) ?_
      refine s_op (r_bin rfl rfl (fun _ => b_add_u64)) ?_
      refine s_op (r_as) ?_
      refine s_nil ?_
      repeat refine c_seq ?_
      refine c_region ?_
      refine l_op (o_mv ?_)
      refine l_op (o_callR Try.func138 rfl rfl rfl (turnW_ret _ _ 2 (by decide) (by decide)) ?_)
      rintro _ w' ⟨rfl, hw⟩
      rw [hw]; clear hw w'
      refine l_op (o_mv ?_)
      refine l_op (o_callR Try.func138 rfl rfl rfl (turnW_ret _ _ 13 (by decide) (by decide)) ?_)
      rintro _ w' ⟨rfl, hw⟩
      rw [hw]; clear hw w'
      refine l_op (o_bin rfl rfl (fun _ => b_xorW) ?_)
      refine l_op (o_mv ?_)
      refine l_op (o_callR Try.func138 rfl rfl rfl (turnW_ret _ _ 22 (by decide) (by decide)) ?_)
      rintro _ w' ⟨rfl, hw⟩
      rw [hw]; clear hw w'
      refine l_op (o_bin rfl rfl (fun _ => b_xorW) ?_)
      refine l_op (o_as ?_)
      first | refine l_end ?_ | refine l_nil ?_
      repeat refine c_seq ?_
      refine c_region ?_
      refine l_op (o_mv ?_)
      refine l_op (o_ia rfl rfl ar121 (by omega) (by omega) ?_)
      refine l_op (o_ld H (i := 4) rfl rfl ct35 rfl ?_)
      refine l_op (o_bin rfl rfl (fun _ => b_andW) ?_)
      refine l_op (o_mv ?_)
      refine l_op (o_ia rfl rfl ar121 (by omega) (by omega) ?_)
      refine l_op (o_ld H (i := 4) rfl rfl ct35 rfl ?_)
      refine l_op (o_bin rfl rfl (fun _ => b_andW) ?_)
      refine l_op (o_bin rfl rfl (fun _ => b_xorW) ?_)
      refine l_op (o_ia rfl rfl ar121 (by omega) (by omega) ?_)
      refine l_op (o_ld H (i := 4) rfl rfl ct35 rfl ?_)
      refine l_op (o_ia rfl rfl ar121 (by omega) (by omega) ?_)
      refine l_op (o_ld H (i := 4) rfl rfl ct35 rfl ?_)
      refine l_op (o_bin rfl rfl (fun _ => b_andW) ?_)
      refine l_op (o_bin rfl rfl (fun _ => b_xorW) ?_)
      refine l_op (o_as ?_)
      first | refine l_end ?_ | refine l_nil ?_
      repeat refine c_seq ?_
      refine c_region ?_
      refine l_op (o_mv ?_)
      refine l_op (o_mv ?_)
      refine l_op (o_bin rfl rfl (fun _ => b_add_u64) ?_)
      refine l_op (o_mv ?_)
      refine l_op (o_bin rfl rfl (fun _ => b_add_u64) ?_)
      refine l_op (o_bin (v := W64 (rnd r kk ww).a) rfl (c64 4294967295 (by decide)) (fun _ => b_maskW _ (by simp only [UInt64.toUInt32_add, red]; exact UInt32.add_assoc _ _ _)) ?_)
      refine l_op (o_ia rfl rfl ar121 (by omega) (by omega) ?_)
      refine l_op (o_ld H (i := 4) rfl rfl ct35 rfl ?_)
      refine l_op (o_ia rfl rfl ar121 (by omega) (by omega) ?_)
      refine l_op (o_ld H (i := 4) rfl rfl ct35 rfl ?_)
      refine l_op (o_ia rfl rfl ar121 (by omega) (by omega) ?_)
      refine l_op (o_ld H (i := 4) rfl rfl ct35 rfl ?_)
      refine l_op (o_ia rfl rfl ar121 (by omega) (by omega) ?_)
      refine l_op (o_ld H (i := 4) rfl rfl ct35 rfl ?_)
      refine l_op (o_mv ?_)
      refine l_op (o_bin rfl rfl (fun _ => b_add_u64) ?_)
      refine l_op (o_bin (v := W64 (rnd r kk ww).e) rfl (c64 4294967295 (by decide)) (fun _ => b_maskW _ (by simp only [UInt64.toUInt32_add, red]; rfl)) ?_)
      refine l_op (o_ia rfl rfl ar121 (by omega) (by omega) ?_)
      refine l_op (o_ld H (i := 4) rfl rfl ct35 rfl ?_)
      refine l_op (o_ia rfl rfl ar121 (by omega) (by omega) ?_)
      refine l_op (o_ld H (i := 4) rfl rfl ct35 rfl ?_)
      refine l_op (o_ia rfl rfl ar121 (by omega) (by omega) ?_)
      refine l_op (o_ld H (i := 4) rfl rfl ct35 rfl ?_)
      refine l_op (o_bld' (pv := en 0 ((rnd r kk ww).l.map W64)) bd121 rfl (fill_en _ (all_W64 _) rfl) ?_)
      refine l_op (o_stw H (i := 4) rfl rfl rfl (by rw [cs121]; rfl) (all_W64 _) (by rfl) (fun w H => ?_))
      first | refine l_end ?_ | refine l_nil ?_
      repeat refine c_seq ?_
      refine c_region ?_
      refine l_op (o_mv ?_)
      refine l_op (o_bin rfl rfl (fun _ => b_add (by omega) (by omega)) ?_)
      refine l_op (o_as ?_)
      first | refine l_end ?_ | refine l_nil ?_
      refine round_end (i + 1) ?_ ?_ ?_
      · exact ⟨rfl, rfl, rfl, rfl, rfl, rfl, trivial⟩
      · exact ⟨hlt', by rw [e9]; exact H⟩
      · show 64 - (i + 1) < 64 - i; omega
    · have hi64 : i = 64 := by omega
      subst hi64
      clear hlt hi
      obtain ⟨rr, hrr⟩ : ∃ rr, rnds sc st 64 = rr := ⟨_, rfl⟩
      rw [hrr] at H ⊢
      clear hrr
      refine c_exit ?_
      repeat refine c_seq ?_
      refine c_region ?_
      refine l_op (o_as ?_)
      first | refine l_end ?_ | refine l_nil ?_
      repeat refine c_seq ?_
      refine c_block ?_
      refine c_loop (ι := Nat) (fun i => [(21, VI i), (3, .pointer (some ⟨b3, 0, none⟩)), (6, .pointer (some ⟨b6, 0, none⟩)), (12, .pointer (some ⟨b12, 0, none⟩))])
        (fun i w => i ≤ 8 ∧ Hp w0 w [] [.blk b3 ((parts (addS st rr).l st.l i).map W64) 121, .blk b4 (sc.map W64) 119, .blk b5 (primeWords.map W64) 119, .blk b6 (List.replicate 8 (Value.int .u64 0)) 121, .blk b12 (rr.l.map W64) 121])
        (fun i => 8 - i) 0 ⟨rfl, rfl, rfl, rfl, trivial⟩ ⟨by omega, H⟩ ?_
      clear H
      rintro i τ w ⟨hi, H⟩
      repeat refine c_seq ?_
      refine c_region ?_
      refine l_op (o_mv ?_)
      refine l_op (o_bin rfl rfl (fun _ => b_lss) ?_)
      first | refine l_end ?_ | refine l_nil ?_
      repeat refine c_seq ?_
      refine c_ifD rfl (fun hlt => ?_) (fun hlt => ?_)
      · have hlt' : i < 8 := by omega
        have h8 : (addS st rr).l.length = 8 := rfl
        have h8' : st.l.length = 8 := rfl
        have hpl8 : (parts (addS st rr).l st.l i).length = 8 := parts_length _ _ i rfl (by omega)
        have x1 : 0 + (i : Int).toNat * 1 = i := by omega
        have g3 : ((parts (addS st rr).l st.l i).map W64)[i]? = some (W64 (st.l.getD i 0)) := by
          rw [← parts_get _ _ i (h8.trans h8'.symm) (by omega)]
          simp [show i < (parts (addS st rr).l st.l i).length by omega]
        have g4 : (rr.l.map W64)[i]? = some (W64 (rr.l.getD i 0)) := by
          have : i < rr.l.length := hlt'
          simp [this]
        refine c_skip ?_
        repeat refine c_seq ?_
        refine c_block ?_
        repeat refine c_seq ?_
        refine c_tail 9 mixed (by kernel_rfl) ?_
        replace H := H.drew
        refine s_op (r_mv) ?_
        refine s_op (r_mv) ?_
        refine s_op (r_ia rfl rfl ar121 (by omega) (by omega)) ?_
        refine s_op (r_ld H (i := 0) rfl rfl ct35 (by rw [x1]; exact g3)) ?_
        refine s_op (r_mv) ?_
        refine s_op (r_ia rfl rfl ar121 (by omega) (by omega)) ?_
        refine s_op (r_ld H (i := 4) rfl rfl ct35 (by rw [x1]; exact g4)) ?_
        refine s_op (r_bin rfl rfl (fun _ => b_add_u64)) ?_
        refine s_op (r_bin (v := W64 ((addS st rr).l.getD i 0)) rfl (c64 4294967295 (by decide)) (fun _ => b_maskW _ (by simp only [UInt64.toUInt32_add, red]; exact add_get _ _ i hlt'))) ?_
        refine s_nil ?_
        refine l_op (o_ia rfl rfl ar121 (by omega) (by omega) ?_)
        refine l_op (o_st H (i := 0) (v := W64 ((addS st rr).l.getD i 0)) rfl rfl rfl cs35 rfl (by rw [x1, List.length_map, hpl8]; exact hlt') (fun w H => ?_))
        first | refine l_end ?_ | refine l_nil ?_
        have e : ((parts (addS st rr).l st.l i).map W64).set (0 + (i : Int).toNat * 1) (W64 ((addS st rr).l.getD i 0)) = (parts (addS st rr).l st.l (i + 1)).map W64 := by
          rw [x1, ← List.map_set, parts_set _ _ i (h8.trans h8'.symm) (by omega)]
        rw [e] at H
        repeat refine c_seq ?_
        refine c_region ?_
        refine l_op (o_mv ?_)
        refine l_op (o_bin rfl rfl (fun _ => b_add (by omega) (by omega)) ?_)
        refine l_op (o_as ?_)
        first | refine l_end ?_ | refine l_nil ?_
        refine round_end (i + 1) ?_ ?_ ?_
        · exact ⟨rfl, rfl, rfl, rfl, trivial⟩
        · exact ⟨by omega, H⟩
        · show 8 - (i + 1) < 8 - i; omega
      · have hi8 : i = 8 := by omega
        subst hi8
        refine c_exit ?_
        repeat refine c_seq ?_
        refine c_region ?_
        refine l_op (o_ldr H (i := 0) rfl rfl rt121 (Nat.le_refl 8) ?_)
        refine l_op (o_stw H (i := 3) rfl rfl rfl (by rw [cs121]; rfl) (all_W64 (addS st rr).l) (by rfl) (fun w H => ?_))
        first | refine l_end ?_ | refine l_nil ?_
        refine c_ret (e_retc Try.results107 H (i := 3) rfl rfl rt121 (by rfl) ⟨_, rfl, rfl, ?_⟩)
        exact H.sub (List.nil_sublist _)
end Go.Proofs.Ytjmbbhnpfmblpaa
