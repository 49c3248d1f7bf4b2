/- Lemmas for the statement ReachAll, part 5: rules of operations, walks through functions, plain laws. -/
import Derived.Test.YtomjbabllcmodaaReachAllG4
namespace Go.Proofs.Ytomjbabllcmodaa
open Go
set_option maxRecDepth 100000
def padW (l : List UInt32) : List Value := l.map W64 ++ List.replicate (64 - l.length) (W64 0)
theorem padW_length (l : List UInt32) (h : l.length ≤ 64) : (padW l).length = 64 := by simp [padW]; omega
theorem padW_get (l : List UInt32) (j : Nat) (h : j < l.length) : (padW l)[j]? = some (W64 (l.getD j 0)) := by
  rw [padW, List.getElem?_append_left (by simpa using h)]
  simp [h]
theorem padW_set (l : List UInt32) (v : UInt32) (h : l.length < 64) : (padW l).set l.length (W64 v) = padW (l ++ [v]) := by
  unfold padW
  rw [List.set_append_right _ _ (by simp)]
  have : 64 - l.length = (64 - (l ++ [v]).length) + 1 := by simp; omega
  rw [this, List.replicate_succ]
  simp
theorem turnW_ret (w : World) (x : UInt32) (n : Nat) (h0 : 0 < n) (h : n < 32) : Ret Try.prog 66 [W64 x, VI n] w fun v w' => v = W64 (rotl x (32 - n)) ∧ w' = w :=
  (turn_ret w x.toUInt64 n (by omega)).mono fun v w' ⟨hv, hw⟩ => ⟨by rw [hv, turn64_eq x n h0 h]; rfl, hw⟩
theorem downW_ret (w : World) (x : UInt32) (n : Nat) (h : n < 32) : Ret Try.prog 67 [W64 x, VI n] w fun v w' => v = W64 (x >>> UInt32.ofNat n) ∧ w' = w :=
  (down_ret w x.toUInt64 n (by omega)).mono fun v w' ⟨hv, hw⟩ => ⟨by rw [hv, down64_eq x n h]; rfl, hw⟩
section
variable {P : Program} {t : TypeId} {w : World}
theorem b_xorW {x y : UInt32} : (binOp .xor t (W64 x) (W64 y)).run P w = .ok (W64 (x ^^^ y)) w := by
  have := b_xor_u64 (P := P) (t := t) (w := w) (x := x.toUInt64) (y := y.toUInt64)
  rw [W64, W64, this, W64, UInt32.toUInt64_xor]
theorem b_andW {x y : UInt32} : (binOp .and t (W64 x) (W64 y)).run P w = .ok (W64 (x &&& y)) w := by
  have := b_and_u64 (P := P) (t := t) (w := w) (x := x.toUInt64) (y := y.toUInt64)
  rw [W64, W64, this, W64, UInt32.toUInt64_and]
theorem b_notW {x : UInt32} : (binOp .sub t (V64 4294967295) (W64 x)).run P w = .ok (W64 (~~~ x)) w := by
  have := b_sub_u64 (P := P) (t := t) (w := w) (x := 4294967295) (y := x.toUInt64)
  have e : (4294967295 : UInt64) - x.toUInt64 = (~~~ x).toUInt64 := by
    apply UInt64.toNat_inj.1
    have hx := x.toNat_lt
    rw [UInt64.toNat_sub, UInt32.toNat_toUInt64, UInt32.toNat_toUInt64, UInt32.toNat_not]
    have : (4294967295 : UInt64).toNat = 4294967295 := rfl
    rw [this]
    have : UInt32.size = 4294967296 := rfl
    omega
  rw [W64, this, W64, e]
theorem b_maskW {u : UInt64} (x : UInt32) (h : u.toUInt32 = x) : (binOp .and t (V64 u) (V64 4294967295)).run P w = .ok (W64 x) w := by
  have := b_and_u64 (P := P) (t := t) (w := w) (x := u) (y := 4294967295)
  rw [this, and_all, h, W64]
end
theorem all_W64 (l : List UInt32) : (l.map W64).toArray.all (·.oneCell') = true := by
  rw [List.all_toArray]; simp [Value.oneCell', W64]
theorem red (x : UInt32) : x.toUInt64.toUInt32 = x := UInt32.toUInt32_toUInt64 x
attribute [local irreducible] rnds
set_option maxHeartbeats 4000000 in
theorem block_ret (w0 : World) (st : S8) (bs : List UInt8) : Ret Try.prog 53 [.agg (st.l.map W64).toArray, .agg (padW (firsts bs 16)).toArray, .agg (primeWords.map W64).toArray] w0 fun v w' => v = .agg ((comp st bs).l.map W64).toArray ∧ Hp w0 w' [] [] := by
  refine ret_mk Try.func53 rfl Try.ntmps53 (by simp) ?_
  have H := Hp.refl w0 []
  repeat refine c_seq ?_
  refine c_region ?_
  refine l_op (o_box H rfl (fun b3 w H hb3 => ?_))
  refine l_op (o_box H rfl (fun b4 w H hb4 => ?_))
  refine l_op (o_box H rfl (fun b5 w H hb5 => ?_))
  refine l_op (o_alloc H zc103 (fun b6 w H hb6 => ?_))
  first | refine l_end ?_ | refine l_nil ?_
  replace H : Hp w0 w [] [.blk b3 (st.l.map W64) 103, .blk b4 (padW (sched bs 0)) 101, .blk b5 (primeWords.map W64) 101, .blk b6 (List.replicate 8 (Value.int .u64 0)) 103] := H
  repeat refine c_seq ?_
  refine c_region ?_
  refine l_op (o_as ?_)
  first | refine l_end ?_ | refine l_nil ?_
  repeat refine c_seq ?_
  refine c_block ?_
  refine c_loop (ι := Nat) (fun k => [(7, VI ((16 + k : Nat) : Int)), (3, .pointer (some ⟨b3, 0, none⟩)), (4, .pointer (some ⟨b4, 0, none⟩)), (5, .pointer (some ⟨b5, 0, none⟩)), (6, .pointer (some ⟨b6, 0, none⟩))])
    (fun k w => k ≤ 48 ∧ Hp w0 w [] [.blk b3 (st.l.map W64) 103, .blk b4 (padW (sched bs k)) 101, .blk b5 (primeWords.map W64) 101, .blk b6 (List.replicate 8 (Value.int .u64 0)) 103])
    (fun k => 48 - k) 0 ⟨rfl, rfl, rfl, rfl, rfl, trivial⟩ ⟨by omega, H⟩ ?_
  clear H
  rintro k τ w ⟨hk, H⟩
  have hsl := sched_length bs k
  repeat refine c_seq ?_
  refine c_region ?_
  refine l_op (o_mv ?_)
  refine l_op (o_bin rfl rfl (fun _ => b_lss) ?_)
  first | refine l_end ?_ | refine l_nil ?_
  repeat refine c_seq ?_
  refine c_ifD rfl (fun hlt => ?_) (fun hlt => ?_)
  · have hlt' : k < 48 := by omega
    have hg : ∀ j, j < 16 + k → (padW (sched bs k))[j]? = some (W64 ((sched bs k).getD j 0)) := fun j hj => padW_get _ _ (by omega)
    have x0 : 0 + (((16 + k : Nat) : Int) - 16).toNat * 1 = 16 + k - 16 := by omega
    have x1 : 0 + (((16 + k : Nat) : Int) - 15).toNat * 1 = 16 + k - 15 := by omega
    have x2 : 0 + (((16 + k : Nat) : Int) - 2).toNat * 1 = 16 + k - 2 := by omega
    have x3 : 0 + (((16 + k : Nat) : Int) - 7).toNat * 1 = 16 + k - 7 := by omega
    generalize hA : (sched bs k).getD (16 + k - 16) 0 = xa
    generalize hB : (sched bs k).getD (16 + k - 15) 0 = xb
    generalize hC : (sched bs k).getD (16 + k - 2) 0 = xc
    generalize hD : (sched bs k).getD (16 + k - 7) 0 = xd
    have hnx : nextWord (sched bs k) = ((xa + sg0 xb) + xd) + sg1 xc := by rw [nextWord, hsl, hA, hB, hC, hD]
    refine c_skip ?_
    repeat refine c_seq ?_
    refine c_block ?_
    repeat refine c_seq ?_
    refine c_still mixed (by kernel_rfl) ?_
    replace H := H.drew
    refine s_op (r_mv) ?_
    refine s_op (r_bin rfl rfl (fun _ => b_sub (by omega) (by omega))) ?_
    refine s_op (r_ia rfl rfl ar101 (by omega) (by omega)) ?_
    refine s_op (r_ld H (v := W64 xb) (i := 1) rfl rfl ct91 (by rw [x1, hg _ (by omega), hB])) ?_
    refine s_op (r_mv) ?_
    refine s_op (r_bin rfl rfl (fun _ => b_sub (by omega) (by omega))) ?_
    refine s_op (r_ia rfl rfl ar101 (by omega) (by omega)) ?_
    refine s_op (r_ld H (v := W64 xc) (i := 1) rfl rfl ct91 (by rw [x2, hg _ (by omega), hC])) ?_
    refine s_op (r_as) ?_
    refine s_op (r_as) ?_
    refine s_nil ?_
    repeat refine c_seq ?_
    refine c_region ?_
    refine l_op (o_mv ?_)
    refine l_op (o_callR Try.func66 rfl rfl rfl (turnW_ret _ _ 7 (by decide) (by decide)) ?_)
    rintro _ w' ⟨rfl, hw⟩
    rw [hw]; clear hw w'
    refine l_op (o_mv ?_)
    refine l_op (o_callR Try.func66 rfl rfl rfl (turnW_ret _ _ 18 (by decide) (by decide)) ?_)
    rintro _ w' ⟨rfl, hw⟩
    rw [hw]; clear hw w'
    refine l_op (o_bin rfl rfl (fun _ => b_xorW) ?_)
    refine l_op (o_mv ?_)
    refine l_op (o_callR Try.func67 rfl rfl rfl (downW_ret _ _ 3 (by decide)) ?_)
    rintro _ w' ⟨rfl, hw⟩
    rw [hw]; clear hw w'
    refine l_op (o_bin (v := W64 (sg0 xb)) rfl rfl (fun _ => b_xorW) ?_)
    refine l_op (o_as ?_)
    first | refine l_end ?_ | refine l_nil ?_
    repeat refine c_seq ?_
    refine c_region ?_
    refine l_op (o_mv ?_)
    refine l_op (o_callR Try.func66 rfl rfl rfl (turnW_ret _ _ 17 (by decide) (by decide)) ?_)
    rintro _ w' ⟨rfl, hw⟩
    rw [hw]; clear hw w'
    refine l_op (o_mv ?_)
    refine l_op (o_callR Try.func66 rfl rfl rfl (turnW_ret _ _ 19 (by decide) (by decide)) ?_)
    rintro _ w' ⟨rfl, hw⟩
    rw [hw]; clear hw w'
    refine l_op (o_bin rfl rfl (fun _ => b_xorW) ?_)
    refine l_op (o_mv ?_)
    refine l_op (o_callR Try.func67 rfl rfl rfl (downW_ret _ _ 10 (by decide)) ?_)
    rintro _ w' ⟨rfl, hw⟩
    rw [hw]; clear hw w'
    refine l_op (o_bin (v := W64 (sg1 xc)) rfl rfl (fun _ => b_xorW) ?_)
    refine l_op (o_as ?_)
    first | refine l_end ?_ | refine l_nil ?_
    repeat refine c_seq ?_
    refine c_tail 15 mixed (by kernel_rfl) ?_
    replace H := H.drew
    refine s_op (r_mv) ?_
    refine s_op (r_mv) ?_
    refine s_op (r_bin rfl rfl (fun _ => b_sub (by omega) (by omega))) ?_
    refine s_op (r_ia rfl rfl ar101 (by omega) (by omega)) ?_
    refine s_op (r_ld H (v := W64 xa) (i := 1) rfl rfl ct91 (by rw [x0, hg _ (by omega), hA])) ?_
    refine s_op (r_mv) ?_
    refine s_op (r_bin rfl rfl (fun _ => b_add_u64)) ?_
    refine s_op (r_mv) ?_
    refine s_op (r_bin rfl rfl (fun _ => b_sub (by omega) (by omega))) ?_
    refine s_op (r_ia rfl rfl ar101 (by omega) (by omega)) ?_
    refine s_op (r_ld H (v := W64 xd) (i := 1) rfl rfl ct91 (by rw [x3, hg _ (by omega), hD])) ?_
    refine s_op (r_bin rfl rfl (fun _ => b_add_u64)) ?_
    refine s_op (r_mv) ?_
    refine s_op (r_bin rfl rfl (fun _ => b_add_u64)) ?_
    refine s_op (r_bin (v := W64 (nextWord (sched bs k))) rfl (c64 4294967295 (by decide)) (fun _ => b_maskW _ (by rw [hnx]; simp only [UInt64.toUInt32_add, red]))) ?_
    refine s_nil ?_
    refine l_op (o_ia rfl rfl ar101 (by omega) (by omega) ?_)
    refine l_op (o_st H (i := 1) (v := W64 (nextWord (sched bs k))) rfl rfl rfl cs91 rfl (by rw [padW_length _ (by omega)]; omega) (fun w H => ?_))
    first | refine l_end ?_ | refine l_nil ?_
    have e : (padW (sched bs k)).set (0 + ((16 + k : Nat) : Int).toNat * 1) (W64 (nextWord (sched bs k))) = padW (sched bs (k + 1)) := by
      rw [sched, ← padW_set _ _ (by omega), hsl]; congr 1; omega
    rw [e] at H
    repeat refine c_seq ?_
    refine c_region ?_
    refine l_op (o_mv ?_)
    refine l_op (o_bin rfl rfl (fun _ => b_add (by omega) (by omega)) ?_)
    refine l_op (o_as ?_)
    first | refine l_end ?_ | refine l_nil ?_
    refine round_end (k + 1) ?_ ?_ ?_
    · exact ⟨rfl, rfl, rfl, rfl, rfl, trivial⟩
    · exact ⟨by omega, H⟩
    · show 48 - (k + 1) < 48 - k; omega
  · have hk48 : k = 48 := by omega
    subst hk48
    clear hlt hk hsl
    have hcomp : comp st bs = addS st (rnds (sched bs 48) st 64) := rfl
    rw [hcomp]
    have hsl := sched_length bs 48
    obtain ⟨sc, hsc⟩ : ∃ sc, sched bs 48 = sc := ⟨_, rfl⟩
    rw [hsc] at H hsl ⊢
    clear hsc hcomp
    have hpw : primeWords.length = 64 := rfl
    have hpad : padW sc = sc.map W64 := by simp [padW, hsl]
    rw [hpad] at H
    have g1 : ∀ j, j < 64 → (primeWords.map W64)[j]? = some (W64 (primeWords.getD j 0)) := fun j hj => by simp [show j < primeWords.length by omega]
    have g2 : ∀ j, j < 64 → (sc.map W64)[j]? = some (W64 (sc.getD j 0)) := fun j hj => by simp [show j < sc.length by omega]
    refine c_exit ?_
    repeat refine c_seq ?_
    refine c_region ?_
    refine l_op (o_ldr H (i := 0) rfl rfl rt103 (Nat.le_refl 8) ?_)
    refine l_op (o_alloc H zc103 (fun b12 w H hb12 => ?_))
    refine l_op (o_stw H (i := 4) rfl rfl rfl (by rw [cs103]; rfl) (all_W64 st.l) (by rfl) (fun w H => ?_))
    first | refine l_end ?_ | refine l_nil ?_
    repeat refine c_seq ?_
    refine c_region ?_
    refine l_op (o_as ?_)
    first | refine l_end ?_ | refine l_nil ?_
    repeat refine c_seq ?_
    refine c_block ?_
    refine c_loop (ι := Nat) (fun i => [(13, VI i), (3, .pointer (some ⟨b3, 0, none⟩)), (4, .pointer (some ⟨b4, 0, none⟩)), (5, .pointer (some ⟨b5, 0, none⟩)), (6, .pointer (some ⟨b6, 0, none⟩)), (12, .pointer (some ⟨b12, 0, none⟩))])
      (fun i w => i ≤ 64 ∧ Hp w0 w [] [.blk b3 (st.l.map W64) 103, .blk b4 (sc.map W64) 101, .blk b5 (primeWords.map W64) 101, .blk b6 (List.replicate 8 (Value.int .u64 0)) 103, .blk b12 ((rnds sc st i).l.map W64) 103])
      (fun i => 64 - i) 0 ⟨rfl, rfl, rfl, rfl, rfl, rfl, trivial⟩ ⟨by omega, by rw [rnds]; exact H⟩ ?_
    clear H
    rintro i τ w ⟨hi, H⟩
    repeat refine c_seq ?_
    refine c_region ?_
    refine l_op (o_mv ?_)
    refine l_op (o_bin rfl rfl (fun _ => b_lss) ?_)
    first | refine l_end ?_ | refine l_nil ?_
    repeat refine c_seq ?_
    refine c_ifD rfl (fun hlt => ?_) (fun hlt => ?_)
    · have hlt' : i < 64 := by omega
      have x1 : 0 + (i : Int).toNat * 1 = i := by omega
      have e9 := rnds.eq_2 sc st i
      generalize rnds sc st i = r at H e9
      generalize hkk : primeWords.getD i 0 = kk at e9
      generalize hww : sc.getD i 0 = ww at e9
      refine c_skip ?_
      repeat refine c_seq ?_
      refine c_block ?_
      repeat refine c_seq ?_
      refine c_still mixed (by kernel_rfl) ?_
      replace H := H.drew
      refine s_op (r_ia rfl rfl ar103 (by omega) (by omega)) ?_
      refine s_op (r_ld H (i := 4) rfl rfl ct91 rfl) ?_
      refine s_op (r_ia rfl rfl ar103 (by omega) (by omega)) ?_
      refine s_op (r_ld H (i := 4) rfl rfl ct91 rfl) ?_
      refine s_op (r_as) ?_
      refine s_op (r_as) ?_
      refine s_nil ?_
      repeat refine c_seq ?_
      refine c_region ?_
      refine l_op (o_mv ?_)
      refine l_op (o_callR Try.func66 rfl rfl rfl (turnW_ret _ _ 6 (by decide) (by decide)) ?_)
      rintro _ w' ⟨rfl, hw⟩
      rw [hw]; clear hw w'
      refine l_op (o_mv ?_)
      refine l_op (o_callR Try.func66 rfl rfl rfl (turnW_ret _ _ 11 (by decide) (by decide)) ?_)
      rintro _ w' ⟨rfl, hw⟩
      rw [hw]; clear hw w'
      refine l_op (o_bin rfl rfl (fun _ => b_xorW) ?_)
      refine l_op (o_mv ?_)
      refine l_op (o_callR Try.func66 rfl rfl rfl (turnW_ret _ _ 25 (by decide) (by decide)) ?_)
      rintro _ w' ⟨rfl, hw⟩
      rw [hw]; clear hw w'
      refine l_op (o_bin rfl rfl (fun _ => b_xorW) ?_)
      refine l_op (o_as ?_)
      first | refine l_end ?_ | refine l_nil ?_
      repeat refine c_seq ?_
      refine c_region ?_
      refine l_op (o_mv ?_)
      refine l_op (o_ia rfl rfl ar103 (by omega) (by omega) ?_)
      refine l_op (o_ld H (i := 4) rfl rfl ct91 rfl ?_)
      refine l_op (o_bin rfl rfl (fun _ => b_andW) ?_)
      refine l_op (o_mv ?_)
      refine l_op (o_bin (c64 4294967295 (by decide)) rfl (fun _ => b_notW) ?_)
      refine l_op (o_ia rfl rfl ar103 (by omega) (by omega) ?_)
      refine l_op (o_ld H (i := 4) rfl rfl ct91 rfl ?_)
      refine l_op (o_bin rfl rfl (fun _ => b_andW) ?_)
      refine l_op (o_bin rfl rfl (fun _ => b_xorW) ?_)
      refine l_op (o_as ?_)
      first | refine l_end ?_ | refine l_nil ?_
      repeat refine c_seq ?_
      refine c_still mixed (by kernel_rfl) ?_
      replace H := H.drew
      refine s_op (r_ia rfl rfl ar103 (by omega) (by omega)) ?_
      refine s_op (r_ld H (i := 4) rfl rfl ct91 rfl) ?_
      refine s_op (r_mv) ?_
      refine s_op (r_bin rfl rfl (fun _ => b_add_u64)) ?_
      refine s_op (r_mv) ?_
      refine s_op (r_bin rfl rfl (fun _ => b_add_u64)) ?_
      refine s_op (r_mv) ?_
      refine s_op (r_ia rfl rfl ar101 (by omega) (by omega)) ?_
      refine s_op (r_ld H (v := W64 kk) (i := 2) rfl rfl ct91 (by rw [x1, g1 i hlt', hkk])) ?_
      refine s_op (r_bin rfl rfl (fun _ => b_add_u64)) ?_
      refine s_op (r_mv) ?_
      refine s_op (r_ia rfl rfl ar101 (by omega) (by omega)) ?_
      refine s_op (r_ld H (v := W64 ww) (i := 1) rfl rfl ct91 (by rw [x1, g2 i hlt', hww])) ?_
      refine s_op (r_bin rfl rfl (fun _ => b_add_u64)) ?_
      refine s_op (r_as) ?_
      refine s_nil ?_
      repeat refine c_seq ?_
      refine c_region ?_
      refine l_op (o_mv ?_)
      refine l_op (o_callR Try.func66 rfl rfl rfl (turnW_ret _ _ 2 (by decide) (by decide)) ?_)
      rintro _ w' ⟨rfl, hw⟩
      rw [hw]; clear hw w'
      refine l_op (o_mv ?_)
      refine l_op (o_callR Try.func66 rfl rfl rfl (turnW_ret _ _ 13 (by decide) (by decide)) ?_)
      rintro _ w' ⟨rfl, hw⟩
      rw [hw]; clear hw w'
      refine l_op (o_bin rfl rfl (fun _ => b_xorW) ?_)
      refine l_op (o_mv ?_)
      refine l_op (o_callR Try.func66 rfl rfl rfl (turnW_ret _ _ 22 (by decide) (by decide)) ?_)
      rintro _ w' ⟨rfl, hw⟩
      rw [hw]; clear hw w'
      refine l_op (o_bin rfl rfl (fun _ => b_xorW) ?_)
      refine l_op (o_as ?_)
      first | refine l_end ?_ | refine l_nil ?_
      repeat refine c_seq ?_
      refine c_region ?_
      refine l_op (o_mv ?_)
      refine l_op (o_ia rfl rfl ar103 (by omega) (by omega) ?_)
      refine l_op (o_ld H (i := 4) rfl rfl ct91 rfl ?_)
      refine l_op (o_bin rfl rfl (fun _ => b_andW) ?_)
      refine l_op (o_mv ?_)
      refine l_op (o_ia rfl rfl ar103 (by omega) (by omega) ?_)
      refine l_op (o_ld H (i := 4) rfl rfl ct91 rfl ?_)
      refine l_op (o_bin rfl rfl (fun _ => b_andW) ?_)
      refine l_op (o_bin rfl rfl (fun _ => b_xorW) ?_)
      refine l_op (o_ia rfl rfl ar103 (by omega) (by omega) ?_)
      refine l_op (o_ld H (i := 4) rfl rfl ct91 rfl ?_)
      refine l_op (o_ia rfl rfl ar103 (by omega) (by omega) ?_)
      refine l_op (o_ld H (i := 4) rfl rfl ct91 rfl ?_)
      refine l_op (o_bin rfl rfl (fun _ => b_andW) ?_)
      refine l_op (o_bin rfl rfl (fun _ => b_xorW) ?_)
      refine l_op (o_as ?_)
      first | refine l_end ?_ | refine l_nil ?_
      repeat refine c_seq ?_
      refine c_region ?_
      refine l_op (o_mv ?_)
      refine l_op (o_mv ?_)
      refine l_op (o_bin rfl rfl (fun _ => b_add_u64) ?_)
      refine l_op (o_mv ?_)
      refine l_op (o_bin rfl rfl (fun _ => b_add_u64) ?_)
      refine l_op (o_bin (v := W64 (rnd r kk ww).a) rfl (c64 4294967295 (by decide)) (fun _ => b_maskW _ (by simp only [UInt64.toUInt32_add, red]; exact UInt32.add_assoc _ _ _)) ?_)
      refine l_op (o_ia rfl rfl ar103 (by omega) (by omega) ?_)
      refine l_op (o_ld H (i := 4) rfl rfl ct91 rfl ?_)
      refine l_op (o_ia rfl rfl ar103 (by omega) (by omega) ?_)
      refine l_op (o_ld H (i := 4) rfl rfl ct91 rfl ?_)
      refine l_op (o_ia rfl rfl ar103 (by omega) (by omega) ?_)
      refine l_op (o_ld H (i := 4) rfl rfl ct91 rfl ?_)
      refine l_op (o_ia rfl rfl ar103 (by omega) (by omega) ?_)
      refine l_op (o_ld H (i := 4) rfl rfl ct91 rfl ?_)
      refine l_op (o_mv ?_)
      refine l_op (o_bin rfl rfl (fun _ => b_add_u64) ?_)
      refine l_op (o_bin (v := W64 (rnd r kk ww).e) rfl (c64 4294967295 (by decide)) (fun _ => b_maskW _ (by simp only [UInt64.toUInt32_add, red]; rfl)) ?_)
      refine l_op (o_ia rfl rfl ar103 (by omega) (by omega) ?_)
      refine l_op (o_ld H (i := 4) rfl rfl ct91 rfl ?_)
      refine l_op (o_ia rfl rfl ar103 (by omega) (by omega) ?_)
      refine l_op (o_ld H (i := 4) rfl rfl ct91 rfl ?_)
      refine l_op (o_ia rfl rfl ar103 (by omega) (by omega) ?_)
      refine l_op (o_ld H (i := 4) rfl rfl ct91 rfl ?_)
      refine l_op (o_bld' (pv := en 0 ((rnd r kk ww).l.map W64)) bd103 rfl (fill_en _ (all_W64 _) rfl) ?_)
      refine l_op (o_stw H (i := 4) rfl rfl rfl (by rw [cs103]; rfl) (all_W64 _) (by rfl) (fun w H => ?_))
      first | refine l_end ?_ | refine l_nil ?_
      repeat refine c_seq ?_
      refine c_region ?_
      refine l_op (o_mv ?_)
      refine l_op (o_bin rfl rfl (fun _ => b_add (by omega) (by omega)) ?_)
      refine l_op (o_as ?_)
      first | refine l_end ?_ | refine l_nil ?_
      refine round_end (i + 1) ?_ ?_ ?_
      · exact ⟨rfl, rfl, rfl, rfl, rfl, rfl, trivial⟩
      · exact ⟨hlt', by rw [e9]; exact H⟩
      · show 64 - (i + 1) < 64 - i; omega
    · have hi64 : i = 64 := by omega
      subst hi64
      clear hlt hi
      obtain ⟨rr, hrr⟩ : ∃ rr, rnds sc st 64 = rr := ⟨_, rfl⟩
      rw [hrr] at H ⊢
      clear hrr
      refine c_exit ?_
      repeat refine c_seq ?_
      refine c_region ?_
      refine l_op (o_as ?_)
      first | refine l_end ?_ | refine l_nil ?_
      repeat refine c_seq ?_
      refine c_block ?_
      refine c_loop (ι := Nat) (fun i => [(21, VI i), (3, .pointer (some ⟨b3, 0, none⟩)), (6, .pointer (some ⟨b6, 0, none⟩)), (12, .pointer (some ⟨b12, 0, none⟩))])
        (fun i w => i ≤ 8 ∧ Hp w0 w [] [.blk b3 ((parts (addS st rr).l st.l i).map W64) 103, .blk b4 (sc.map W64) 101, .blk b5 (primeWords.map W64) 101, .blk b6 (List.replicate 8 (Value.int .u64 0)) 103, .blk b12 (rr.l.map W64) 103])
        (fun i => 8 - i) 0 ⟨rfl, rfl, rfl, rfl, trivial⟩ ⟨by omega, H⟩ ?_
      clear H
      rintro i τ w ⟨hi, H⟩
      repeat refine c_seq ?_
      refine c_region ?_
      refine l_op (o_mv ?_)
      refine l_op (o_bin rfl rfl (fun _ => b_lss) ?_)
      first | refine l_end ?_ | refine l_nil ?_
      repeat refine c_seq ?_
      refine c_ifD rfl (fun hlt => ?_) (fun hlt => ?_)
      · have hlt' : i < 8 := by omega
        have h8 : (addS st rr).l.length = 8 := rfl
        have h8' : st.l.length = 8 := rfl
        have hpl8 : (parts (addS st rr).l st.l i).length = 8 := parts_length _ _ i rfl (by omega)
        have x1 : 0 + (i : Int).toNat * 1 = i := by omega
        have g3 : ((parts (addS st rr).l st.l i).map W64)[i]? = some (W64 (st.l.getD i 0)) := by
          rw [← parts_get _ _ i (h8.trans h8'.symm) (by omega)]
          simp [show i < (parts (addS st rr).l st.l i).length by omega]
        have g4 : (rr.l.map W64)[i]? = some (W64 (rr.l.getD i 0)) := by
          have : i < rr.l.length := hlt'
          simp [this]
        refine c_skip ?_
        repeat refine c_seq ?_
        refine c_block ?_
        repeat refine c_seq ?_
        refine c_tail 9 mixed (by kernel_rfl) ?_
        replace H := H.drew
        refine s_op (r_mv) ?_
        refine s_op (r_mv) ?_
        refine s_op (r_ia rfl rfl ar103 (by omega) (by omega)) ?_
        refine s_op (r_ld H (i := 0) rfl rfl ct91 (by rw [x1]; exact g3)) ?_
        refine s_op (r_mv) ?_
        refine s_op (r_ia rfl rfl ar103 (by omega) (by omega)) ?_
        refine s_op (r_ld H (i := 4) rfl rfl ct91 (by rw [x1]; exact g4)) ?_
        refine s_op (r_bin rfl rfl (fun _ => b_add_u64)) ?_
        refine s_op (r_bin (v := W64 ((addS st rr).l.getD i 0)) rfl (c64 4294967295 (by decide)) (fun _ => b_maskW _ (by simp only [UInt64.toUInt32_add, red]; exact add_get _ _ i hlt'))) ?_
        refine s_nil ?_
        refine l_op (o_ia rfl rfl ar103 (by omega) (by omega) ?_)
        refine l_op (o_st H (i := 0) (v := W64 ((addS st rr).l.getD i 0)) rfl rfl rfl cs91 rfl (by rw [x1, List.length_map, hpl8]; exact hlt') (fun w H => ?_))
        first | refine l_end ?_ | refine l_nil ?_
        have e : ((parts (addS st rr).l st.l i).map W64).set (0 + (i : Int).toNat * 1) (W64 ((addS st rr).l.getD i 0)) = (parts (addS st rr).l st.l (i + 1)).map W64 := by
          rw [x1, ← List.map_set, parts_set _ _ i (h8.trans h8'.symm) (by omega)]
        rw [e] at H
        repeat refine c_seq ?_
        refine c_region ?_
        refine l_op (o_mv ?_)
        refine l_op (o_bin rfl rfl (fun _ => b_add (by omega) (by omega)) ?_)
        refine l_op (o_as ?_)
        first | refine l_end ?_ | refine l_nil ?_
        refine round_end (i + 1) ?_ ?_ ?_
        · exact ⟨rfl, rfl, rfl, rfl, trivial⟩
        · exact ⟨by omega, H⟩
        · show 8 - (i + 1) < 8 - i; omega
      · have hi8 : i = 8 := by omega
        subst hi8
        refine c_exit ?_
        repeat refine c_seq ?_
        refine c_region ?_
        refine l_op (o_ldr H (i := 0) rfl rfl rt103 (Nat.le_refl 8) ?_)
        refine l_op (o_stw H (i := 3) rfl rfl rfl (by rw [cs103]; rfl) (all_W64 (addS st rr).l) (by rfl) (fun w H => ?_))
        first | refine l_end ?_ | refine l_nil ?_
        refine c_ret (e_retc Try.results53 H (i := 3) rfl rfl rt103 (by rfl) ⟨_, rfl, rfl, ?_⟩)
        exact H.sub (List.nil_sublist _)
end Go.Proofs.Ytomjbabllcmodaa
namespace Go.Proofs.Ytomjbabllcmodaa
open Go
/-- the sixty-four words when i bytes have been read. -/
def wpart (bs : List UInt8) (i : Nat) : List Value := (List.range 64).map fun j => V64 (UInt64.ofNat (pwN bs j (min 4 (i - 4 * j))))
theorem wpart_length (bs : List UInt8) (i : Nat) : (wpart bs i).length = 64 := by simp [wpart]
theorem wpart_get (bs : List UInt8) (i : Nat) (h : i < 64) : (wpart bs i)[i / 4]? = some (V64 (UInt64.ofNat (pwN bs (i / 4) (i % 4)))) := by
  have e : min 4 (i - 4 * (i / 4)) = i % 4 := by omega
  simp [wpart, List.getElem?_range (show i / 4 < 64 by omega), e]
theorem wpart_set (bs : List UInt8) (i : Nat) (h : i < 64) : (wpart bs i).set (i / 4) (V64 (UInt64.ofNat (pwN bs (i / 4) (i % 4 + 1)))) = wpart bs (i + 1) := by
  apply List.ext_getElem?
  intro j
  rw [List.getElem?_set, wpart_length]
  by_cases hj : i / 4 = j
  · subst hj
    have e : min 4 (i + 1 - 4 * (i / 4)) = i % 4 + 1 := by omega
    rw [if_pos rfl, if_pos (by omega)]
    simp [wpart, List.getElem?_range (show i / 4 < 64 by omega), e]
  · rw [if_neg hj]
    by_cases hl : j < 64
    · have e : min 4 (i - 4 * j) = min 4 (i + 1 - 4 * j) := by omega
      simp [wpart, List.getElem?_range hl, e]
    · simp [wpart, show 64 ≤ j by omega]
theorem wpart_zero (bs : List UInt8) : wpart bs 0 = List.replicate 64 (Value.int .u64 0) := by
  apply List.ext_getElem?
  intro j
  by_cases hl : j < 64
  · rw [List.getElem?_replicate, if_pos hl]; simp [wpart, List.getElem?_range hl, pwN, V64]
  · simp [wpart, show 64 ≤ j by omega]
theorem ofNat_word (x : UInt32) : UInt64.ofNat x.toNat = x.toUInt64 := by
  apply UInt64.toNat_inj.1
  have := x.toNat_lt
  rw [UInt64.toNat_ofNat', UInt32.toNat_toUInt64]; omega
theorem firsts_get (bs : List UInt8) : ∀ (n j : Nat), j < n → (firsts bs n)[j]? = some (wordAt bs j)
  | 0, _, h => by omega
  | n + 1, j, h => by
    by_cases hj : j < n
    · rw [firsts, List.getElem?_append_left (by rw [firsts_length]; exact hj)]; exact firsts_get bs n j hj
    · have : j = n := by omega
      subst this
      rw [firsts, List.getElem?_append_right (by rw [firsts_length]; exact Nat.le_refl _), firsts_length]; simp
theorem wpart_all (bs : List UInt8) : wpart bs 64 = padW (firsts bs 16) := by
  apply List.ext_getElem?
  intro j
  have hfl := firsts_length bs 16
  by_cases h1 : j < 16
  · have e : min 4 (64 - 4 * j) = 4 := by omega
    rw [padW, List.getElem?_append_left (by rw [List.length_map, hfl]; exact h1), List.getElem?_map, firsts_get bs 16 j h1]
    simp [wpart, List.getElem?_range (show j < 64 by omega), e, ← wordAt_nat, W64]
  · by_cases hl : j < 64
    · have e : 64 - 4 * j = 0 := by omega
      rw [padW, List.getElem?_append_right (by rw [List.length_map, hfl]; omega), List.length_map, hfl, List.getElem?_replicate, if_pos (by omega)]
      simp [wpart, List.getElem?_range hl, e, pwN, W64]
    · rw [List.getElem?_eq_none (by rw [wpart_length]; omega), List.getElem?_eq_none (by rw [padW_length _ (by omega)]; omega)]
end Go.Proofs.Ytomjbabllcmodaa
namespace Go.Proofs.Ytomjbabllcmodaa
open Go
theorem step1_m (s : HS) (b : UInt8) : (step1 s b).m = s.m + 1 := by unfold step1; split <;> rfl
theorem absorb_m (l : List UInt8) : ∀ s : HS, (absorb s l).m = s.m + UInt64.ofNat l.length := by
  induction l with
  | nil => intro s; simp [absorb]
  | cons b l ih => intro s; rw [absorb, ih, step1_m, add_one]; rfl
/-- how many zeros there are behind the byte 128. -/
def zerosOf (m : UInt64) : Nat := (119 - m.toNat % 64) % 64
def lenBytes (m : UInt64) : List UInt8 := (List.range 8).map fun i => ((m <<< 3) >>> UInt64.ofNat (56 - 8 * i)).toUInt8
theorem lenBytes_length (m : UInt64) : (lenBytes m).length = 8 := by simp [lenBytes]
theorem lenBytes_succ (m : UInt64) (i : Nat) (h : i < 8) : (lenBytes m).take (i + 1) = (lenBytes m).take i ++ [((m <<< 3) >>> UInt64.ofNat (56 - 8 * i)).toUInt8] := by
  rw [List.take_succ_eq_append_getElem (by rw [lenBytes_length]; exact h)]
  simp [lenBytes]
def tailOf (m : UInt64) : List UInt8 := 128 :: (List.replicate (zerosOf m) 0 ++ lenBytes m)
def closed (s : HS) : HS := absorb s (tailOf s.m)
def wordBytes (l : List UInt32) : List UInt8 := (List.range 32).map fun j => ((l.getD (j / 4) 0) >>> UInt32.ofNat (24 - 8 * (j % 4))).toUInt8
def digest (s : HS) : List UInt8 := wordBytes (closed s).st.l
theorem wordBytes_length (l : List UInt32) : (wordBytes l).length = 32 := by simp [wordBytes]
theorem digest_length (s : HS) : (digest s).length = 32 := wordBytes_length _
end Go.Proofs.Ytomjbabllcmodaa
namespace Go.Proofs.Ytomjbabllcmodaa
open Go
def foldB (st : S8) (M : List UInt8) : Nat → S8
  | 0 => st
  | n + 1 => comp (foldB st M n) ((M.drop (64 * n)).take 64)
theorem foldB_ext (st : S8) (M M' : List UInt8) : ∀ n, M.take (64 * n) = M'.take (64 * n) → foldB st M n = foldB st M' n
  | 0, _ => rfl
  | n + 1, h => by
    have h1 : M.take (64 * n) = M'.take (64 * n) := by
      have := congrArg (List.take (64 * n)) h
      rwa [List.take_take, List.take_take, Nat.min_eq_left (by omega)] at this
    have h2 : (M.drop (64 * n)).take 64 = (M'.drop (64 * n)).take 64 := by
      have := congrArg (List.drop (64 * n)) h
      rwa [List.drop_take, List.drop_take, show 64 * (n + 1) - 64 * n = 64 by omega] at this
    rw [foldB, foldB, foldB_ext st M M' n h1, h2]
theorem absorb_blocks (s : HS) (hwt : s.wt.length = 64) (hat : s.at_ = 0) : ∀ (n : Nat) (M : List UInt8), M.length = 64 * n → (absorb s M).st = foldB s.st M n
  | 0, M, h => by
    have : M = [] := List.length_eq_zero_iff.1 (by omega)
    subst this; rfl
  | n + 1, M, h => by
    have ih := absorb_blocks s hwt hat n (M.take (64 * n)) (by rw [List.length_take]; omega)
    have e : M = M.take (64 * n) ++ M.drop (64 * n) := (List.take_append_drop _ _).symm
    have hl : (M.drop (64 * n)).length = 64 := by rw [List.length_drop]; omega
    have ha : (absorb s (M.take (64 * n))).at_ = 0 := by
      simp only [HS.at_] at hat ⊢
      rw [absorb_m, List.length_take, UInt64.toNat_add, UInt64.toNat_ofNat', Nat.min_eq_left (by omega)]
      omega
    have hw : (absorb s (M.take (64 * n))).wt.length = 64 := by rw [absorb_wt, hwt]
    have hf := absorb_full (M.drop (64 * n)) (absorb s (M.take (64 * n))) hw (by rw [ha, hl]) (fun e => by rw [e] at hl; simp at hl)
    have hsp : spl (absorb s (M.take (64 * n))).wt 0 (M.drop (64 * n)) = M.drop (64 * n) := by
      have hd : (absorb s (M.take (64 * n))).wt.drop (0 + (M.drop (64 * n)).length) = [] := List.drop_of_length_le (by rw [hl]; omega)
      unfold spl
      rw [hd, List.take_zero, List.nil_append, List.append_nil]
    rw [ha, hsp] at hf
    have e2 : absorb s M = absorb (absorb s (M.take (64 * n))) (M.drop (64 * n)) := by rw [← absorb_append, ← e]
    rw [e2, hf]
    simp only
    rw [ih, foldB, foldB_ext s.st (M.take (64 * n)) M n (by rw [List.take_take, Nat.min_self]), List.take_of_length_le (Nat.le_of_eq hl)]
/-- the text with what stands behind it. -/
def padded (l : List UInt8) : List UInt8 := l ++ tailOf (UInt64.ofNat l.length)
theorem init_at : HS.at_ HS.init = 0 := rfl
theorem digest_padded (l : List UInt8) (n : Nat) (h : (padded l).length = 64 * n) : digest (absorb HS.init l) = wordBytes (foldB initS (padded l) n).l := by
  have hm : (absorb HS.init l).m = UInt64.ofNat l.length := by
    rw [absorb_m]
    show (0 : UInt64) + _ = _
    rw [UInt64.zero_add]
  rw [digest, closed, hm, ← absorb_append]
  have := absorb_blocks HS.init rfl init_at n (padded l) h
  rw [padded] at this
  rw [this]; rfl
theorem padded_len (l : List UInt8) (h : l.length < 1152921504606846976) : 64 ∣ (padded l).length := by
  have e : (UInt64.ofNat l.length).toNat = l.length := by rw [UInt64.toNat_ofNat']; omega
  simp only [padded, tailOf, zerosOf, e, List.length_append, List.length_cons, List.length_replicate, lenBytes_length]
  omega
end Go.Proofs.Ytomjbabllcmodaa
namespace Go.Proofs.Ytomjbabllcmodaa
open Go
/-- the hash of a text. -/
def sha256 (l : List UInt8) : List UInt8 := digest (absorb HS.init l)
theorem sha256_len (l : List UInt8) : (sha256 l).length = 32 := digest_length _
theorem sha256_eq (l : List UInt8) : sha256 l = digest (absorb HS.init l) := rfl
end Go.Proofs.Ytomjbabllcmodaa
namespace Go.Proofs.Ytomjbabllcmodaa
open Go
set_option maxRecDepth 100000
/-- the text, 128 and j zeros. -/
def pz (l : List UInt8) (j : Nat) : List UInt8 := l ++ 128 :: List.replicate j 0
theorem pz_succ (l : List UInt8) (j : Nat) : pz l j ++ [0] = pz l (j + 1) := by simp [pz, List.replicate_succ']
def Zn (n : Nat) : Nat := (119 - n % 64) % 64
theorem mul8N (n : Nat) : UInt64.ofNat (n * 8) = UInt64.ofNat n <<< (3 : UInt64) := by
  rw [UInt64.ofNat_mul]
  apply UInt64.toNat_inj.1
  rw [UInt64.toNat_mul, UInt64.toNat_shiftLeft, Nat.shiftLeft_eq]
  rfl
/-- the text, what is behind it, and i bytes of its length. -/
def plen (l : List UInt8) (n i : Nat) : List UInt8 := pz l (Zn n) ++ (lenBytes (UInt64.ofNat n)).take i
theorem zeros_Zn (n : Nat) : zerosOf (UInt64.ofNat n) = Zn n := by
  rw [zerosOf, UInt64.toNat_ofNat', Zn]; congr 2; omega
theorem plen_zero (l : List UInt8) (n : Nat) : pz l (Zn n) = plen l n 0 := by simp [plen]
theorem plen_succ (l : List UInt8) (n i : Nat) (h : i < 8) (k : Nat) (hk : k = 56 - 8 * i) : plen l n i ++ [(UInt64.ofNat (n * 8) >>> UInt64.ofNat k).toUInt8] = plen l n (i + 1) := by
  rw [plen, plen, lenBytes_succ _ i h, mul8N, hk, List.append_assoc]
theorem plen_all (l : List UInt8) (n : Nat) (h : l.length = n) : plen l n 8 = padded l := by
  rw [plen, List.take_of_length_le (Nat.le_of_eq (lenBytes_length _)), padded, tailOf, pz, h, zeros_Zn]; simp
theorem padded_length (l : List UInt8) (n : Nat) (h : l.length = n) (_hn : n < 1152921504606846976) : (padded l).length = n + 1 + Zn n + 8 := by
  rw [padded, tailOf, h, zeros_Zn]; simp [lenBytes_length, h]; omega
theorem W64_word (x : UInt32) (q k : Nat) (hk : k = 24 - 8 * (q % 4)) : (x.toUInt64 >>> UInt64.ofNat k).toUInt8 = (x >>> UInt32.ofNat (24 - 8 * (q % 4))).toUInt8 := by
  apply UInt8.toNat_inj.1
  have e1 : (UInt64.ofNat k).toNat % 64 = k := by rw [UInt64.toNat_ofNat']; omega
  have e2 : (UInt32.ofNat (24 - 8 * (q % 4))).toNat % 32 = 24 - 8 * (q % 4) := by rw [UInt32.toNat_ofNat']; omega
  rw [UInt64.toNat_toUInt8, UInt64.toNat_shiftRight, e1, UInt32.toNat_toUInt8, UInt32.toNat_shiftRight, e2, UInt32.toNat_toUInt64, hk]
theorem u8_u64 (x : UInt8) : x.toUInt64 = UInt64.ofNat x.toNat := by
  apply UInt64.toNat_inj.1
  have := u8_lt x
  rw [UInt8.toNat_toUInt64, UInt64.toNat_ofNat']; omega
theorem wstep (M : List UInt8) (i q : Nat) (hq : q < 64) (x : UInt8) (hx : x = M.getD (64 * i + q) 0) :
    UInt64.ofNat (pwN ((M.drop (64 * i)).take 64) (q / 4) (q % 4) * 256) + x.toUInt64 = UInt64.ofNat (pwN ((M.drop (64 * i)).take 64) (q / 4) (q % 4 + 1)) := by
  have e : ((M.drop (64 * i)).take 64).getD (4 * (q / 4) + q % 4) 0 = x := by
    rw [show 4 * (q / 4) + q % 4 = q by omega, hx, List.getD_eq_getElem?_getD, List.getD_eq_getElem?_getD, List.getElem?_take_of_lt hq, List.getElem?_drop]
  rw [pwN, e, UInt64.ofNat_add, u8_u64]
/-- the first q bytes of a hash, zeros behind. -/
def wbp (W : List UInt32) (q : Nat) : List UInt8 := (wordBytes W).take q ++ List.replicate (32 - q) 0
theorem wbp_len (W : List UInt32) (q : Nat) (h : q ≤ 32) : (wbp W q).length = 32 := by simp [wbp, wordBytes_length]; omega
theorem wbp_set (W : List UInt32) (q : Nat) (h : q < 32) (v : UInt8) (hv : v = ((W.getD (q / 4) 0) >>> UInt32.ofNat (24 - 8 * (q % 4))).toUInt8) : (wbp W q).set q v = wbp W (q + 1) := by
  have hl : ((wordBytes W).take q).length = q := by simp [wordBytes_length]; omega
  have hg : (wordBytes W)[q]? = some v := by rw [hv, wordBytes]; simp [h]
  unfold wbp
  rw [List.set_append_right _ _ (by omega), hl, Nat.sub_self, show 32 - q = (32 - (q + 1)) + 1 by omega, List.replicate_succ, List.set_cons_zero, List.take_add_one, hg]
  simp
theorem wbp_all (W : List UInt32) : wbp W 32 = wordBytes W := by
  rw [wbp, List.take_of_length_le (Nat.le_of_eq (wordBytes_length _))]; simp
theorem W64_get (l : List UInt32) (k : Nat) (h : k < l.length) : (l.map W64)[k]? = some (V64 ((l.getD k 0).toUInt64)) := by
  simp [List.getD_eq_getElem?_getD, h, W64]
theorem foldB0 (M : List UInt8) : foldB initS M 0 = initS := rfl
attribute [local irreducible] padded wordBytes lenBytes plen
set_option maxHeartbeats 4000000 in
theorem sum2_ret (w0 : World) (s : Sl) (hs : s.ok w0) (hm : s.len ≤ 1048576) :
    Ret Try.prog 36 [s.v] w0 fun v w' => v = .agg ((sha256 s.l).map V8).toArray ∧ Hp w0 w' [] [] := by
  refine ret_mk Try.func36 rfl Try.ntmps36 (by simp) ?_
  have H := Hp.refl w0 []
  have hln := hs.ln
  have hle := hs.le
  repeat refine c_seq ?_
  refine c_region ?_
  refine l_op (o_alloc H zc29 (fun b1 w H hb1 => ?_))
  replace H : Hp _ w _ ([.blk b1 ((List.replicate 32 (0 : UInt8)).map V8) 29]) := H
  first | refine l_end ?_ | refine l_nil ?_
  repeat refine c_seq ?_
  refine c_region ?_
  refine l_op (o_callR Try.func52 rfl rfl rfl (keys_ret _) ?_)
  rintro _ w ⟨rfl, Hc⟩
  replace H : Hp _ w _ ([_]) := H.call Hc
  clear Hc
  refine l_op (o_alloc H zc101 (fun b2 w H hb2 => ?_))
  replace H : Hp _ w _ ([_, .blk b2 ((List.replicate 64 (Value.int .u64 0))) 101]) := H
  refine l_op (o_stw (vs := (primeWords.map W64).toArray) H (i := 1) rfl rfl rfl (by rw [cs101]; rfl) (all_W64 _) (by rfl) (fun w H => ?_))
  replace H : Hp _ w _ ([_, .blk b2 (primeWords.map W64) 101]) := H
  first | refine l_end ?_ | refine l_nil ?_
  repeat refine c_seq ?_
  refine c_region ?_
  refine l_op (o_bslB (([] : List UInt8)) H sl32 zc5 rfl rfl (by decide) (fun b3 w H hb3 => ?_))
  replace H : Hp _ w _ ([_, _, .own (some b3) 0 0 ((([] : List UInt8)).map V8) 5 1]) := H
  refine l_op (o_val (r_mv) ?_)
  refine l_op (o_appB (s := s) (l' := s.l) (len' := s.len) rfl (Nat.zero_add _) H (i := 2) rfl sl32 Try.underlying32 rfl rfl (hs.up H (fun _ => apart_nil _)) (by omega) (fun a4 c5 w H => ?_))
  replace H : Hp _ w _ ([_, _, .own a4 s.len c5 ((s.l).map V8) 5 1]) := H
  refine l_op (o_bslB ([(128 : UInt8)]) H sl32 zc5 rfl rfl (by decide) (fun b6 w H hb6 => ?_))
  replace H : Hp _ w _ ([_, _, _, .own (some b6) 1 1 (([(128 : UInt8)]).map V8) 5 1]) := H
  refine l_op (o_appB (s := ⟨hd (some b6), 1, 1, [(128 : UInt8)]⟩) (l' := s.l ++ ([(128 : UInt8)])) (len' := s.len + 1) rfl rfl H (i := 2) rfl sl32 Try.underlying32 rfl rfl (H.slOwn (i := 3) rfl) (by omega) (fun a7 c8 w H => ?_))
  replace H : Hp _ w _ ([_, _, .own a7 (s.len + 1) c8 ((s.l ++ ([(128 : UInt8)])).map V8) 5 1, _]) := H
  refine l_op (o_val (r_as) ?_)
  first | refine l_end ?_ | refine l_nil ?_
  repeat refine c_seq ?_
  refine c_block ?_
  repeat refine c_seq ?_
  refine c_loop3 (fun (j : Nat) (a : Option Nat) (c : Nat) => [(0, s.v), (2, .pointer (some ⟨b1, 0, none⟩)), (3, .pointer (some ⟨b2, 0, none⟩)), (4, .slice (hd a) (s.len + 1 + j) c)])
    (fun (j : Nat) (a : Option Nat) (c : Nat) w => (j ≤ Zn s.len) ∧ Hp w0 w [] ([.blk b1 ((List.replicate 32 (0 : UInt8)).map V8) 29, .blk b2 (primeWords.map W64) 101, .own a (s.len + 1 + j) c ((pz s.l j).map V8) 5 1]))
    (fun (j : Nat) (a : Option Nat) (c : Nat) => Zn s.len - j) 0 a7 c8 ⟨rfl, rfl, rfl, rfl, trivial⟩ ⟨Nat.zero_le _, H.sub (.cons_cons _ (.cons_cons _ (.cons_cons _ (List.nil_sublist _))))⟩ ?_
  clear H
  rintro j a c τ w ⟨hj, H⟩
  have hZ : Zn s.len = (119 - s.len % 64) % 64 := rfl
  repeat refine c_seq ?_
  refine c_region ?_
  refine l_op (o_val (r_mv) ?_)
  refine l_op (o_val (r_lens el32 rfl) ?_)
  refine l_op (o_val (r_bin (a := ((s.len + 1 + j : Nat) : Int)) (b := 64) rfl rfl (fun _ => b_rem (by omega) (by omega))) ?_)
  refine l_op (o_val (r_bin (a := ((s.len + 1 + j : Nat) : Int) % 64) (b := 56) rfl rfl (fun _ => b_neq)) ?_)
  first | refine l_end ?_ | refine l_nil ?_
  by_cases hc9 : ((s.len + 1 + j : Nat) : Int) % 64 ≠ 56
  ·
   repeat refine c_seq ?_
   refine c_yes (by exact congrArg Value.bool (decide_eq_true hc9)) ?_
   refine c_skip ?_
   repeat refine c_seq ?_
   refine c_block ?_
   repeat refine c_seq ?_
   refine c_region ?_
   refine l_op (o_val (r_mv) ?_)
   refine l_op (o_bslB ([(0 : UInt8)]) H sl32 zc5 rfl rfl (by decide) (fun b10 w H hb10 => ?_))
   replace H : Hp _ w _ ([_, _, _, .own (some b10) 1 1 (([(0 : UInt8)]).map V8) 5 1]) := H
   refine l_op (o_appB (s := ⟨hd (some b10), 1, 1, [(0 : UInt8)]⟩) (l' := pz s.l (j + 1)) (len' := s.len + 1 + (j + 1)) (pz_succ _ _) rfl H (i := 2) rfl sl32 Try.underlying32 rfl rfl (H.slOwn (i := 3) rfl) (by omega) (fun a11 c12 w H => ?_))
   replace H : Hp _ w _ ([_, _, .own a11 (s.len + 1 + (j + 1)) c12 ((pz s.l (j + 1)).map V8) 5 1, _]) := H
   refine l_op (o_val (r_as) ?_)
   first | refine l_end ?_ | refine l_nil ?_
   refine round_end (j + 1, a11, c12) ?_ ?_ ?_
   · exact ⟨rfl, rfl, rfl, rfl, trivial⟩
   · refine ⟨?_, ?_⟩
     · try dsimp only
       exact by omega
     · exact H.sub (.cons_cons _ (.cons_cons _ (.cons_cons _ (List.nil_sublist _))))
   · show Zn s.len - (j + 1 : Nat) < Zn s.len - j; omega
  ·
   repeat refine c_seq ?_
   refine c_no (by exact congrArg Value.bool (decide_eq_false hc9)) ?_
   refine c_exit ?_
   have hjz : j = Zn s.len := by omega
   subst hjz
   clear hj
   rw [plen_zero] at H
   replace H : Hp _ w _ ([_, _, .own a (s.len + 1 + Zn s.len) c ((plen s.l s.len 0).map V8) 5 1]) := H
   repeat refine c_seq ?_
   refine c_region ?_
   refine l_op (o_val (r_mv) ?_)
   refine l_op (o_val (r_lens el32 rfl) ?_)
   refine l_op (o_val (r_conv (v := ((UInt64.ofNat s.len).toNat : Int)) Try.underlying3 Try.underlying91 rfl (w_u64_N s.len (by omega))) ?_)
   refine l_op (o_val (r_bin rfl (c64 8 (by decide)) (fun _ => b_mul_u64N)) ?_)
   refine l_op (o_val (r_as) ?_)
   first | refine l_end ?_ | refine l_nil ?_
   repeat refine c_seq ?_
   refine c_region ?_
   refine l_op (o_val (r_as) ?_)
   first | refine l_end ?_ | refine l_nil ?_
   repeat refine c_seq ?_
   refine c_block ?_
   repeat refine c_seq ?_
   refine c_loop3 (fun (i : Nat) (a : Option Nat) (c : Nat) => [(2, .pointer (some ⟨b1, 0, none⟩)), (3, .pointer (some ⟨b2, 0, none⟩)), (4, .slice (hd a) (s.len + 1 + Zn s.len + i) c), (5, V64 (UInt64.ofNat (s.len * 8))), (6, VI (i : Int))])
     (fun (i : Nat) (a : Option Nat) (c : Nat) w => (i ≤ 8) ∧ Hp w0 w [] ([.blk b1 ((List.replicate 32 (0 : UInt8)).map V8) 29, .blk b2 (primeWords.map W64) 101, .own a (s.len + 1 + Zn s.len + i) c ((plen s.l s.len i).map V8) 5 1]))
     (fun (i : Nat) (a : Option Nat) (c : Nat) => 8 - i) 0 a c ⟨rfl, rfl, rfl, rfl, rfl, trivial⟩ ⟨Nat.zero_le _, H⟩ ?_
   clear H
   rintro i a c τ w ⟨hi, H⟩
   have hZ : Zn s.len = (119 - s.len % 64) % 64 := rfl
   repeat refine c_seq ?_
   refine c_region ?_
   refine l_op (o_val (r_mv) ?_)
   refine l_op (o_val (r_bin (a := (i : Int)) (b := 8) rfl rfl (fun _ => b_lss)) ?_)
   first | refine l_end ?_ | refine l_nil ?_
   by_cases hc13 : (i : Int) < 8
   ·
    repeat refine c_seq ?_
    refine c_yes (by exact congrArg Value.bool (decide_eq_true hc13)) ?_
    refine c_skip ?_
    repeat refine c_seq ?_
    refine c_block ?_
    repeat refine c_seq ?_
    refine c_region ?_
    refine l_op (o_val (r_mv) ?_)
    refine l_op (o_val (r_mv) ?_)
    refine l_op (o_val (r_mv) ?_)
    refine l_op (o_val (r_bin (a := 8) (b := (i : Int)) rfl rfl (fun _ => b_mul (by omega) (by omega))) ?_)
    refine l_op (o_val (r_bin (a := 56) (b := 8 * (i : Int)) rfl rfl (fun _ => b_sub (by omega) (by omega))) ?_)
    refine l_op (o_val (r_shift rfl rfl (.inr rfl) (fun _ => b_shr_u64 (by omega) (by omega))) ?_)
    refine l_op (o_val (r_conv Try.underlying91 Try.underlying5 rfl (w_u8_64 _)) ?_)
    refine l_op (o_bslB ([((UInt64.ofNat (s.len * 8)) >>> UInt64.ofNat (56 - (8 * (i : Int))).toNat).toUInt8]) H sl32 zc5 rfl rfl (by decide) (fun b14 w H hb14 => ?_))
    replace H : Hp _ w _ ([_, _, _, .own (some b14) 1 1 (([((UInt64.ofNat (s.len * 8)) >>> UInt64.ofNat (56 - (8 * (i : Int))).toNat).toUInt8]).map V8) 5 1]) := H
    refine l_op (o_appB (s := ⟨hd (some b14), 1, 1, [((UInt64.ofNat (s.len * 8)) >>> UInt64.ofNat (56 - (8 * (i : Int))).toNat).toUInt8]⟩) (l' := plen s.l s.len (i + 1)) (len' := s.len + 1 + Zn s.len + (i + 1)) (plen_succ _ _ _ (by omega) _ (by omega)) rfl H (i := 2) rfl sl32 Try.underlying32 rfl rfl (H.slOwn (i := 3) rfl) (by omega) (fun a15 c16 w H => ?_))
    replace H : Hp _ w _ ([_, _, .own a15 (s.len + 1 + Zn s.len + (i + 1)) c16 ((plen s.l s.len (i + 1)).map V8) 5 1, _]) := H
    refine l_op (o_val (r_as) ?_)
    first | refine l_end ?_ | refine l_nil ?_
    repeat refine c_seq ?_
    refine c_region ?_
    refine l_op (o_val (r_mv) ?_)
    refine l_op (o_val (r_bin (a := (i : Int)) (b := 1) rfl rfl (fun _ => b_add (by omega) (by omega))) ?_)
    refine l_op (o_val (r_as) ?_)
    first | refine l_end ?_ | refine l_nil ?_
    refine round_end (i + 1, a15, c16) ?_ ?_ ?_
    · exact ⟨rfl, rfl, rfl, rfl, show VI ((i : Int) + 1) = VI ((i + 1 : Nat) : Int) from congrArg VI (by omega), trivial⟩
    · refine ⟨?_, ?_⟩
      · try dsimp only
        exact by omega
      · exact H.sub (.cons_cons _ (.cons_cons _ (.cons_cons _ (List.nil_sublist _))))
    · show 8 - (i + 1 : Nat) < 8 - i; omega
   ·
    repeat refine c_seq ?_
    refine c_no (by exact congrArg Value.bool (decide_eq_false hc13)) ?_
    refine c_exit ?_
    have hi8 : i = 8 := by omega
    subst hi8
    clear hi
    have hpd := padded_length s.l s.len hln (by omega)
    rw [plen_all s.l s.len hln] at H
    obtain ⟨N, hN⟩ := padded_len s.l (by omega)
    rw [hpd] at hN
    replace H : Hp _ w _ ([_, _, .own a (s.len + 1 + Zn s.len + 8) c ((padded s.l).map V8) 5 1]) := H
    repeat refine c_seq ?_
    refine c_region ?_
    refine l_op (o_val (r_bld' (pv := en 0 (initS.l.map W64)) bd103 rfl (fill_en _ (all_W64 _) rfl)) ?_)
    refine l_op (o_alloc H zc103 (fun b17 w H hb17 => ?_))
    replace H : Hp _ w _ ([_, _, _, .blk b17 ((List.replicate 8 (Value.int .u64 0))) 103]) := H
    refine l_op (o_stw (vs := (initS.l.map W64).toArray) H (i := 3) rfl rfl rfl (by rw [cs103]; rfl) (all_W64 _) (by rfl) (fun w H => ?_))
    replace H : Hp _ w _ ([_, _, _, .blk b17 (initS.l.map W64) 103]) := H
    first | refine l_end ?_ | refine l_nil ?_
    repeat refine c_seq ?_
    refine c_region ?_
    refine l_op (o_val (r_as) ?_)
    first | refine l_end ?_ | refine l_nil ?_
    repeat refine c_seq ?_
    refine c_block ?_
    repeat refine c_seq ?_
    refine c_loop (fun (i : Nat) => [(2, .pointer (some ⟨b1, 0, none⟩)), (3, .pointer (some ⟨b2, 0, none⟩)), (4, .slice (hd a) (s.len + 1 + Zn s.len + 8) c), (7, .pointer (some ⟨b17, 0, none⟩)), (8, VI ((64 * i : Nat) : Int))])
      (fun (i : Nat) w => (i ≤ N) ∧ Hp w0 w [] ([.blk b1 ((List.replicate 32 (0 : UInt8)).map V8) 29, .blk b2 (primeWords.map W64) 101, .own a (s.len + 1 + Zn s.len + 8) c ((padded s.l).map V8) 5 1, .blk b17 ((foldB initS (padded s.l) i).l.map W64) 103]))
      (fun (i : Nat) => N - i) 0 ⟨rfl, rfl, rfl, rfl, rfl, trivial⟩ ⟨Nat.zero_le _, (by rw [foldB0]; exact H)⟩ ?_
    clear H
    rintro i τ w ⟨hi, H⟩
    repeat refine c_seq ?_
    refine c_region ?_
    refine l_op (o_val (r_mv) ?_)
    refine l_op (o_val (r_mv) ?_)
    refine l_op (o_val (r_lens el32 rfl) ?_)
    refine l_op (o_val (r_bin (a := ((64 * i : Nat) : Int)) (b := ((s.len + 1 + Zn s.len + 8 : Nat) : Int)) rfl rfl (fun _ => b_lss)) ?_)
    first | refine l_end ?_ | refine l_nil ?_
    by_cases hc18 : ((64 * i : Nat) : Int) < ((s.len + 1 + Zn s.len + 8 : Nat) : Int)
    ·
     repeat refine c_seq ?_
     refine c_yes (by exact congrArg Value.bool (decide_eq_true hc18)) ?_
     refine c_skip ?_
     repeat refine c_seq ?_
     refine c_block ?_
     repeat refine c_seq ?_
     refine c_region ?_
     refine l_op (o_alloc H zc101 (fun b19 w H hb19 => ?_))
     replace H : Hp _ w _ ([_, _, _, _, .blk b19 ((List.replicate 64 (Value.int .u64 0))) 101]) := H
     first | refine l_end ?_ | refine l_nil ?_
     repeat refine c_seq ?_
     refine c_region ?_
     refine l_op (o_val (r_as) ?_)
     first | refine l_end ?_ | refine l_nil ?_
     repeat refine c_seq ?_
     refine c_block ?_
     repeat refine c_seq ?_
     refine c_loop (fun (q : Nat) => [(2, .pointer (some ⟨b1, 0, none⟩)), (3, .pointer (some ⟨b2, 0, none⟩)), (4, .slice (hd a) (s.len + 1 + Zn s.len + 8) c), (7, .pointer (some ⟨b17, 0, none⟩)), (8, VI ((64 * i : Nat) : Int)), (9, .pointer (some ⟨b19, 0, none⟩)), (10, VI (q : Int))])
       (fun (q : Nat) w => (q ≤ 64) ∧ Hp w0 w [] ([.blk b1 ((List.replicate 32 (0 : UInt8)).map V8) 29, .blk b2 (primeWords.map W64) 101, .own a (s.len + 1 + Zn s.len + 8) c ((padded s.l).map V8) 5 1, .blk b17 ((foldB initS (padded s.l) i).l.map W64) 103, .blk b19 (wpart (((padded s.l).drop (64 * i)).take 64) q) 101]))
       (fun (q : Nat) => 64 - q) 0 ⟨rfl, rfl, rfl, rfl, rfl, rfl, rfl, trivial⟩ ⟨Nat.zero_le _, (by rw [wpart_zero]; exact H)⟩ ?_
     clear H
     rintro q τ w ⟨hq, H⟩
     repeat refine c_seq ?_
     refine c_region ?_
     refine l_op (o_val (r_mv) ?_)
     refine l_op (o_val (r_bin (a := (q : Int)) (b := 64) rfl rfl (fun _ => b_lss)) ?_)
     first | refine l_end ?_ | refine l_nil ?_
     by_cases hc20 : (q : Int) < 64
     ·
      repeat refine c_seq ?_
      refine c_yes (by exact congrArg Value.bool (decide_eq_true hc20)) ?_
      refine c_skip ?_
      repeat refine c_seq ?_
      refine c_block ?_
      repeat refine c_seq ?_
      refine wp_held (fun w => Hp w0 w [] [.blk b1 ((List.replicate 32 (0 : UInt8)).map V8) 29, .blk b2 (primeWords.map W64) 101, .own a (s.len + 1 + Zn s.len + 8) c ((padded s.l).map V8) 5 1, .blk b17 ((foldB initS (padded s.l) i).l.map W64) 103]) mixed ?_
      replace H := H.drew
      have HS := H.sub (.cons_cons _ (.cons_cons _ (.cons_cons _ (.cons_cons _ (List.nil_sublist _)))))
      refine t_take 0 rfl (by kernel_rfl) (by kernel_rfl) (by kernel_rfl) (fun _ _ _ h => h) (fun w HS => r_mv) HS ?_
      refine t_take 1 rfl (by kernel_rfl) (by kernel_rfl) (by kernel_rfl) (fun _ _ _ h => h) (fun w HS => r_bin (a := (q : Int)) (b := 4) rfl rfl (fun _ => b_quo (by omega) (by omega) (by omega))) HS ?_
      refine t_take 2 rfl (by kernel_rfl) (by kernel_rfl) (by kernel_rfl) (fun _ _ _ h => h) (fun w HS => r_mv) HS ?_
      refine t_take 3 rfl (by kernel_rfl) (by kernel_rfl) (by kernel_rfl) (fun _ _ _ h => h) (fun w HS => r_bin (a := (q : Int)) (b := 4) rfl rfl (fun _ => b_quo (by omega) (by omega) (by omega))) HS ?_
      refine t_take 4 rfl (by kernel_rfl) (by kernel_rfl) (by kernel_rfl) (fun _ _ _ h => h) (fun w HS => r_iaN (q / 4) rfl rfl ar101 (by omega) (by omega)) HS ?_
      refine t_take 7 rfl (by kernel_rfl) (by kernel_rfl) (by kernel_rfl) (fun _ _ _ h => h) (fun w HS => r_mv) HS ?_
      refine t_take 8 rfl (by kernel_rfl) (by kernel_rfl) (by kernel_rfl) (fun _ _ _ h => h) (fun w HS => r_mv) HS ?_
      refine t_take 9 rfl (by kernel_rfl) (by kernel_rfl) (by kernel_rfl) (fun _ _ _ h => h) (fun w HS => r_mv) HS ?_
      refine t_take 10 rfl (by kernel_rfl) (by kernel_rfl) (by kernel_rfl) (fun _ _ _ h => h) (fun w HS => r_bin (a := ((64 * i : Nat) : Int)) (b := (q : Int)) rfl rfl (fun _ => b_add (by omega) (by omega))) HS ?_
      obtain ⟨ab21, ah22⟩ := HS.ownAddr (i := 2) rfl (by omega)
      refine t_take 11 rfl (by kernel_rfl) (by kernel_rfl) (by kernel_rfl) (fun _ _ _ h => h) (fun w HS => r_isN ((64 * i) + q) rfl rfl el32 ah22 (by omega) (by (try simp only [Sl.cut]); omega)) HS ?_
      refine t_take 12 rfl (by kernel_rfl) (by kernel_rfl) (by kernel_rfl) (fun _ _ _ h => h) (fun w HS => r_ldB (s := ⟨hd a, s.len + 1 + Zn s.len + 8, c, padded s.l⟩) (k := (64 * i) + q) (HS.slOwn (i := 2) rfl) ah22 rfl ct5 (by (try simp only []); omega)) HS ?_
      refine t_take 13 rfl (by kernel_rfl) (by kernel_rfl) (by kernel_rfl) (fun _ _ _ h => h) (fun w HS => r_conv Try.underlying5 Try.underlying91 rfl (w_u64_8 _)) HS ?_
      refine t_step 5 rfl (by kernel_rfl) (o_val (r_ld H (v := V64 (UInt64.ofNat (pwN (((padded s.l).drop (64 * i)).take 64) (q / 4) (q % 4)))) (i := 4) rfl rfl ct91 (by rw [Nat.mul_one, Nat.zero_add]; exact wpart_get _ q (by omega))) ?_)
      refine ⟨H.sub (.cons_cons _ (.cons_cons _ (.cons_cons _ (.cons_cons _ (List.nil_sublist _))))), ?_⟩
      replace HS := H.sub (.cons_cons _ (.cons_cons _ (.cons_cons _ (.cons_cons _ (List.nil_sublist _)))))
      refine t_take 6 rfl (by kernel_rfl) (by kernel_rfl) (by kernel_rfl) (fun _ _ _ h => h) (fun w HS => r_bin rfl (c64 256 (by decide)) (fun _ => b_mul_u64N)) HS ?_
      refine t_take 14 rfl (by kernel_rfl) (by kernel_rfl) (by kernel_rfl) (fun _ _ _ h => h) (fun w HS => r_bin rfl rfl (fun _ => b_add_u64)) HS ?_
      refine t_take 15 rfl (by kernel_rfl) (by kernel_rfl) (by kernel_rfl) (fun _ _ _ h => h) (fun w HS => r_iaN (q / 4) rfl rfl ar101 (by omega) (by omega)) HS ?_
      refine t_step 16 rfl (by kernel_rfl) (o_st (v := V64 (UInt64.ofNat (pwN (((padded s.l).drop (64 * i)).take 64) (q / 4) (q % 4 + 1)))) H (i := 4) rfl rfl (congrArg V64 (wstep (padded s.l) i q (by omega) _ rfl)) cs91 rfl (by rw [wpart_length]; omega) (fun w H => ?_))
      rw [Nat.mul_one, Nat.zero_add, wpart_set _ q (by omega)] at H
      replace H : Hp _ w _ ([_, _, _, _, .blk b19 (wpart (((padded s.l).drop (64 * i)).take 64) (q + 1)) 101]) := H
      refine ⟨H.sub (.cons_cons _ (.cons_cons _ (.cons_cons _ (.cons_cons _ (List.nil_sublist _))))), ?_⟩
      replace HS := H.sub (.cons_cons _ (.cons_cons _ (.cons_cons _ (.cons_cons _ (List.nil_sublist _)))))
      refine t_done (by kernel_rfl) ?_
      clear HS
      repeat refine c_seq ?_
      refine c_region ?_
      refine l_op (o_val (r_mv) ?_)
      refine l_op (o_val (r_bin (a := (q : Int)) (b := 1) rfl rfl (fun _ => b_add (by omega) (by omega))) ?_)
      refine l_op (o_val (r_as) ?_)
      first | refine l_end ?_ | refine l_nil ?_
      refine round_end (q + 1) ?_ ?_ ?_
      · exact ⟨rfl, rfl, rfl, rfl, rfl, rfl, show VI ((q : Int) + 1) = VI ((q + 1 : Nat) : Int) from congrArg VI (by omega), trivial⟩
      · refine ⟨?_, ?_⟩
        · try dsimp only
          exact by omega
        · exact H
      · show 64 - (q + 1 : Nat) < 64 - q; omega
     ·
      repeat refine c_seq ?_
      refine c_no (by exact congrArg Value.bool (decide_eq_false hc20)) ?_
      refine c_exit ?_
      have hq64 : q = 64 := by omega
      subst hq64
      clear hq
      rw [wpart_all] at H
      replace H : Hp _ w _ ([_, _, _, _, .blk b19 (padW (firsts (((padded s.l).drop (64 * i)).take 64) 16)) 101]) := H
      repeat refine c_seq ?_
      refine c_region ?_
      refine l_op (o_val (r_ldA H (i := 3) rfl rfl rt103 (by rw [List.length_map]; rfl)) ?_)
      refine l_op (o_val (r_ldA H (i := 4) rfl rfl rt101 (padW_length _ (by rw [firsts_length]; omega))) ?_)
      refine l_op (o_val (r_ldA H (i := 1) rfl rfl rt101 (by rfl)) ?_)
      refine l_op (o_callR Try.func53 rfl rfl rfl (block_ret _ (foldB initS (padded s.l) i) (((padded s.l).drop (64 * i)).take 64)) ?_)
      rintro _ w ⟨rfl, Hc⟩
      replace H : Hp _ w _ ([_, _, _, _, _]) := H.call Hc
      clear Hc
      refine l_op (o_stw (vs := ((foldB initS (padded s.l) (i + 1)).l.map W64).toArray) H (i := 3) rfl rfl rfl (by rw [cs103]; rfl) (all_W64 _) (by rw [List.length_map]; rfl) (fun w H => ?_))
      replace H : Hp _ w _ ([_, _, _, .blk b17 ((foldB initS (padded s.l) (i + 1)).l.map W64) 103, _]) := H
      first | refine l_end ?_ | refine l_nil ?_
      repeat refine c_seq ?_
      refine c_region ?_
      refine l_op (o_val (r_mv) ?_)
      refine l_op (o_val (r_bin (a := ((64 * i : Nat) : Int)) (b := 64) rfl rfl (fun _ => b_add (by omega) (by omega))) ?_)
      refine l_op (o_val (r_as) ?_)
      first | refine l_end ?_ | refine l_nil ?_
      refine round_end (i + 1) ?_ ?_ ?_
      · exact ⟨rfl, rfl, rfl, rfl, show VI (((64 * i : Nat) : Int) + 64) = VI ((64 * (i + 1 : Nat) : Nat) : Int) from congrArg VI (by omega), trivial⟩
      · refine ⟨?_, ?_⟩
        · try dsimp only
          exact by omega
        · exact H.sub (.cons_cons _ (.cons_cons _ (.cons_cons _ (.cons_cons _ (List.nil_sublist _)))))
      · show N - (i + 1 : Nat) < N - i; omega
    ·
     repeat refine c_seq ?_
     refine c_no (by exact congrArg Value.bool (decide_eq_false hc18)) ?_
     refine c_exit ?_
     have hiN : i = N := by omega
     subst hiN
     clear hi
     repeat refine c_seq ?_
     refine c_region ?_
     refine l_op (o_alloc H zc29 (fun b23 w H hb23 => ?_))
     replace H : Hp _ w _ ([_, _, _, _, .blk b23 ((List.replicate 32 (0 : UInt8)).map V8) 29]) := H
     first | refine l_end ?_ | refine l_nil ?_
     repeat refine c_seq ?_
     refine c_region ?_
     refine l_op (o_val (r_as) ?_)
     first | refine l_end ?_ | refine l_nil ?_
     repeat refine c_seq ?_
     refine c_block ?_
     repeat refine c_seq ?_
     refine c_loop (fun (q : Nat) => [(2, .pointer (some ⟨b1, 0, none⟩)), (7, .pointer (some ⟨b17, 0, none⟩)), (11, .pointer (some ⟨b23, 0, none⟩)), (12, VI (q : Int))])
       (fun (q : Nat) w => (q ≤ 32) ∧ Hp w0 w [] ([.blk b1 ((List.replicate 32 (0 : UInt8)).map V8) 29, .blk b2 (primeWords.map W64) 101, .own a (s.len + 1 + Zn s.len + 8) c ((padded s.l).map V8) 5 1, .blk b17 ((foldB initS (padded s.l) i).l.map W64) 103, .blk b23 ((wbp (foldB initS (padded s.l) i).l q).map V8) 29]))
       (fun (q : Nat) => 32 - q) 0 ⟨rfl, rfl, rfl, rfl, trivial⟩ ⟨Nat.zero_le _, (by rw [show wbp (foldB initS (padded s.l) i).l 0 = List.replicate 32 (0 : UInt8) by simp [wbp]]; exact H)⟩ ?_
     clear H
     rintro q τ w ⟨hq, H⟩
     repeat refine c_seq ?_
     refine c_region ?_
     refine l_op (o_val (r_mv) ?_)
     refine l_op (o_val (r_bin (a := (q : Int)) (b := 32) rfl rfl (fun _ => b_lss)) ?_)
     first | refine l_end ?_ | refine l_nil ?_
     by_cases hc24 : (q : Int) < 32
     ·
      repeat refine c_seq ?_
      refine c_yes (by exact congrArg Value.bool (decide_eq_true hc24)) ?_
      refine c_skip ?_
      repeat refine c_seq ?_
      refine c_block ?_
      repeat refine c_seq ?_
      refine c_region ?_
      refine l_op (o_val (r_mv) ?_)
      refine l_op (o_val (r_mv) ?_)
      refine l_op (o_val (r_bin (a := (q : Int)) (b := 4) rfl rfl (fun _ => b_quo (by omega) (by omega) (by omega))) ?_)
      refine l_op (o_val (r_iaN (q / 4) rfl rfl ar103 (by omega) (by omega)) ?_)
      refine l_op (o_val (r_ld H (v := V64 (((foldB initS (padded s.l) i).l.getD (q / 4) 0).toUInt64)) (i := 3) rfl rfl ct91 (by rw [Nat.mul_one, Nat.zero_add]; exact W64_get _ _ (by show q / 4 < 8; omega))) ?_)
      refine l_op (o_val (r_mv) ?_)
      refine l_op (o_val (r_bin (a := (q : Int)) (b := 4) rfl rfl (fun _ => b_rem (by omega) (by omega))) ?_)
      refine l_op (o_val (r_bin (a := 8) (b := (q : Int) % 4) rfl rfl (fun _ => b_mul (by omega) (by omega))) ?_)
      refine l_op (o_val (r_bin (a := 24) (b := 8 * ((q : Int) % 4)) rfl rfl (fun _ => b_sub (by omega) (by omega))) ?_)
      refine l_op (o_val (r_shift rfl rfl (.inr rfl) (fun _ => b_shr_u64 (by omega) (by omega))) ?_)
      refine l_op (o_val (r_conv Try.underlying91 Try.underlying5 rfl (w_u8_64 _)) ?_)
      refine l_op (o_val (r_iaN q rfl rfl ar29 (by omega) (by omega)) ?_)
      refine l_op (o_stAB (u := ((((foldB initS (padded s.l) i).l.getD (q / 4) 0).toUInt64) >>> UInt64.ofNat (24 - (8 * ((q : Int) % 4))).toNat).toUInt8) (k := q) H (i := 4) rfl rfl rfl cs5 (by rw [(show (wbp (foldB initS (padded s.l) i).l q).length = 32 from wbp_len _ _ (by omega))]; omega) (fun w H => ?_))
      rw [show (wbp (foldB initS (padded s.l) i).l q).set q (((((foldB initS (padded s.l) i).l.getD (q / 4) 0).toUInt64) >>> UInt64.ofNat (24 - (8 * ((q : Int) % 4))).toNat).toUInt8) = wbp (foldB initS (padded s.l) i).l (q + 1) from wbp_set _ q (by omega) _ (W64_word _ q _ (by omega))] at H
      replace H : Hp _ w _ ([_, _, _, _, .blk b23 ((wbp (foldB initS (padded s.l) i).l (q + 1)).map V8) 29]) := H
      first | refine l_end ?_ | refine l_nil ?_
      repeat refine c_seq ?_
      refine c_region ?_
      refine l_op (o_val (r_mv) ?_)
      refine l_op (o_val (r_bin (a := (q : Int)) (b := 1) rfl rfl (fun _ => b_add (by omega) (by omega))) ?_)
      refine l_op (o_val (r_as) ?_)
      first | refine l_end ?_ | refine l_nil ?_
      refine round_end (q + 1) ?_ ?_ ?_
      · exact ⟨rfl, rfl, rfl, show VI ((q : Int) + 1) = VI ((q + 1 : Nat) : Int) from congrArg VI (by omega), trivial⟩
      · refine ⟨?_, ?_⟩
        · try dsimp only
          exact by omega
        · exact H
      · show 32 - (q + 1 : Nat) < 32 - q; omega
     ·
      repeat refine c_seq ?_
      refine c_no (by exact congrArg Value.bool (decide_eq_false hc24)) ?_
      refine c_exit ?_
      repeat refine c_seq ?_
      refine c_region ?_
      refine l_op (o_val (r_ldAA (l := wbp (foldB initS (padded s.l) i).l q) H (i := 4) rfl rfl rt29 (show (wbp (foldB initS (padded s.l) i).l q).length = 32 from wbp_len _ _ (by omega))) ?_)
      refine l_op (o_stA (l' := wbp (foldB initS (padded s.l) i).l q) H (i := 0) rfl rfl rfl cs29 (show (List.replicate 32 (0 : UInt8)).length = 32 from (List.length_replicate ..)) (show (wbp (foldB initS (padded s.l) i).l q).length = 32 from wbp_len _ _ (by omega)) (fun w H => ?_))
      replace H : Hp _ w _ ([.blk b1 ((wbp (foldB initS (padded s.l) i).l q).map V8) 29, _, _, _, _]) := H
      first | refine l_end ?_ | refine l_nil ?_
      refine c_ret ?_
      try dsimp only [Exit.then, Exit.inBlock]
      refine e_retA (l := wbp (foldB initS (padded s.l) i).l q) Try.results36 H (i := 0) rfl rfl rt29 (show (wbp (foldB initS (padded s.l) i).l q).length = 32 from wbp_len _ _ (by omega)) ?_
      refine ⟨_, rfl, ?_⟩
      have hq32 : q = 32 := by omega
      subst hq32
      refine ⟨?_, H.sub (List.nil_sublist _)⟩
      rw [wbp_all, sha256_eq, digest_padded s.l i (by rw [hpd]; omega)]
end Go.Proofs.Ytomjbabllcmodaa
namespace Go.Proofs.Ytomjbabllcmodaa
open Go
set_option maxRecDepth 100000
/-- the hash of a text, as a name. -/
def shaI (l : List UInt8) : Id32 := ⟨sha256 l, sha256_len l⟩
theorem bytesRes_len {g : List It} {l : List UInt8} {e : Int} (h : BytesRes g l e) : l.length ≤ 4000 := by
  rcases h with ⟨_, _, _, h⟩ | ⟨_, h, _⟩
  · exact h
  · rw [h]; simp
theorem ob_raw {l : List Ob} {w0 w : World} {L : List Ch} (ho : ∀ o ∈ l, o.data.ok w0) (H : Hp w0 w [] L) : ∀ o ∈ l, o.data.ok w := fun o h => (ho o h).up H (fun _ => apart_nil _)
theorem of17_ret (w0 : World) (s : Sl) (hs : s.ok w0) (hm : s.len ≤ 1048576) :
    Ret Try.prog 24 [s.v] w0 fun v w' => ∃ a c, v = .agg (obE ⟨shaI s.l, ⟨hd a, s.l.length, c, s.l⟩⟩).toArray ∧ Hp w0 w' [] [.own a s.l.length c (s.l.map V8) 5 1] := by
  refine ret_mk Try.func24 rfl Try.ntmps24 (by simp) ?_
  have H := Hp.refl w0 []
  have hsl := hs.ln
  have hle := hs.le
  repeat refine c_seq ?_
  refine c_region ?_
  refine l_op (o_alloc H zc34 (fun b1 w H hb1 => ?_))
  replace H : Hp _ w _ ([.blk b1 ((List.replicate 32 (0 : UInt8)).map V8 ++ (([.slice none 0 0] : List Value))) 34]) := H
  first | refine l_end ?_ | refine l_nil ?_
  repeat refine c_seq ?_
  refine c_region ?_
  refine l_op (o_val (r_mv) ?_)
  refine l_op (o_callR Try.func36 rfl rfl rfl (sum2_ret _ s (hs.up H (fun _ => apart_nil _)) (by (try dsimp only); omega)) ?_)
  rintro _ w ⟨rfl, Hc⟩
  replace H : Hp _ w _ ([_]) := H.call Hc
  clear Hc
  refine l_op (o_bslB (([] : List UInt8)) H sl32 zc5 rfl rfl (by decide) (fun b2 w H hb2 => ?_))
  replace H : Hp _ w _ ([_, .own (some b2) 0 0 ((([] : List UInt8)).map V8) 5 1]) := H
  refine l_op (o_val (r_mv) ?_)
  refine l_op (o_appB (s := s) (l' := s.l) (len' := s.len) rfl (Nat.zero_add _) H (i := 1) rfl sl32 Try.underlying32 rfl rfl (hs.up H (fun _ => apart_nil _)) (by omega) (fun a3 c4 w H => ?_))
  replace H : Hp _ w _ ([_, .own a3 s.len c4 ((s.l).map V8) 5 1]) := H
  refine l_op (o_val (r_bldG (Z := (List.replicate 32 (0 : UInt8)).map V8 ++ (([.slice none 0 0] : List Value))) (E := (sha256 (s.l)).map V8 ++ (([.slice (hd a3) s.len c4] : List Value))) (pv := [(0, .agg ((sha256 (s.l)).map V8).toArray), (1, .slice (hd a3) s.len c4)]) bd34 rfl rfl (.cons (A := ([] : List Value)) (B := (List.replicate 32 (0 : UInt8)).map V8) (D := ([.slice none 0 0] : List Value)) (V := (sha256 (s.l)).map V8) (a := 0) (b := 32) rfl (show Cut3 ((List.replicate 32 (0 : UInt8)).map V8 ++ (([.slice none 0 0] : List Value))) (([] : List Value)) ((List.replicate 32 (0 : UInt8)).map V8) (([.slice none 0 0] : List Value)) 0 32 from ⟨(show (List.replicate 32 (0 : UInt8)).map V8 ++ (([.slice none 0 0] : List Value)) = ([] : List Value) ++ (((List.replicate 32 (0 : UInt8)).map V8) ++ (([.slice none 0 0] : List Value))) from by simp only [List.nil_append]), (by rfl), (by simp only [List.length_map, (show (List.replicate 32 (0 : UInt8)).length = 32 from (List.length_replicate ..))])⟩) (by rfl) (by simp only [List.length_map, (show (sha256 (s.l)).length = 32 from (sha256_len _))]) ((show (sha256 (s.l)).map V8 ++ (([.slice none 0 0] : List Value)) = ([] : List Value) ++ (((sha256 (s.l)).map V8) ++ (([.slice none 0 0] : List Value))) from by simp only [List.nil_append]) ▸ .cons (A := (sha256 (s.l)).map V8) (B := ([.slice none 0 0] : List Value)) (D := ([] : List Value)) (V := ([.slice (hd a3) s.len c4] : List Value)) (a := 32) (b := 1) rfl (show Cut3 ((sha256 (s.l)).map V8 ++ (([.slice none 0 0] : List Value))) ((sha256 (s.l)).map V8) (([.slice none 0 0] : List Value)) (([] : List Value)) 32 1 from ⟨(show (sha256 (s.l)).map V8 ++ (([.slice none 0 0] : List Value)) = ((sha256 (s.l)).map V8) ++ ((([.slice none 0 0] : List Value)) ++ (([] : List Value))) from by simp only [List.cons_append, List.nil_append]), (by simp only [List.length_map, (show (sha256 (s.l)).length = 32 from (sha256_len _))]), (by rfl)⟩) (by rfl) (by rfl) ((show (sha256 (s.l)).map V8 ++ (([.slice (hd a3) s.len c4] : List Value)) = ((sha256 (s.l)).map V8) ++ ((([.slice (hd a3) s.len c4] : List Value)) ++ (([] : List Value))) from by simp only [List.cons_append, List.nil_append]) ▸ .nil _)))) ?_)
  refine l_op (o_stW (C' := (sha256 (s.l)).map V8 ++ (([.slice (hd a3) s.len c4] : List Value))) H (i := 0) rfl rfl rfl cs34 (by first | (simp [Value.oneCell', List.all_append, List.all_map]; done) | (simp only [List.all_append, List.all_cons, List.all_nil, List.all_map]; simp [Value.oneCell', Function.comp_def])) (by simp only [List.length_append, List.length_map, List.length_cons, List.length_nil, (show (List.replicate 32 (0 : UInt8)).length = 32 from (List.length_replicate ..))]) (by simp only [List.length_append, List.length_map, List.length_cons, List.length_nil, (show (sha256 (s.l)).length = 32 from (sha256_len _))]) (fun w H => ?_))
  replace H : Hp _ w _ ([.blk b1 ((sha256 (s.l)).map V8 ++ (([.slice (hd a3) s.len c4] : List Value))) 34, _]) := H
  first | refine l_end ?_ | refine l_nil ?_
  refine c_ret ?_
  try dsimp only [Exit.then, Exit.inBlock]
  refine e_retc Try.results24 H (i := 0) rfl rfl rt34 (by simp only [List.length_append, List.length_map, List.length_cons, List.length_nil, (show (sha256 (s.l)).length = 32 from (sha256_len _))]) ?_
  refine ⟨_, rfl, ?_⟩
  have e2 : s.len = s.l.length := by rw [hs.ln]
  have e1 : s.l = s.l := by first | rfl | rw [List.nil_append]
  rw [e1, e2] at H
  exact ⟨_, _, by rw [e2]; rfl, H.sub (.cons _ (.cons_cons _ (List.nil_sublist _)))⟩
theorem folder17_ret (w0 : World) (g : Gl It) (hg : g.ok itE 35 w0) (hfits : ∀ x ∈ g.l, x.name.length ≤ 65536 ∧ x.size ≤ 9223372036854775807) :
    Ret Try.prog 25 [g.v] w0 fun v w' => ∃ (a : Option Nat) (c : Nat) (t : List UInt8) (e : Int), BytesRes g.l t e ∧ v = .agg (obE ⟨shaI t, ⟨hd a, t.length, c, t⟩⟩).toArray ∧ Hp w0 w' [] [.own a t.length c (t.map V8) 5 1] := by
  refine ret_mk Try.func25 rfl Try.ntmps25 (by simp) ?_
  have H := Hp.refl w0 []
  repeat refine c_seq ?_
  refine c_region ?_
  refine l_op (o_alloc H zc34 (fun b1 w H hb1 => ?_))
  replace H : Hp _ w _ ([.blk b1 ((List.replicate 32 (0 : UInt8)).map V8 ++ (([.slice none 0 0] : List Value))) 34]) := H
  first | refine l_end ?_ | refine l_nil ?_
  repeat refine c_seq ?_
  refine c_region ?_
  refine l_op (o_val (r_mv) ?_)
  refine l_op (o_callR Try.func37 rfl rfl rfl (fbytes15_ret _ g (hg.up H) hfits) ?_)
  rintro _ w ⟨a2, c3, t4, e5, rfl, hby6, Hc⟩
  replace H : Hp _ w _ ([_, .own a2 t4.length c3 ((t4).map V8) 5 1]) := H.call Hc
  clear Hc
  refine l_op (o_val (r_mv) ?_)
  refine l_op (o_val (r_ext rfl rfl) ?_)
  refine l_op (o_val (r_ext rfl rfl) ?_)
  refine l_op (o_val (r_as) ?_)
  refine l_op (o_val (r_as) ?_)
  first | refine l_end ?_ | refine l_nil ?_
  have hbl := bytesRes_len hby6
  repeat refine c_seq ?_
  refine c_region ?_
  refine l_op (o_val (r_mv) ?_)
  refine l_op (o_callR Try.func24 rfl rfl rfl (of17_ret _ ⟨hd a2, t4.length, c3, t4⟩ (H.slOwn (i := 1) rfl) (by (try dsimp only); omega)) ?_)
  rintro _ w ⟨a7, c8, rfl, Hc⟩
  replace H : Hp _ w _ ([_, _, .own a7 t4.length c8 ((t4).map V8) 5 1]) := H.call Hc
  clear Hc
  refine l_op (o_stW (C' := ((shaI t4).1).map V8 ++ (([.slice (hd a7) t4.length c8] : List Value))) H (i := 0) rfl rfl rfl cs34 (by first | (simp [Value.oneCell', List.all_append, List.all_map]; done) | (simp only [List.all_append, List.all_cons, List.all_nil, List.all_map]; simp [Value.oneCell', Function.comp_def])) (by simp only [List.length_append, List.length_map, List.length_cons, List.length_nil, (show (List.replicate 32 (0 : UInt8)).length = 32 from (List.length_replicate ..))]) (by simp only [List.length_append, List.length_map, List.length_cons, List.length_nil, (show ((shaI t4).1).length = 32 from (shaI t4).2)]) (fun w H => ?_))
  replace H : Hp _ w _ ([.blk b1 (((shaI t4).1).map V8 ++ (([.slice (hd a7) t4.length c8] : List Value))) 34, _, _]) := H
  first | refine l_end ?_ | refine l_nil ?_
  refine c_ret ?_
  try dsimp only [Exit.then, Exit.inBlock]
  refine e_retc Try.results25 H (i := 0) rfl rfl rt34 (by simp only [List.length_append, List.length_map, List.length_cons, List.length_nil, (show ((shaI t4).1).length = 32 from (shaI t4).2)]) ?_
  refine ⟨_, rfl, ?_⟩
  exact ⟨_, _, t4, e5, hby6, rfl, H.sub (.cons _ (.cons _ (.cons_cons _ (List.nil_sublist _))))⟩
theorem light17_ret (w0 : World) (g : Gl Ob) (hg : g.ok obE 33 w0) (horaw : ∀ o ∈ g.l, o.data.ok w0) (n : Int) :
    Ret Try.prog 9 [g.v, VI n] w0 fun v w' => ∃ b, v = .bool b ∧ (b = true ↔ (g.len : Int) ≤ n ∧ ∀ o ∈ g.l, o.data.len ≤ 5000) ∧ Hp w0 w' [] [] := by
  refine ret_mk Try.func9 rfl Try.ntmps9 (by simp) ?_
  have H := Hp.refl w0 []
  have hgl := hg.ln
  have hgx := hg.mx
  have hgc := hg.le
  have hmL : maxLen = 9223372036854775807 := rfl
  repeat refine c_seq ?_
  refine c_region ?_
  refine l_op (o_val (r_as) ?_)
  first | refine l_end ?_ | refine l_nil ?_
  repeat refine c_seq ?_
  refine c_region ?_
  refine l_op (o_val (r_mv) ?_)
  refine l_op (o_val (r_lens el22 rfl) ?_)
  refine l_op (o_val (r_mv) ?_)
  refine l_op (o_val (r_bin (a := (g.len : Int)) (b := n) rfl rfl (fun _ => b_gtr)) ?_)
  first | refine l_end ?_ | refine l_nil ?_
  by_cases hc1 : n < (g.len : Int)
  ·
   repeat refine c_seq ?_
   refine c_yes (by exact congrArg Value.bool (decide_eq_true hc1)) ?_
   repeat refine c_seq ?_
   refine c_region ?_
   refine l_op (o_val (r_as) ?_)
   first | refine l_end ?_ | refine l_nil ?_
   refine c_ret ?_
   try dsimp only [Exit.then, Exit.inBlock]
   refine e_ret1 (v := .bool false) Try.results9 rfl ?_
   refine ⟨_, rfl, ?_⟩
   exact ⟨false, rfl, ⟨fun h => (by cases h), fun h => absurd h.1 (by omega)⟩, H⟩
  ·
   repeat refine c_seq ?_
   refine c_no (by exact congrArg Value.bool (decide_eq_false hc1)) ?_
   refine c_skip ?_
   repeat refine c_seq ?_
   refine c_region ?_
   refine l_op (o_val (r_as) ?_)
   first | refine l_end ?_ | refine l_nil ?_
   repeat refine c_seq ?_
   refine c_block ?_
   repeat refine c_seq ?_
   refine c_loop (fun (i : Nat) => [(0, g.v), (5, VI (i : Int))])
     (fun (i : Nat) w => (i ≤ g.len ∧ ∀ m, m < i → ∀ o, g.l[m]? = some o → o.data.len ≤ 5000) ∧ Hp w0 w [] ([]))
     (fun (i : Nat) => g.len - i) 0 ⟨rfl, rfl, trivial⟩ ⟨⟨Nat.zero_le _, fun m hm => absurd hm (by omega)⟩, H⟩ ?_
   clear H
   rintro i τ w ⟨⟨hil, hno⟩, H⟩
   repeat refine c_seq ?_
   refine c_region ?_
   refine l_op (o_val (r_mv) ?_)
   refine l_op (o_val (r_mv) ?_)
   refine l_op (o_val (r_lens el22 rfl) ?_)
   refine l_op (o_val (r_bin (a := (i : Int)) (b := (g.len : Int)) rfl rfl (fun _ => b_lss)) ?_)
   first | refine l_end ?_ | refine l_nil ?_
   by_cases hc2 : (i : Int) < (g.len : Int)
   ·
    repeat refine c_seq ?_
    refine c_yes (by exact congrArg Value.bool (decide_eq_true hc2)) ?_
    refine c_skip ?_
    repeat refine c_seq ?_
    refine c_block ?_
    repeat refine c_seq ?_
    refine c_region ?_
    refine l_op (o_val (r_mv) ?_)
    refine l_op (o_val (r_mv) ?_)
    have ah5 := ((hg.up H)).addr (by decide) (by first | omega | (dsimp only; omega))
    obtain ⟨ab3, ao4, ah5⟩ := ah5
    refine l_op (o_val (r_isN i rfl rfl el22 ah5 (by omega) (by (try simp only [Sl.cut]); omega)) ?_)
    refine l_op (o_val (r_fa rfl fo34_1) ?_)
    have he7 : ∃ c, g.l[i]? = some c := ⟨_, List.getElem?_eq_getElem (by have := ((hg.up H)).ln; (try dsimp only at this ⊢); omega)⟩
    obtain ⟨e6, he7⟩ := he7
    have hez8 := ((hg.up H)).sz e6 (List.mem_of_getElem? he7)
    have hod_e6 := horaw e6 (List.mem_of_getElem? he7)
    refine l_op (o_val (r_g1 (v := e6.data.v) (s := g) (j := i) (hg.up H) ah5 rfl ct32 he7 (by decide) (show Cut3 (obE e6) ((e6.of.1).map V8) (([e6.data.v] : List Value)) (([] : List Value)) 32 1 from ⟨(show (e6.of.1).map V8 ++ (([e6.data.v] : List Value)) = ((e6.of.1).map V8) ++ ((([e6.data.v] : List Value)) ++ (([] : List Value))) from by simp only [List.cons_append, List.nil_append]), (by simp only [List.length_map, (show (e6.of.1).length = 32 from e6.of.2)]), (by rfl)⟩)) ?_)
    refine l_op (o_val (r_lens el32 rfl) ?_)
    refine l_op (o_val (r_bin (a := (e6.data.len : Int)) (b := 5000) rfl rfl (fun _ => b_gtr)) ?_)
    first | refine l_end ?_ | refine l_nil ?_
    by_cases hc9 : 5000 < (e6.data.len : Int)
    ·
     repeat refine c_seq ?_
     refine c_yes (by exact congrArg Value.bool (decide_eq_true hc9)) ?_
     repeat refine c_seq ?_
     refine c_region ?_
     refine l_op (o_val (r_as) ?_)
     first | refine l_end ?_ | refine l_nil ?_
     refine c_ret ?_
     try dsimp only [Exit.then, Exit.inBlock]
     refine e_ret1 (v := .bool false) Try.results9 rfl ?_
     refine ⟨_, rfl, ?_⟩
     exact ⟨false, rfl, ⟨fun h => (by cases h), fun h => absurd (h.2 e6 (List.mem_of_getElem? he7)) (by omega)⟩, H⟩
    ·
     repeat refine c_seq ?_
     refine c_no (by exact congrArg Value.bool (decide_eq_false hc9)) ?_
     refine c_skip ?_
     repeat refine c_seq ?_
     refine c_region ?_
     refine l_op (o_val (r_mv) ?_)
     refine l_op (o_val (r_bin (a := (i : Int)) (b := 1) rfl rfl (fun _ => b_add (by omega) (by omega))) ?_)
     refine l_op (o_val (r_as) ?_)
     first | refine l_end ?_ | refine l_nil ?_
     have hat : ∀ o, g.l[i]? = some o → o.data.len ≤ 5000 := fun o ho => by
       rw [he7] at ho; cases ho; omega
     refine round_end (i + 1) ?_ ?_ ?_
     · exact ⟨rfl, show VI ((i : Int) + 1) = VI ((i + 1 : Nat) : Int) from congrArg VI (by omega), trivial⟩
     · refine ⟨?_, ?_⟩
       · try dsimp only
         exact ⟨by omega, fun m hm => (Nat.lt_or_ge m i).elim (hno m) (fun h => (show i = m by omega) ▸ hat)⟩
       · exact H
     · show g.len - (i + 1 : Nat) < g.len - i; omega
   ·
    repeat refine c_seq ?_
    refine c_no (by exact congrArg Value.bool (decide_eq_false hc2)) ?_
    refine c_exit ?_
    repeat refine c_seq ?_
    refine c_region ?_
    refine l_op (o_val (r_as) ?_)
    first | refine l_end ?_ | refine l_nil ?_
    refine c_ret ?_
    try dsimp only [Exit.then, Exit.inBlock]
    refine e_ret1 (v := .bool true) Try.results9 rfl ?_
    refine ⟨_, rfl, ?_⟩
    exact ⟨true, rfl, ⟨fun _ => ⟨by omega, fun o ho => by obtain ⟨m, hm, e⟩ := List.mem_iff_getElem.1 ho; exact hno m (by omega) o (by rw [List.getElem?_eq_getElem hm, e])⟩, fun _ => rfl⟩, H⟩
theorem in_step {l : List Id32} {j : Nat} {x y : Id32} {b : Bool} (h : l[j]? = some x) (hi : b = true ↔ ∃ x ∈ l.take j, x = y) (hb : b = false) : decide (x.1 = y.1) = true ↔ ∃ x ∈ l.take (j + 1), x = y := by
  rw [take_snocG h, decide_eq_true_eq]
  constructor
  · intro e; exact ⟨x, by simp, Subtype.ext e⟩
  · rintro ⟨z, hz, e⟩
    rcases mem_last hz with hz | rfl
    · have := hi.2 ⟨z, hz, e⟩
      rw [hb] at this; cases this
    · exact congrArg Subtype.val e
theorem in_keep {l : List Id32} {j : Nat} {y : Id32} {b : Bool} (hi : b = true ↔ ∃ x ∈ l.take j, x = y) (hb : b = true) : true = true ↔ ∃ x ∈ l.take (j + 1), x = y := by
  refine ⟨fun _ => ?_, fun _ => rfl⟩
  obtain ⟨x, hx, e⟩ := hi.1 hb
  refine ⟨x, ?_, e⟩
  have : l.take j = (l.take (j + 1)).take j := by rw [List.take_take]; congr 1; omega
  rw [this] at hx
  exact List.mem_of_mem_take hx
theorem lost18_ret (w0 : World) (g : Gl Ob) (hg : g.ok obE 33 w0) (ho : ∀ o ∈ g.l, o.data.ok w0 ∧ o.data.len ≤ 1048576) (hgm : g.len ≤ 65536) (r : Gl Id32) (hr : r.ok idE 32 w0) (hrm : r.len ≤ 65536) :
    Ret Try.prog 14 [g.v, r.v] w0 fun v w' => ∃ a k R, IsLost g.l r.l R ∧ v = .slice (hd a) R.length k ∧ Hp w0 w' [] [.own a R.length k (R.flatMap idE) 29 32] := by
  refine ret_mk Try.func14 rfl Try.ntmps14 (by simp) ?_
  have H := Hp.refl w0 []
  have hgl := hg.ln
  have hrl := hr.ln
  have hgc := hg.le
  repeat refine c_seq ?_
  refine c_region ?_
  refine l_op (o_val (r_as) ?_)
  first | refine l_end ?_ | refine l_nil ?_
  repeat refine c_seq ?_
  refine c_region ?_
  refine l_op (o_val (r_mv) ?_)
  refine l_op (o_val (r_mv) ?_)
  refine l_op (o_callR Try.func13 rfl rfl rfl (mark18_ret _ g (hg.up H) (ob_up ho H) (by (try dsimp only); omega) r (hr.up H) (by (try dsimp only); omega)) ?_)
  rintro _ w ⟨a1, k2, R3, hmk4, rfl, Hc⟩
  replace H : Hp _ w _ ([.own a1 R3.length k2 ((R3).flatMap idE) 29 32]) := H.call Hc
  clear Hc
  have hmk4l := mark_len hmk4
  refine l_op (o_val (r_as) ?_)
  first | refine l_end ?_ | refine l_nil ?_
  repeat refine c_seq ?_
  refine c_region ?_
  refine l_op (o_val (r_as) ?_)
  first | refine l_end ?_ | refine l_nil ?_
  repeat refine c_seq ?_
  refine c_region ?_
  refine l_op (o_val (r_as) ?_)
  first | refine l_end ?_ | refine l_nil ?_
  repeat refine c_seq ?_
  refine c_block ?_
  repeat refine c_seq ?_
  refine c_loop4 (fun (i : Nat) (R : List Id32) (a : Option Nat) (k : Nat) => [(0, g.v), (5, .slice (hd a1) R3.length k2), (6, .slice (hd a) R.length k), (7, VI (i : Int))])
    (fun (i : Nat) (R : List Id32) (a : Option Nat) (k : Nat) w => (i ≤ g.len ∧ OutL g.l R3 i R) ∧ Hp w0 w [] ([.own a1 R3.length k2 ((R3).flatMap idE) 29 32, .own a R.length k ((R).flatMap idE) 29 32]))
    (fun (i : Nat) (R : List Id32) (a : Option Nat) (k : Nat) => g.len - i) 0 ([]) none 0 ⟨rfl, rfl, rfl, rfl, trivial⟩ ⟨⟨Nat.zero_le _, OutL.start⟩, ((H.sub (.cons_cons _ (List.nil_sublist _))).nilEnd 29 32)⟩ ?_
  clear H
  rintro i R a k τ w ⟨⟨hil5, hout⟩, H⟩
  have hrl5 := hout.2.2
  repeat refine c_seq ?_
  refine c_region ?_
  refine l_op (o_val (r_mv) ?_)
  refine l_op (o_val (r_mv) ?_)
  refine l_op (o_val (r_lens el22 rfl) ?_)
  refine l_op (o_val (r_bin (a := (i : Int)) (b := (g.len : Int)) rfl rfl (fun _ => b_lss)) ?_)
  first | refine l_end ?_ | refine l_nil ?_
  by_cases hc5 : (i : Int) < (g.len : Int)
  ·
   repeat refine c_seq ?_
   refine c_yes (by exact congrArg Value.bool (decide_eq_true hc5)) ?_
   refine c_skip ?_
   repeat refine c_seq ?_
   refine c_block ?_
   have he0 : ∃ c, g.l[i]? = some c := ⟨_, List.getElem?_eq_getElem (by omega)⟩
   obtain ⟨e0, he0⟩ := he0
   have hez0 := hg.sz e0 (List.mem_of_getElem? he0)
   repeat refine c_seq ?_
   refine c_region ?_
   refine l_op (o_val (r_as) ?_)
   first | refine l_end ?_ | refine l_nil ?_
   repeat refine c_seq ?_
   refine c_region ?_
   refine l_op (o_val (r_as) ?_)
   first | refine l_end ?_ | refine l_nil ?_
   repeat refine c_seq ?_
   refine c_block ?_
   repeat refine c_seq ?_
   refine c_loop2 (fun (j : Nat) (is : Bool) => [(0, g.v), (5, .slice (hd a1) R3.length k2), (6, .slice (hd a) R.length k), (7, VI (i : Int)), (8, .bool is), (9, VI (j : Int))])
     (fun (j : Nat) (is : Bool) w => (j ≤ R3.length ∧ (is = true ↔ ∃ x ∈ R3.take j, x = e0.of)) ∧ Hp w0 w [] ([.own a1 R3.length k2 ((R3).flatMap idE) 29 32, .own a R.length k ((R).flatMap idE) 29 32]))
     (fun (j : Nat) (is : Bool) => R3.length - j) 0 false ⟨rfl, rfl, rfl, rfl, rfl, rfl, trivial⟩ ⟨⟨Nat.zero_le _, ⟨fun h => (by cases h), fun ⟨x, hx, _⟩ => (by rw [List.take_zero] at hx; cases hx)⟩⟩, H⟩ ?_
   clear H
   rintro j is τ w ⟨⟨hj, hin⟩, H⟩
   repeat refine c_seq ?_
   refine c_region ?_
   refine l_op (o_val (r_mv) ?_)
   refine l_op (o_val (r_mv) ?_)
   refine l_op (o_val (r_lens el23 rfl) ?_)
   refine l_op (o_val (r_bin (a := (j : Int)) (b := (R3.length : Int)) rfl rfl (fun _ => b_lss)) ?_)
   first | refine l_end ?_ | refine l_nil ?_
   by_cases hc6 : (j : Int) < (R3.length : Int)
   ·
    repeat refine c_seq ?_
    refine c_yes (by exact congrArg Value.bool (decide_eq_true hc6)) ?_
    refine c_skip ?_
    repeat refine c_seq ?_
    refine c_block ?_
    repeat refine c_seq ?_
    refine c_still mixed (by kernel_rfl) ?_
    replace H := H.drew
    refine s_op (r_mv) ?_
    refine s_op (r_mv) ?_
    have hc70 := Bool.eq_false_or_eq_true (is)
    rcases hc70 with hc7 | hc7
    ·
     refine s_no rfl rfl (by exact congrArg Value.bool hc7) rfl ?_
     refine s_no rfl rfl (by exact congrArg Value.bool hc7) rfl ?_
     refine s_no rfl rfl (by exact congrArg Value.bool hc7) rfl ?_
     refine s_no rfl rfl (by exact congrArg Value.bool hc7) rfl ?_
     refine s_no rfl rfl (by exact congrArg Value.bool hc7) rfl ?_
     refine s_no rfl rfl (by exact congrArg Value.bool hc7) rfl ?_
     refine s_no rfl rfl (by exact congrArg Value.bool hc7) rfl ?_
     refine s_no rfl rfl (by exact congrArg Value.bool hc7) rfl ?_
     refine s_no rfl rfl (by exact congrArg Value.bool hc7) rfl ?_
     refine s_no rfl rfl (by exact congrArg Value.bool hc7) rfl ?_
     refine s_op (r_pick (b := true) (congrArg Value.bool hc7)) ?_
     refine s_op (r_as) ?_
     refine s_nil ?_
     repeat refine c_seq ?_
     refine c_region ?_
     refine l_op (o_val (r_mv) ?_)
     refine l_op (o_val (r_bin (a := (j : Int)) (b := 1) rfl rfl (fun _ => b_add (by omega) (by omega))) ?_)
     refine l_op (o_val (r_as) ?_)
     first | refine l_end ?_ | refine l_nil ?_
     refine round_end (j + 1, true) ?_ ?_ ?_
     · exact ⟨rfl, rfl, rfl, rfl, rfl, show VI ((j : Int) + 1) = VI ((j + 1 : Nat) : Int) from congrArg VI (by omega), trivial⟩
     · refine ⟨?_, ?_⟩
       · try dsimp only
         exact ⟨by omega, in_keep hin hc7⟩
       · exact H.sub (.cons_cons _ (.cons_cons _ (List.nil_sublist _)))
     · show R3.length - (j + 1 : Nat) < R3.length - j; omega
    ·
     refine s_yes rfl rfl (by exact congrArg Value.bool hc7) (r_mv) ?_
     refine s_yes rfl rfl (by exact congrArg Value.bool hc7) (r_mv) ?_
     have ah9 := H.ownAddr (i := 0) rfl (by omega)
     obtain ⟨ab8, ah9⟩ := ah9
     refine s_yes rfl rfl (by exact congrArg Value.bool hc7) (r_isN j rfl rfl el23 ah9 (by omega) (by (try simp only [Sl.cut]); omega)) ?_
     have he11 : ∃ c, (R3)[j]? = some c := ⟨_, List.getElem?_eq_getElem (by have := ((H.glOwn (i := 0) rfl (by decide) (fun c _ => idE_len c))).ln; (try dsimp only at this ⊢); omega)⟩
     obtain ⟨e10, he11⟩ := he11
     have hez12 := ((H.glOwn (i := 0) rfl (by decide) (fun c _ => idE_len c))).sz e10 (List.mem_of_getElem? he11)
     refine s_yes rfl rfl (by exact congrArg Value.bool hc7) (r_ldRow (s := (⟨hd a1, R3.length, k2, R3⟩ : Gl Id32)) (k := j) (H.glOwn (i := 0) rfl (by decide) (fun c _ => idE_len c)) ah9 rfl rt29 (by decide) he11) ?_
     refine s_yes rfl rfl (by exact congrArg Value.bool hc7) (r_mv) ?_
     refine s_yes rfl rfl (by exact congrArg Value.bool hc7) (r_mv) ?_
     have ah15 := ((hg.up H)).addr (by decide) (by first | omega | (dsimp only; omega))
     obtain ⟨ab13, ao14, ah15⟩ := ah15
     refine s_yes rfl rfl (by exact congrArg Value.bool hc7) (r_isN i rfl rfl el22 ah15 (by omega) (by (try simp only [Sl.cut]); omega)) ?_
     refine s_yes rfl rfl (by exact congrArg Value.bool hc7) (r_fa rfl fo34_0) ?_
     refine s_yes rfl rfl (by exact congrArg Value.bool hc7) (r_gk (s := g) (j := i) (hg.up H) ah15 rfl rt29 (by decide) he0 (show Cut3 (obE e0) (([] : List Value)) ((e0.of.1).map V8) (([e0.data.v] : List Value)) 0 32 from ⟨(show (e0.of.1).map V8 ++ (([e0.data.v] : List Value)) = ([] : List Value) ++ (((e0.of.1).map V8) ++ (([e0.data.v] : List Value))) from by simp only [List.nil_append]), (by rfl), (by simp only [List.length_map, (show (e0.of.1).length = 32 from e0.of.2)])⟩)) ?_
     refine s_yes rfl rfl (by exact congrArg Value.bool hc7) (r_eqa (a := e10.1) (b := e0.of.1) Try.underlying29 Try.underlying5 cs5 rfl rfl (show (e10.1).length = 32 from e10.2) (show (e0.of.1).length = 32 from e0.of.2)) ?_
     refine s_op (r_pick (b := false) (congrArg Value.bool hc7)) ?_
     refine s_op (r_as) ?_
     refine s_nil ?_
     repeat refine c_seq ?_
     refine c_region ?_
     refine l_op (o_val (r_mv) ?_)
     refine l_op (o_val (r_bin (a := (j : Int)) (b := 1) rfl rfl (fun _ => b_add (by omega) (by omega))) ?_)
     refine l_op (o_val (r_as) ?_)
     first | refine l_end ?_ | refine l_nil ?_
     refine round_end (j + 1, decide (e10.1 = e0.of.1)) ?_ ?_ ?_
     · exact ⟨rfl, rfl, rfl, rfl, rfl, show VI ((j : Int) + 1) = VI ((j + 1 : Nat) : Int) from congrArg VI (by omega), trivial⟩
     · refine ⟨?_, ?_⟩
       · try dsimp only
         exact ⟨by omega, in_step he11 hin hc7⟩
       · exact H.sub (.cons_cons _ (.cons_cons _ (List.nil_sublist _)))
     · show R3.length - (j + 1 : Nat) < R3.length - j; omega
   ·
    repeat refine c_seq ?_
    refine c_no (by exact congrArg Value.bool (decide_eq_false hc6)) ?_
    refine c_exit ?_
    repeat refine c_seq ?_
    refine c_region ?_
    refine l_op (o_val (r_mv) ?_)
    refine l_op (o_val (r_not rfl) ?_)
    first | refine l_end ?_ | refine l_nil ?_
    have hc160 := Bool.eq_false_or_eq_true (is)
    rcases hc160 with hc16 | hc16
    ·
     repeat refine c_seq ?_
     refine c_no (by exact congrArg Value.bool (congrArg not hc16)) ?_
     refine c_skip ?_
     repeat refine c_seq ?_
     refine c_region ?_
     refine l_op (o_val (r_mv) ?_)
     refine l_op (o_val (r_bin (a := (i : Int)) (b := 1) rfl rfl (fun _ => b_add (by omega) (by omega))) ?_)
     refine l_op (o_val (r_as) ?_)
     first | refine l_end ?_ | refine l_nil ?_
     refine round_end (i + 1, R, a, k) ?_ ?_ ?_
     · exact ⟨rfl, rfl, rfl, show VI ((i : Int) + 1) = VI ((i + 1 : Nat) : Int) from congrArg VI (by omega), trivial⟩
     · refine ⟨?_, ?_⟩
       · try dsimp only
         exact ⟨by omega, hout.skip he0 (.inl (by have := (hin.1 hc16); obtain ⟨x, hx, hxe⟩ := this; rw [← hxe]; exact List.mem_of_mem_take hx))⟩
       · exact H.sub (.cons_cons _ (.cons_cons _ (List.nil_sublist _)))
     · show g.len - (i + 1 : Nat) < g.len - i; omega
    ·
     repeat refine c_seq ?_
     refine c_yes (by exact congrArg Value.bool (congrArg not hc16)) ?_
     repeat refine c_seq ?_
     refine c_region ?_
     refine l_op (o_val (r_mv) ?_)
     refine l_op (o_val (r_mv) ?_)
     refine l_op (o_val (r_mv) ?_)
     have ah19 := ((hg.up H)).addr (by decide) (by first | omega | (dsimp only; omega))
     obtain ⟨ab17, ao18, ah19⟩ := ah19
     refine l_op (o_val (r_isN i rfl rfl el22 ah19 (by omega) (by (try simp only [Sl.cut]); omega)) ?_)
     refine l_op (o_val (r_fa rfl fo34_0) ?_)
     refine l_op (o_val (r_gk (s := g) (j := i) (hg.up H) ah19 rfl rt29 (by decide) he0 (show Cut3 (obE e0) (([] : List Value)) ((e0.of.1).map V8) (([e0.data.v] : List Value)) 0 32 from ⟨(show (e0.of.1).map V8 ++ (([e0.data.v] : List Value)) = ([] : List Value) ++ (((e0.of.1).map V8) ++ (([e0.data.v] : List Value))) from by simp only [List.nil_append]), (by rfl), (by simp only [List.length_map, (show (e0.of.1).length = 32 from e0.of.2)])⟩)) ?_)
     by_cases hc20 : e0.of ∈ R
     ·
      refine l_op (o_callR Try.func29 rfl rfl rfl (with_in _ ⟨hd a, R.length, k, R⟩ (H.glOwn (i := 1) rfl (by decide) (fun c _ => idE_len c)) e0.of hout.1 (by (try dsimp only); omega) hc20) ?_)
      rintro _ w ⟨rfl, Hc⟩
      replace H : Hp _ w _ ([_, _]) := H.call Hc
      clear Hc
      refine l_op (o_val (r_as) ?_)
      first | refine l_end ?_ | refine l_nil ?_
      repeat refine c_seq ?_
      refine c_region ?_
      refine l_op (o_val (r_mv) ?_)
      refine l_op (o_val (r_bin (a := (i : Int)) (b := 1) rfl rfl (fun _ => b_add (by omega) (by omega))) ?_)
      refine l_op (o_val (r_as) ?_)
      first | refine l_end ?_ | refine l_nil ?_
      refine round_end (i + 1, R, a, k) ?_ ?_ ?_
      · exact ⟨rfl, rfl, rfl, show VI ((i : Int) + 1) = VI ((i + 1 : Nat) : Int) from congrArg VI (by omega), trivial⟩
      · refine ⟨?_, ?_⟩
        · try dsimp only
          exact ⟨by omega, hout.skip he0 (.inr hc20)⟩
        · exact H.sub (.cons_cons _ (.cons_cons _ (List.nil_sublist _)))
      · show g.len - (i + 1 : Nat) < g.len - i; omega
     ·
      refine l_op (o_callR Try.func29 rfl rfl rfl (with_out _ ⟨hd a, R.length, k, R⟩ (H.glOwn (i := 1) rfl (by decide) (fun c _ => idE_len c)) e0.of hout.1 (by (try dsimp only); omega) hc20) ?_)
      rintro _ w ⟨a21, c22, R23, hri24, rfl, Hc⟩
      replace H : Hp _ w _ ([_, _, .own a21 R23.length c22 ((R23).flatMap idE) 29 32]) := H.call Hc
      clear Hc
      refine l_op (o_val (r_as) ?_)
      first | refine l_end ?_ | refine l_nil ?_
      repeat refine c_seq ?_
      refine c_region ?_
      refine l_op (o_val (r_mv) ?_)
      refine l_op (o_val (r_bin (a := (i : Int)) (b := 1) rfl rfl (fun _ => b_add (by omega) (by omega))) ?_)
      refine l_op (o_val (r_as) ?_)
      first | refine l_end ?_ | refine l_nil ?_
      refine round_end (i + 1, R23, a21, c22) ?_ ?_ ?_
      · exact ⟨rfl, rfl, rfl, show VI ((i : Int) + 1) = VI ((i + 1 : Nat) : Int) from congrArg VI (by omega), trivial⟩
      · refine ⟨?_, ?_⟩
        · try dsimp only
          exact ⟨by omega, hout.put he0 (fun hx => by have h2 := (hin.2 ⟨e0.of, by rw [List.take_of_length_le (by omega)]; exact hx, rfl⟩); rw [hc16] at h2; cases h2) hri24⟩
        · exact H.sub (.cons_cons _ (.cons _ (.cons_cons _ (List.nil_sublist _))))
      · show g.len - (i + 1 : Nat) < g.len - i; omega
  ·
   repeat refine c_seq ?_
   refine c_no (by exact congrArg Value.bool (decide_eq_false hc5)) ?_
   refine c_exit ?_
   repeat refine c_seq ?_
   refine c_region ?_
   refine l_op (o_val (r_mv) ?_)
   refine l_op (o_val (r_as) ?_)
   first | refine l_end ?_ | refine l_nil ?_
   refine c_ret ?_
   try dsimp only [Exit.then, Exit.inBlock]
   refine e_ret1 (v := .slice (hd a) R.length k) Try.results14 rfl ?_
   refine ⟨_, rfl, ?_⟩
   have hi2 : i = g.l.length := by omega
   subst hi2
   exact ⟨_, _, _, outL_lost hmk4 hout, rfl, H.sub (.cons _ (.cons_cons _ (List.nil_sublist _)))⟩
end Go.Proofs.Ytomjbabllcmodaa
namespace Go.Proofs.Ytomjbabllcmodaa
open Go
set_option maxRecDepth 100000
def bIt : It := ⟨[97], 1, shaI [7], 1⟩
def bDir : List UInt8 := fldB [bIt]
theorem sha_78 : (sha256 [7] == sha256 [8]) = false := by decide +kernel
theorem sha_7d : (sha256 [7] == sha256 bDir) = false := by decide +kernel
theorem sha_8d : (sha256 [8] == sha256 bDir) = false := by decide +kernel
theorem ne_of_beq {a b : List UInt8} (h : (sha256 a == sha256 b) = false) : shaI a ≠ shaI b := fun e => by
  have e3 : sha256 a = sha256 b := congrArg Subtype.val e
  rw [e3] at h
  simp at h
theorem nameOk_a : NameOk [97] := by decide
theorem bIt_may : MayF [bIt] := by
  refine ⟨by simp, fun x hx => ?_, fun i x y hx hy => ?_⟩
  · rw [List.mem_singleton.1 hx]
    exact ⟨nameOk_a, .inl rfl, by decide, by decide⟩
  · have := (List.getElem?_eq_some_iff.1 hy).1
    simp at this
theorem bDir_len : bDir.length = 39 := by
  have := (shaI [7]).2
  simp only [bDir, fldB, List.flatMap_cons, List.flatMap_nil, List.append_nil, itB, bIt, List.length_append, List.length_cons, List.length_nil, this]
  rw [cnt_one _ (by decide), cnt_one _ (by decide)]
  rfl
theorem bDir_take : takeF bDir = some [bIt] := takeF_some bIt_may rfl (by rw [bDir_len]; decide)
theorem byte_take (c : UInt8) : takeF [c] = none := take_no1 (.inr (by
  cases h : ([68, 49] : List UInt8).isPrefixOf [c] with
  | false => rfl
  | true => obtain ⟨t, ht⟩ := List.isPrefixOf_iff_prefix.1 h; simp at ht))
theorem tk_byte (c : UInt8) : tkF [c] = [] := by rw [tkF, byte_take]; rfl
theorem tk_dir : tkF bDir = [bIt] := by rw [tkF, bDir_take]; rfl
theorem bytesRes_ok {g : List It} {t : List UInt8} {e : Int} (h : BytesRes g t e) (hm : MayF g) (hl : (fldB g).length ≤ 4000) : e = 0 ∧ t = fldB g := by
  rcases h with ⟨h1, _, h2, _⟩ | ⟨_, _, h3⟩
  · exact ⟨h1, h2⟩
  · exact absurd ⟨mayB_of hm, hl⟩ h3
theorem look3 {a b c : Id32} {x y z : Sl} (hab : a ≠ b) (hac : a ≠ c) (hbc : b ≠ c) : lookS [⟨a, x⟩, ⟨b, y⟩, ⟨c, z⟩] a = some x ∧ lookS [⟨a, x⟩, ⟨b, y⟩, ⟨c, z⟩] b = some y ∧ lookS [⟨a, x⟩, ⟨b, y⟩, ⟨c, z⟩] c = some z ∧ ∀ k, (lookS [⟨a, x⟩, ⟨b, y⟩, ⟨c, z⟩] k).isSome = true → k = a ∨ k = b ∨ k = c := by
  refine ⟨by simp [lookS_cons], by simp [lookS_cons, hab], by simp [lookS_cons, hac, hbc], fun k hk => ?_⟩
  rw [lookS_cons, lookS_cons, lookS_cons] at hk
  by_cases h1 : a = k
  · exact .inl h1.symm
  · by_cases h2 : b = k
    · exact .inr (.inl h2.symm)
    · by_cases h3 : c = k
      · exact .inr (.inr h3.symm)
      · rw [if_neg h1, if_neg h2, if_neg h3] at hk; cases hk
/-- what is reached of the three objects that layer 18 begins with. -/
theorem rch_begun {x y z : Sl} (hx : x.l = [7]) (_hy : y.l = [8]) (hz : z.l = bDir) (k : Id32) : Rch tkF (obL [⟨shaI [7], x⟩, ⟨shaI [8], y⟩, ⟨shaI bDir, z⟩]) [shaI bDir] k ↔ k = shaI bDir ∨ k = shaI [7] := by
  obtain ⟨l1, l2, l3, l4⟩ := look3 (x := x) (y := y) (z := z) (ne_of_beq sha_78) (ne_of_beq sha_7d) (ne_of_beq sha_8d)
  constructor
  · refine Rch.least (S := fun k => k = shaI bDir ∨ k = shaI [7]) (fun w hw _ => .inl (List.mem_singleton.1 hw)) (fun w d i hS hd hi _ => ?_) k
    rw [lookS_l] at hd
    rcases hS with rfl | rfl
    · rw [l3] at hd
      have : z.l = d := Option.some.inj hd
      rw [← this, hz, tk_dir, List.mem_singleton] at hi
      rw [hi]; exact .inr rfl
    · rw [l1] at hd
      have : x.l = d := Option.some.inj hd
      rw [← this, hx, tk_byte] at hi
      cases hi
  · have hr : Rch tkF (obL [⟨shaI [7], x⟩, ⟨shaI [8], y⟩, ⟨shaI bDir, z⟩]) [shaI bDir] (shaI bDir) := .root (by simp) (by rw [lookS_isSome, l3]; rfl)
    rintro (rfl | rfl)
    · exact hr
    · exact .step (i := bIt) hr (by rw [lookS_l, l3]; rfl) (by show bIt ∈ tkF z.l; rw [hz, tk_dir]; simp) (by rw [lookS_isSome]; show (lookS _ (shaI [7])).isSome = true; rw [l1]; rfl)
theorem ris_nodup {l : List Id32} (h : RisA l) : l.Nodup := h.imp fun {x y} hxy e => by rw [e] at hxy; exact lt_irr _ hxy
theorem begun_mark {x y z : Sl} (hx : x.l = [7]) (hy : y.l = [8]) (hz : z.l = bDir) {R : List Id32} (h : IsMark [⟨shaI [7], x⟩, ⟨shaI [8], y⟩, ⟨shaI bDir, z⟩] [shaI bDir] R) : R.length = 2 := by
  have hm : ∀ k, k ∈ R ↔ k = shaI bDir ∨ k = shaI [7] := fun k => (h.2 k).trans (rch_begun hx hy hz k)
  have h1 := nd_le (m := [shaI bDir, shaI [7]]) (ris_nodup h.1) (fun k hk => by simpa using (hm k).1 hk)
  have h2 := nd_le (l := [shaI bDir, shaI [7]]) (m := R) (by simp [(ne_of_beq sha_7d).symm]) (fun k hk => (hm k).2 (by simpa using hk))
  simp at h1 h2
  omega
theorem begun_lost {x y z : Sl} (hx : x.l = [7]) (hy : y.l = [8]) (hz : z.l = bDir) {R : List Id32} (h : IsLost [⟨shaI [7], x⟩, ⟨shaI [8], y⟩, ⟨shaI bDir, z⟩] [shaI bDir] R) : R = [shaI [8]] := by
  obtain ⟨l1, l2, l3, l4⟩ := look3 (x := x) (y := y) (z := z) (ne_of_beq sha_78) (ne_of_beq sha_7d) (ne_of_beq sha_8d)
  refine rising_uniq (fun a b h1 h2 => lt_irr _ (lt_tr h1 h2)) h.1 (List.pairwise_singleton _ _) fun k => ?_
  rw [h.2, List.mem_singleton, rch_begun hx hy hz]
  constructor
  · rintro ⟨h1, h2⟩
    rcases l4 k h1 with rfl | rfl | rfl
    · exact absurd (.inr rfl) h2
    · rfl
    · exact absurd (.inl rfl) h2
  · rintro rfl
    exact ⟨by rw [l2]; rfl, fun h => by
      rcases h with h | h
      · exact ne_of_beq sha_8d h
      · exact ne_of_beq sha_78 h.symm⟩
theorem mark_uniq {l : List Ob} {roots R R' : List Id32} (h : IsMark l roots R) (h' : IsMark l roots R') : R = R' := rising_uniq (fun _ _ h1 h2 => lt_irr _ (lt_tr h1 h2)) h.1 h'.1 fun k => (h.2 k).trans (h'.2 k).symm
theorem lost_uniq {l : List Ob} {roots R R' : List Id32} (h : IsLost l roots R) (h' : IsLost l roots R') : R = R' := rising_uniq (fun _ _ h1 h2 => lt_irr _ (lt_tr h1 h2)) h.1 h'.1 fun k => (h.2 k).trans (h'.2 k).symm
end Go.Proofs.Ytomjbabllcmodaa
namespace Go.Proofs.Ytomjbabllcmodaa
open Go
set_option maxRecDepth 100000
theorem all3 {w : World} {a b c : Ob} (ha : a.data.ok w ∧ a.data.len ≤ 1048576) (hb : b.data.ok w ∧ b.data.len ≤ 1048576) (hc : c.data.ok w ∧ c.data.len ≤ 1048576) : ∀ o ∈ [a, b, c], o.data.ok w ∧ o.data.len ≤ 1048576 := fun o ho => by
  simp only [List.mem_cons, List.not_mem_nil, or_false] at ho
  rcases ho with rfl | rfl | rfl
  · exact ha
  · exact hb
  · exact hc
theorem begunMark {x y z : Sl} {t : List UInt8} (ht : t = bDir) (hx : x.l = [7]) (hy : y.l = [8]) (hz : z.l = t) {R : List Id32} (h : IsMark [⟨shaI [7], x⟩, ⟨shaI [8], y⟩, ⟨shaI t, z⟩] [shaI t] R) : R.length = 2 := by subst ht; exact begun_mark hx hy hz h
theorem begunLost {x y z : Sl} {t : List UInt8} (ht : t = bDir) (hx : x.l = [7]) (hy : y.l = [8]) (hz : z.l = t) {R : List Id32} (h : IsLost [⟨shaI [7], x⟩, ⟨shaI [8], y⟩, ⟨shaI t, z⟩] [shaI t] R) : R = [shaI [8]] := by subst ht; exact begun_lost hx hy hz h
theorem bFits : ∀ x ∈ [bIt], x.name.length ≤ 65536 ∧ x.size ≤ 9223372036854775807 := fun x hx => by
  rw [List.mem_singleton.1 hx]; exact ⟨by decide, by decide⟩
theorem begun18_ret (w0 : World) :
    Ret Try.prog 8 [] w0 fun v w' => v = .bool true ∧ Hp w0 w' [] [] := by
  refine ret_mk Try.func8 rfl Try.ntmps8 (by simp) ?_
  have H := Hp.refl w0 []
  repeat refine c_seq ?_
  refine c_region ?_
  refine l_op (o_val (r_as) ?_)
  first | refine l_end ?_ | refine l_nil ?_
  repeat refine c_seq ?_
  refine c_region ?_
  refine l_op (o_bslB ([(7 : UInt8)]) H sl32 zc5 rfl rfl (by decide) (fun b1 w H hb1 => ?_))
  replace H : Hp _ w _ ([.own (some b1) 1 1 (([(7 : UInt8)]).map V8) 5 1]) := H
  refine l_op (o_callR Try.func24 rfl rfl rfl (of17_ret _ ⟨hd (some b1), 1, 1, [(7 : UInt8)]⟩ (H.slOwn (i := 0) rfl) (by (try dsimp only); omega)) ?_)
  rintro _ w ⟨a2, c3, rfl, Hc⟩
  replace H : Hp _ w _ ([_, .own a2 (([(7 : UInt8)]).length) c3 (([(7 : UInt8)]).map V8) 5 1]) := H.call Hc
  clear Hc
  refine l_op (o_bslB ([(8 : UInt8)]) H sl32 zc5 rfl rfl (by decide) (fun b4 w H hb4 => ?_))
  replace H : Hp _ w _ ([_, _, .own (some b4) 1 1 (([(8 : UInt8)]).map V8) 5 1]) := H
  refine l_op (o_callR Try.func24 rfl rfl rfl (of17_ret _ ⟨hd (some b4), 1, 1, [(8 : UInt8)]⟩ (H.slOwn (i := 2) rfl) (by (try dsimp only); omega)) ?_)
  rintro _ w ⟨a5, c6, rfl, Hc⟩
  replace H : Hp _ w _ ([_, _, _, .own a5 (([(8 : UInt8)]).length) c6 (([(8 : UInt8)]).map V8) 5 1]) := H.call Hc
  clear Hc
  refine l_op (o_alloc H zc34 (fun b7 w H hb7 => ?_))
  replace H : Hp _ w _ ([_, _, _, _, .blk b7 ((List.replicate 32 (0 : UInt8)).map V8 ++ (([.slice none 0 0] : List Value))) 34]) := H
  refine l_op (o_alloc H zc34 (fun b8 w H hb8 => ?_))
  replace H : Hp _ w _ ([_, _, _, _, _, .blk b8 ((List.replicate 32 (0 : UInt8)).map V8 ++ (([.slice none 0 0] : List Value))) 34]) := H
  refine l_op (o_stW (C' := ((shaI ([(7 : UInt8)])).1).map V8 ++ (([.slice (hd a2) (([(7 : UInt8)]).length) c3] : List Value))) H (i := 4) rfl rfl rfl cs34 (by first | (simp [Value.oneCell', List.all_append, List.all_map]; done) | (simp only [List.all_append, List.all_cons, List.all_nil, List.all_map]; simp [Value.oneCell', Function.comp_def])) (by simp only [List.length_append, List.length_map, List.length_cons, List.length_nil, (show (List.replicate 32 (0 : UInt8)).length = 32 from (List.length_replicate ..))]) (by simp only [List.length_append, List.length_map, List.length_cons, List.length_nil, (show ((shaI ([(7 : UInt8)])).1).length = 32 from (shaI ([(7 : UInt8)])).2)]) (fun w H => ?_))
  replace H : Hp _ w _ ([_, _, _, _, .blk b7 (((shaI ([(7 : UInt8)])).1).map V8 ++ (([.slice (hd a2) (([(7 : UInt8)]).length) c3] : List Value))) 34, _]) := H
  refine l_op (o_stW (C' := ((shaI ([(8 : UInt8)])).1).map V8 ++ (([.slice (hd a5) (([(8 : UInt8)]).length) c6] : List Value))) H (i := 5) rfl rfl rfl cs34 (by first | (simp [Value.oneCell', List.all_append, List.all_map]; done) | (simp only [List.all_append, List.all_cons, List.all_nil, List.all_map]; simp [Value.oneCell', Function.comp_def])) (by simp only [List.length_append, List.length_map, List.length_cons, List.length_nil, (show (List.replicate 32 (0 : UInt8)).length = 32 from (List.length_replicate ..))]) (by simp only [List.length_append, List.length_map, List.length_cons, List.length_nil, (show ((shaI ([(8 : UInt8)])).1).length = 32 from (shaI ([(8 : UInt8)])).2)]) (fun w H => ?_))
  replace H : Hp _ w _ ([_, _, _, _, _, .blk b8 (((shaI ([(8 : UInt8)])).1).map V8 ++ (([.slice (hd a5) (([(8 : UInt8)]).length) c6] : List Value))) 34]) := H
  first | refine l_end ?_ | refine l_nil ?_
  repeat refine c_seq ?_
  refine c_region ?_
  refine l_op (o_val (r_fa rfl fo34_0) ?_)
  refine l_op (o_val (r_lk H (i := 4) rfl rfl rt29 (show Cut3 (((shaI ([(7 : UInt8)])).1).map V8 ++ (([.slice (hd a2) (([(7 : UInt8)]).length) c3] : List Value))) (([] : List Value)) (((shaI ([(7 : UInt8)])).1).map V8) (([.slice (hd a2) (([(7 : UInt8)]).length) c3] : List Value)) 0 32 from ⟨(show ((shaI ([(7 : UInt8)])).1).map V8 ++ (([.slice (hd a2) (([(7 : UInt8)]).length) c3] : List Value)) = ([] : List Value) ++ ((((shaI ([(7 : UInt8)])).1).map V8) ++ (([.slice (hd a2) (([(7 : UInt8)]).length) c3] : List Value))) from by simp only [List.nil_append]), (by rfl), (by simp only [List.length_map, (show ((shaI ([(7 : UInt8)])).1).length = 32 from (shaI ([(7 : UInt8)])).2)])⟩)) ?_)
  refine l_op (o_val (r_bldG (Z := ([.string ⟨(([] : List UInt8)).toArray⟩, VI 0] : List Value) ++ ((List.replicate 32 (0 : UInt8)).map V8 ++ (([VI 0] : List Value)))) (E := ([.string ⟨(([97] : List UInt8)).toArray⟩, VI 1] : List Value) ++ (((shaI ([(7 : UInt8)])).1).map V8 ++ (([VI 1] : List Value)))) (pv := [(0, .string ⟨(([97] : List UInt8)).toArray⟩), (1, VI 1), (2, .agg (((shaI ([(7 : UInt8)])).1).map V8).toArray), (3, VI 1)]) bd54 rfl rfl (.cons (A := ([] : List Value)) (B := ([.string ⟨(([] : List UInt8)).toArray⟩] : List Value)) (D := ([VI 0] : List Value) ++ ((List.replicate 32 (0 : UInt8)).map V8 ++ (([VI 0] : List Value)))) (V := ([.string ⟨(([97] : List UInt8)).toArray⟩] : List Value)) (a := 0) (b := 1) rfl (show Cut3 (([.string ⟨(([] : List UInt8)).toArray⟩, VI 0] : List Value) ++ ((List.replicate 32 (0 : UInt8)).map V8 ++ (([VI 0] : List Value)))) (([] : List Value)) (([.string ⟨(([] : List UInt8)).toArray⟩] : List Value)) (([VI 0] : List Value) ++ ((List.replicate 32 (0 : UInt8)).map V8 ++ (([VI 0] : List Value)))) 0 1 from ⟨(show ([.string ⟨(([] : List UInt8)).toArray⟩, VI 0] : List Value) ++ ((List.replicate 32 (0 : UInt8)).map V8 ++ (([VI 0] : List Value))) = ([] : List Value) ++ ((([.string ⟨(([] : List UInt8)).toArray⟩] : List Value)) ++ (([VI 0] : List Value) ++ ((List.replicate 32 (0 : UInt8)).map V8 ++ (([VI 0] : List Value))))) from by simp only [List.cons_append, List.nil_append]), (by rfl), (by rfl)⟩) (by rfl) (by rfl) ((show ([.string ⟨(([97] : List UInt8)).toArray⟩, VI 0] : List Value) ++ ((List.replicate 32 (0 : UInt8)).map V8 ++ (([VI 0] : List Value))) = ([] : List Value) ++ ((([.string ⟨(([97] : List UInt8)).toArray⟩] : List Value)) ++ (([VI 0] : List Value) ++ ((List.replicate 32 (0 : UInt8)).map V8 ++ (([VI 0] : List Value))))) from by simp only [List.cons_append, List.nil_append]) ▸ .cons (A := ([.string ⟨(([97] : List UInt8)).toArray⟩] : List Value)) (B := ([VI 0] : List Value)) (D := (List.replicate 32 (0 : UInt8)).map V8 ++ (([VI 0] : List Value))) (V := ([VI 1] : List Value)) (a := 1) (b := 1) rfl (show Cut3 (([.string ⟨(([97] : List UInt8)).toArray⟩, VI 0] : List Value) ++ ((List.replicate 32 (0 : UInt8)).map V8 ++ (([VI 0] : List Value)))) (([.string ⟨(([97] : List UInt8)).toArray⟩] : List Value)) (([VI 0] : List Value)) ((List.replicate 32 (0 : UInt8)).map V8 ++ (([VI 0] : List Value))) 1 1 from ⟨(show ([.string ⟨(([97] : List UInt8)).toArray⟩, VI 0] : List Value) ++ ((List.replicate 32 (0 : UInt8)).map V8 ++ (([VI 0] : List Value))) = ([.string ⟨(([97] : List UInt8)).toArray⟩] : List Value) ++ ((([VI 0] : List Value)) ++ ((List.replicate 32 (0 : UInt8)).map V8 ++ (([VI 0] : List Value)))) from by simp only [List.cons_append, List.nil_append]), (by rfl), (by rfl)⟩) (by rfl) (by rfl) ((show ([.string ⟨(([97] : List UInt8)).toArray⟩, VI 1] : List Value) ++ ((List.replicate 32 (0 : UInt8)).map V8 ++ (([VI 0] : List Value))) = ([.string ⟨(([97] : List UInt8)).toArray⟩] : List Value) ++ ((([VI 1] : List Value)) ++ ((List.replicate 32 (0 : UInt8)).map V8 ++ (([VI 0] : List Value)))) from by simp only [List.cons_append, List.nil_append]) ▸ .cons (A := ([.string ⟨(([97] : List UInt8)).toArray⟩, VI 1] : List Value)) (B := (List.replicate 32 (0 : UInt8)).map V8) (D := ([VI 0] : List Value)) (V := ((shaI ([(7 : UInt8)])).1).map V8) (a := 2) (b := 32) rfl (show Cut3 (([.string ⟨(([97] : List UInt8)).toArray⟩, VI 1] : List Value) ++ ((List.replicate 32 (0 : UInt8)).map V8 ++ (([VI 0] : List Value)))) (([.string ⟨(([97] : List UInt8)).toArray⟩, VI 1] : List Value)) ((List.replicate 32 (0 : UInt8)).map V8) (([VI 0] : List Value)) 2 32 from ⟨(show ([.string ⟨(([97] : List UInt8)).toArray⟩, VI 1] : List Value) ++ ((List.replicate 32 (0 : UInt8)).map V8 ++ (([VI 0] : List Value))) = ([.string ⟨(([97] : List UInt8)).toArray⟩, VI 1] : List Value) ++ (((List.replicate 32 (0 : UInt8)).map V8) ++ (([VI 0] : List Value))) from by simp only [List.cons_append, List.nil_append]), (by rfl), (by simp only [List.length_map, (show (List.replicate 32 (0 : UInt8)).length = 32 from (List.length_replicate ..))])⟩) (by rfl) (by simp only [List.length_map, (show ((shaI ([(7 : UInt8)])).1).length = 32 from (shaI ([(7 : UInt8)])).2)]) ((show ([.string ⟨(([97] : List UInt8)).toArray⟩, VI 1] : List Value) ++ (((shaI ([(7 : UInt8)])).1).map V8 ++ (([VI 0] : List Value))) = ([.string ⟨(([97] : List UInt8)).toArray⟩, VI 1] : List Value) ++ ((((shaI ([(7 : UInt8)])).1).map V8) ++ (([VI 0] : List Value))) from by simp only [List.cons_append, List.nil_append]) ▸ .cons (A := ([.string ⟨(([97] : List UInt8)).toArray⟩, VI 1] : List Value) ++ (((shaI ([(7 : UInt8)])).1).map V8)) (B := ([VI 0] : List Value)) (D := ([] : List Value)) (V := ([VI 1] : List Value)) (a := 34) (b := 1) rfl (show Cut3 (([.string ⟨(([97] : List UInt8)).toArray⟩, VI 1] : List Value) ++ (((shaI ([(7 : UInt8)])).1).map V8 ++ (([VI 0] : List Value)))) (([.string ⟨(([97] : List UInt8)).toArray⟩, VI 1] : List Value) ++ (((shaI ([(7 : UInt8)])).1).map V8)) (([VI 0] : List Value)) (([] : List Value)) 34 1 from ⟨(show ([.string ⟨(([97] : List UInt8)).toArray⟩, VI 1] : List Value) ++ (((shaI ([(7 : UInt8)])).1).map V8 ++ (([VI 0] : List Value))) = (([.string ⟨(([97] : List UInt8)).toArray⟩, VI 1] : List Value) ++ (((shaI ([(7 : UInt8)])).1).map V8)) ++ ((([VI 0] : List Value)) ++ (([] : List Value))) from by simp only [List.cons_append, List.nil_append]), (by simp only [List.length_append, List.length_map, List.length_cons, List.length_nil, (show ((shaI ([(7 : UInt8)])).1).length = 32 from (shaI ([(7 : UInt8)])).2)]), (by rfl)⟩) (by rfl) (by rfl) ((show ([.string ⟨(([97] : List UInt8)).toArray⟩, VI 1] : List Value) ++ (((shaI ([(7 : UInt8)])).1).map V8 ++ (([VI 1] : List Value))) = (([.string ⟨(([97] : List UInt8)).toArray⟩, VI 1] : List Value) ++ (((shaI ([(7 : UInt8)])).1).map V8)) ++ ((([VI 1] : List Value)) ++ (([] : List Value))) from by simp only [List.cons_append, List.nil_append]) ▸ .nil _)))))) ?_)
  refine l_op (o_bslG1 (enc := itE) ((⟨([97] : List UInt8), 1, shaI ([(7 : UInt8)]), 1⟩ : It)) H sl52 zc54 (by rfl) (by decide) (by decide) rfl (itE_len _) (fun b9 w H hb9 => ?_))
  replace H : Hp _ w _ ([_, _, _, _, _, _, .own (some b9) 1 1 (([(⟨([97] : List UInt8), 1, shaI ([(7 : UInt8)]), 1⟩ : It)]).flatMap itE) 54 35]) := H
  refine l_op (o_callR Try.func25 rfl rfl rfl (folder17_ret _ ⟨hd (some b9), 1, 1, [(⟨([97] : List UInt8), 1, shaI ([(7 : UInt8)]), 1⟩ : It)]⟩ (H.glOwn (i := 6) rfl (by decide) (fun c _ => itE_len c)) bFits) ?_)
  rintro _ w ⟨a10, c11, t12, e13, hfo14, rfl, Hc⟩
  replace H : Hp _ w _ ([_, _, _, _, _, _, _, .own a10 t12.length c11 ((t12).map V8) 5 1]) := H.call Hc
  clear Hc
  skip
  refine l_op (o_alloc H zc34 (fun b15 w H hb15 => ?_))
  replace H : Hp _ w _ ([_, _, _, _, _, _, _, _, .blk b15 ((List.replicate 32 (0 : UInt8)).map V8 ++ (([.slice none 0 0] : List Value))) 34]) := H
  refine l_op (o_stW (C' := ((shaI t12).1).map V8 ++ (([.slice (hd a10) t12.length c11] : List Value))) H (i := 8) rfl rfl rfl cs34 (by first | (simp [Value.oneCell', List.all_append, List.all_map]; done) | (simp only [List.all_append, List.all_cons, List.all_nil, List.all_map]; simp [Value.oneCell', Function.comp_def])) (by simp only [List.length_append, List.length_map, List.length_cons, List.length_nil, (show (List.replicate 32 (0 : UInt8)).length = 32 from (List.length_replicate ..))]) (by simp only [List.length_append, List.length_map, List.length_cons, List.length_nil, (show ((shaI t12).1).length = 32 from (shaI t12).2)]) (fun w H => ?_))
  replace H : Hp _ w _ ([_, _, _, _, _, _, _, _, .blk b15 (((shaI t12).1).map V8 ++ (([.slice (hd a10) t12.length c11] : List Value))) 34]) := H
  first | refine l_end ?_ | refine l_nil ?_
  have hby := bytesRes_ok hfo14 bIt_may (by show bDir.length ≤ 4000; rw [bDir_len]; decide)
  have hbt : t12 = bDir := hby.2
  have hbl : t12.length = 39 := by rw [hbt, bDir_len]
  repeat refine c_seq ?_
  refine c_region ?_
  refine l_op (o_val (r_ldA (C := ((shaI ([(7 : UInt8)])).1).map V8 ++ (([.slice (hd a2) (([(7 : UInt8)]).length) c3] : List Value))) H (i := 4) rfl rfl rt34 (by simp only [List.length_append, List.length_map, List.length_cons, List.length_nil, (show ((shaI ([(7 : UInt8)])).1).length = 32 from (shaI ([(7 : UInt8)])).2)])) ?_)
  refine l_op (o_val (r_ldA (C := ((shaI ([(8 : UInt8)])).1).map V8 ++ (([.slice (hd a5) (([(8 : UInt8)]).length) c6] : List Value))) H (i := 5) rfl rfl rt34 (by simp only [List.length_append, List.length_map, List.length_cons, List.length_nil, (show ((shaI ([(8 : UInt8)])).1).length = 32 from (shaI ([(8 : UInt8)])).2)])) ?_)
  refine l_op (o_val (r_ldA (C := ((shaI t12).1).map V8 ++ (([.slice (hd a10) t12.length c11] : List Value))) H (i := 8) rfl rfl rt34 (by simp only [List.length_append, List.length_map, List.length_cons, List.length_nil, (show ((shaI t12).1).length = 32 from (shaI t12).2)])) ?_)
  refine l_op (o_bslGn (enc := obE) ([(⟨shaI ([(7 : UInt8)]), ⟨hd a2, ([(7 : UInt8)]).length, c3, [(7 : UInt8)]⟩⟩ : Ob), (⟨shaI ([(8 : UInt8)]), ⟨hd a5, ([(8 : UInt8)]).length, c6, [(8 : UInt8)]⟩⟩ : Ob), (⟨shaI t12, ⟨hd a10, t12.length, c11, t12⟩⟩ : Ob)]) H sl22 zc34 (by decide) rfl (by decide) (by rfl) (fun c _ => obE_len c) (fun b16 w H hb16 => ?_))
  replace H : Hp _ w _ ([_, _, _, _, _, _, _, _, _, .own (some b16) 3 3 (([(⟨shaI ([(7 : UInt8)]), ⟨hd a2, ([(7 : UInt8)]).length, c3, [(7 : UInt8)]⟩⟩ : Ob), (⟨shaI ([(8 : UInt8)]), ⟨hd a5, ([(8 : UInt8)]).length, c6, [(8 : UInt8)]⟩⟩ : Ob), (⟨shaI t12, ⟨hd a10, t12.length, c11, t12⟩⟩ : Ob)]).flatMap obE) 34 33]) := H
  refine l_op (o_val (r_as) ?_)
  first | refine l_end ?_ | refine l_nil ?_
  repeat refine c_seq ?_
  refine wp_held (fun w => Hp w0 w [] [.own (some b1) 1 1 (([(7 : UInt8)]).map V8) 5 1, .own a2 (([(7 : UInt8)]).length) c3 (([(7 : UInt8)]).map V8) 5 1, .own (some b4) 1 1 (([(8 : UInt8)]).map V8) 5 1, .own a5 (([(8 : UInt8)]).length) c6 (([(8 : UInt8)]).map V8) 5 1, .blk b7 (((shaI ([(7 : UInt8)])).1).map V8 ++ (([.slice (hd a2) (([(7 : UInt8)]).length) c3] : List Value))) 34, .blk b8 (((shaI ([(8 : UInt8)])).1).map V8 ++ (([.slice (hd a5) (([(8 : UInt8)]).length) c6] : List Value))) 34, .own (some b9) 1 1 (([(⟨([97] : List UInt8), 1, shaI ([(7 : UInt8)]), 1⟩ : It)]).flatMap itE) 54 35, .own a10 t12.length c11 ((t12).map V8) 5 1, .blk b15 (((shaI t12).1).map V8 ++ (([.slice (hd a10) t12.length c11] : List Value))) 34, .own (some b16) 3 3 (([(⟨shaI ([(7 : UInt8)]), ⟨hd a2, ([(7 : UInt8)]).length, c3, [(7 : UInt8)]⟩⟩ : Ob), (⟨shaI ([(8 : UInt8)]), ⟨hd a5, ([(8 : UInt8)]).length, c6, [(8 : UInt8)]⟩⟩ : Ob), (⟨shaI t12, ⟨hd a10, t12.length, c11, t12⟩⟩ : Ob)]).flatMap obE) 34 33]) mixed ?_
  replace H := H.drew
  have HS := H
  refine t_take 0 rfl (by kernel_rfl) (by kernel_rfl) (by kernel_rfl) (fun _ _ _ h => h) (fun w HS => r_mv) HS ?_
  refine t_take 1 rfl (by kernel_rfl) (by kernel_rfl) (by kernel_rfl) (fun _ _ _ h => h) (fun w HS => r_fa rfl fo34_0) HS ?_
  refine t_take 2 rfl (by kernel_rfl) (by kernel_rfl) (by kernel_rfl) (fun _ _ _ h => h) (fun w HS => r_lk HS (i := 8) rfl rfl rt29 (show Cut3 (((shaI t12).1).map V8 ++ (([.slice (hd a10) t12.length c11] : List Value))) (([] : List Value)) (((shaI t12).1).map V8) (([.slice (hd a10) t12.length c11] : List Value)) 0 32 from ⟨(show ((shaI t12).1).map V8 ++ (([.slice (hd a10) t12.length c11] : List Value)) = ([] : List Value) ++ ((((shaI t12).1).map V8) ++ (([.slice (hd a10) t12.length c11] : List Value))) from by simp only [List.nil_append]), (by rfl), (by simp only [List.length_map, (show ((shaI t12).1).length = 32 from (shaI t12).2)])⟩)) HS ?_
  refine t_take 5 rfl (by kernel_rfl) (by kernel_rfl) (by kernel_rfl) (fun _ _ _ h => h) (fun w HS => r_mv) HS ?_
  refine t_take 6 rfl (by kernel_rfl) (by kernel_rfl) (by kernel_rfl) (fun _ _ _ h => h) (fun w HS => r_fa rfl fo34_0) HS ?_
  refine t_take 7 rfl (by kernel_rfl) (by kernel_rfl) (by kernel_rfl) (fun _ _ _ h => h) (fun w HS => r_lk HS (i := 8) rfl rfl rt29 (show Cut3 (((shaI t12).1).map V8 ++ (([.slice (hd a10) t12.length c11] : List Value))) (([] : List Value)) (((shaI t12).1).map V8) (([.slice (hd a10) t12.length c11] : List Value)) 0 32 from ⟨(show ((shaI t12).1).map V8 ++ (([.slice (hd a10) t12.length c11] : List Value)) = ([] : List Value) ++ ((((shaI t12).1).map V8) ++ (([.slice (hd a10) t12.length c11] : List Value))) from by simp only [List.nil_append]), (by rfl), (by simp only [List.length_map, (show ((shaI t12).1).length = 32 from (shaI t12).2)])⟩)) HS ?_
  refine t_all [3, 8] (by kernel_rfl) (by simp) (all_cons (w_op 3 rfl ?_) (all_cons (w_op 8 rfl ?_) (all_nil)))
  ·
   refine (o_bslG1 (enc := idE) (shaI t12) H sl23 zc29 (by rfl) (by decide) (by decide) rfl (idE_len _) (fun b17 w H hb17 => ?_))
   replace H : Hp _ w _ ([_, _, _, _, _, _, _, _, _, _, .own (some b17) 1 1 (([shaI t12]).flatMap idE) 29 32]) := H
   refine ⟨H.sub (.cons_cons _ (.cons_cons _ (.cons_cons _ (.cons_cons _ (.cons_cons _ (.cons_cons _ (.cons_cons _ (.cons_cons _ (.cons_cons _ (.cons_cons _ (List.nil_sublist _))))))))))), ?_⟩
   replace HS := H.sub (.cons_cons _ (.cons_cons _ (.cons_cons _ (.cons_cons _ (.cons_cons _ (.cons_cons _ (.cons_cons _ (.cons_cons _ (.cons_cons _ (.cons_cons _ (List.nil_sublist _)))))))))))
   refine t_all [4, 8] (by kernel_rfl) (by simp) (all_cons (w_op 4 rfl ?_) (all_cons (w_op 8 rfl ?_) (all_nil)))
   ·
    refine (o_callR Try.func10 rfl rfl rfl (mark_ret _ ⟨hd (some b16), 3, 3, [(⟨shaI ([(7 : UInt8)]), ⟨hd a2, ([(7 : UInt8)]).length, c3, [(7 : UInt8)]⟩⟩ : Ob), (⟨shaI ([(8 : UInt8)]), ⟨hd a5, ([(8 : UInt8)]).length, c6, [(8 : UInt8)]⟩⟩ : Ob), (⟨shaI t12, ⟨hd a10, t12.length, c11, t12⟩⟩ : Ob)]⟩ (H.glOwn (i := 9) rfl (by decide) (fun c _ => obE_len c)) (all3 ⟨H.slOwn (i := 1) rfl, (by show 1 ≤ 1048576; decide)⟩ ⟨H.slOwn (i := 3) rfl, (by show 1 ≤ 1048576; decide)⟩ ⟨H.slOwn (i := 7) rfl, (by show t12.length ≤ 1048576; omega)⟩) (by (try dsimp only); omega) ⟨hd (some b17), 1, 1, [shaI t12]⟩ (H.glOwn (i := 10) rfl (by decide) (fun c _ => idE_len c)) (by (try dsimp only); omega)) ?_)
    rintro _ w ⟨a18, k19, R20, hmk21, rfl, Hc⟩
    replace H : Hp _ w _ ([_, _, _, _, _, _, _, _, _, _, _, .own a18 R20.length k19 ((R20).flatMap idE) 29 32]) := H.call Hc
    clear Hc
    have hmk21l := begunMark hbt rfl rfl rfl hmk21
    refine ⟨H.sub (.cons_cons _ (.cons_cons _ (.cons_cons _ (.cons_cons _ (.cons_cons _ (.cons_cons _ (.cons_cons _ (.cons_cons _ (.cons_cons _ (.cons_cons _ (List.nil_sublist _))))))))))), ?_⟩
    replace HS := H.sub (.cons_cons _ (.cons_cons _ (.cons_cons _ (.cons_cons _ (.cons_cons _ (.cons_cons _ (.cons_cons _ (.cons_cons _ (.cons_cons _ (.cons_cons _ (List.nil_sublist _)))))))))))
    refine t_step 8 rfl (by kernel_rfl) (o_bslG1 (enc := idE) (shaI t12) H sl23 zc29 (by rfl) (by decide) (by decide) rfl (idE_len _) (fun b22 w H hb22 => ?_))
    replace H : Hp _ w _ ([_, _, _, _, _, _, _, _, _, _, _, _, .own (some b22) 1 1 (([shaI t12]).flatMap idE) 29 32]) := H
    refine ⟨H.sub (.cons_cons _ (.cons_cons _ (.cons_cons _ (.cons_cons _ (.cons_cons _ (.cons_cons _ (.cons_cons _ (.cons_cons _ (.cons_cons _ (.cons_cons _ (List.nil_sublist _))))))))))), ?_⟩
    replace HS := H.sub (.cons_cons _ (.cons_cons _ (.cons_cons _ (.cons_cons _ (.cons_cons _ (.cons_cons _ (.cons_cons _ (.cons_cons _ (.cons_cons _ (.cons_cons _ (List.nil_sublist _)))))))))))
    refine t_step 9 rfl (by kernel_rfl) (o_callR Try.func11 rfl rfl rfl (lost_ret _ ⟨hd (some b16), 3, 3, [(⟨shaI ([(7 : UInt8)]), ⟨hd a2, ([(7 : UInt8)]).length, c3, [(7 : UInt8)]⟩⟩ : Ob), (⟨shaI ([(8 : UInt8)]), ⟨hd a5, ([(8 : UInt8)]).length, c6, [(8 : UInt8)]⟩⟩ : Ob), (⟨shaI t12, ⟨hd a10, t12.length, c11, t12⟩⟩ : Ob)]⟩ (H.glOwn (i := 9) rfl (by decide) (fun c _ => obE_len c)) (all3 ⟨H.slOwn (i := 1) rfl, (by show 1 ≤ 1048576; decide)⟩ ⟨H.slOwn (i := 3) rfl, (by show 1 ≤ 1048576; decide)⟩ ⟨H.slOwn (i := 7) rfl, (by show t12.length ≤ 1048576; omega)⟩) (by (try dsimp only); omega) ⟨hd (some b22), 1, 1, [shaI t12]⟩ (H.glOwn (i := 12) rfl (by decide) (fun c _ => idE_len c)) (by (try dsimp only); omega)) ?_)
    rintro _ w ⟨a23, k24, R25, hmk26, rfl, Hc⟩
    replace H : Hp _ w _ ([_, _, _, _, _, _, _, _, _, _, _, _, _, .own a23 R25.length k24 ((R25).flatMap idE) 29 32]) := H.call Hc
    clear Hc
    have hmk26l := (show _ = 1 from congrArg List.length (begunLost hbt rfl rfl rfl hmk26))
    refine ⟨H.sub (.cons_cons _ (.cons_cons _ (.cons_cons _ (.cons_cons _ (.cons_cons _ (.cons_cons _ (.cons_cons _ (.cons_cons _ (.cons_cons _ (.cons_cons _ (List.nil_sublist _))))))))))), ?_⟩
    replace HS := H.sub (.cons_cons _ (.cons_cons _ (.cons_cons _ (.cons_cons _ (.cons_cons _ (.cons_cons _ (.cons_cons _ (.cons_cons _ (.cons_cons _ (.cons_cons _ (List.nil_sublist _)))))))))))
    refine t_take 10 rfl (by kernel_rfl) (by kernel_rfl) (by kernel_rfl) (fun _ _ _ h => h) (fun w HS => r_as) HS ?_
    refine t_take 11 rfl (by kernel_rfl) (by kernel_rfl) (by kernel_rfl) (fun _ _ _ h => h) (fun w HS => r_as) HS ?_
    refine t_done (by kernel_rfl) ?_
    clear HS
    repeat refine c_seq ?_
    refine c_still mixed (by kernel_rfl) ?_
    replace H := H.drew
    refine s_op (r_mv) ?_
    refine s_op (r_lens el23 rfl) ?_
    refine s_op (r_bin (a := (R20.length : Int)) (b := 2) rfl rfl (fun _ => b_eqlB true (decide_eq_true (by have := begunMark hbt rfl rfl rfl hmk21; omega)))) ?_
    refine s_op (r_mv) ?_
    refine s_yes rfl rfl rfl (r_mv) ?_
    refine s_yes rfl rfl rfl (r_lens el23 rfl) ?_
    refine s_yes rfl rfl rfl (r_bin (a := (R25.length : Int)) (b := 1) rfl rfl (fun _ => b_eqlB true (decide_eq_true (by have := congrArg List.length (begunLost hbt rfl rfl rfl hmk26); rw [this]; rfl)))) ?_
    refine s_op (r_pick rfl) ?_
    refine s_op (r_mv) ?_
    refine s_yes rfl rfl rfl (r_mv) ?_
    have ah28 := H.ownAddr (i := 13) rfl (by omega)
    obtain ⟨ab27, ah28⟩ := ah28
    refine s_yes rfl rfl rfl (r_isN 0 rfl rfl el23 ah28 (by omega) (by (try simp only [Sl.cut]); omega)) ?_
    have he30 : ∃ c, (R25)[0]? = some c := ⟨_, List.getElem?_eq_getElem (by have := ((H.glOwn (i := 13) rfl (by decide) (fun c _ => idE_len c))).ln; (try dsimp only at this ⊢); omega)⟩
    obtain ⟨e29, he30⟩ := he30
    have hez31 := ((H.glOwn (i := 13) rfl (by decide) (fun c _ => idE_len c))).sz e29 (List.mem_of_getElem? he30)
    refine s_yes rfl rfl rfl (r_ldRow (s := (⟨hd a23, R25.length, k24, R25⟩ : Gl Id32)) (k := 0) (H.glOwn (i := 13) rfl (by decide) (fun c _ => idE_len c)) ah28 rfl rt29 (by decide) he30) ?_
    refine s_yes rfl rfl rfl (r_fa rfl fo34_0) ?_
    refine s_yes rfl rfl rfl (r_lk H (i := 5) rfl rfl rt29 (show Cut3 (((shaI ([(8 : UInt8)])).1).map V8 ++ (([.slice (hd a5) (([(8 : UInt8)]).length) c6] : List Value))) (([] : List Value)) (((shaI ([(8 : UInt8)])).1).map V8) (([.slice (hd a5) (([(8 : UInt8)]).length) c6] : List Value)) 0 32 from ⟨(show ((shaI ([(8 : UInt8)])).1).map V8 ++ (([.slice (hd a5) (([(8 : UInt8)]).length) c6] : List Value)) = ([] : List Value) ++ ((((shaI ([(8 : UInt8)])).1).map V8) ++ (([.slice (hd a5) (([(8 : UInt8)]).length) c6] : List Value))) from by simp only [List.nil_append]), (by rfl), (by simp only [List.length_map, (show ((shaI ([(8 : UInt8)])).1).length = 32 from (shaI ([(8 : UInt8)])).2)])⟩)) ?_
    refine s_yes rfl rfl rfl (r_eqa (a := e29.1) (b := (shaI ([(8 : UInt8)])).1) Try.underlying29 Try.underlying5 cs5 rfl rfl (show (e29.1).length = 32 from e29.2) (show ((shaI ([(8 : UInt8)])).1).length = 32 from (shaI ([(8 : UInt8)])).2)) ?_
    refine s_op (r_pick rfl) ?_
    refine s_op (r_as) ?_
    refine s_nil ?_
    refine c_ret ?_
    try dsimp only [Exit.then, Exit.inBlock]
    refine e_ret1 (v := .bool (decide (e29.1 = (shaI ([(8 : UInt8)])).1))) Try.results8 rfl ?_
    refine ⟨_, rfl, ?_⟩
    have hq := begunLost hbt rfl rfl rfl hmk26
    have he2 := he30
    rw [hq] at he2
    have he3 : e29 = shaI [8] := (Option.some.inj he2).symm
    exact ⟨congrArg Value.bool (decide_eq_true (congrArg Subtype.val he3)), H.sub (List.nil_sublist _)⟩
   ·
    refine (o_bslG1 (enc := idE) (shaI t12) H sl23 zc29 (by rfl) (by decide) (by decide) rfl (idE_len _) (fun b32 w H hb32 => ?_))
    replace H : Hp _ w _ ([_, _, _, _, _, _, _, _, _, _, _, .own (some b32) 1 1 (([shaI t12]).flatMap idE) 29 32]) := H
    refine ⟨H.sub (.cons_cons _ (.cons_cons _ (.cons_cons _ (.cons_cons _ (.cons_cons _ (.cons_cons _ (.cons_cons _ (.cons_cons _ (.cons_cons _ (.cons_cons _ (List.nil_sublist _))))))))))), ?_⟩
    replace HS := H.sub (.cons_cons _ (.cons_cons _ (.cons_cons _ (.cons_cons _ (.cons_cons _ (.cons_cons _ (.cons_cons _ (.cons_cons _ (.cons_cons _ (.cons_cons _ (List.nil_sublist _)))))))))))
    refine t_step 4 rfl (by kernel_rfl) (o_callR Try.func10 rfl rfl rfl (mark_ret _ ⟨hd (some b16), 3, 3, [(⟨shaI ([(7 : UInt8)]), ⟨hd a2, ([(7 : UInt8)]).length, c3, [(7 : UInt8)]⟩⟩ : Ob), (⟨shaI ([(8 : UInt8)]), ⟨hd a5, ([(8 : UInt8)]).length, c6, [(8 : UInt8)]⟩⟩ : Ob), (⟨shaI t12, ⟨hd a10, t12.length, c11, t12⟩⟩ : Ob)]⟩ (H.glOwn (i := 9) rfl (by decide) (fun c _ => obE_len c)) (all3 ⟨H.slOwn (i := 1) rfl, (by show 1 ≤ 1048576; decide)⟩ ⟨H.slOwn (i := 3) rfl, (by show 1 ≤ 1048576; decide)⟩ ⟨H.slOwn (i := 7) rfl, (by show t12.length ≤ 1048576; omega)⟩) (by (try dsimp only); omega) ⟨hd (some b17), 1, 1, [shaI t12]⟩ (H.glOwn (i := 10) rfl (by decide) (fun c _ => idE_len c)) (by (try dsimp only); omega)) ?_)
    rintro _ w ⟨a33, k34, R35, hmk36, rfl, Hc⟩
    replace H : Hp _ w _ ([_, _, _, _, _, _, _, _, _, _, _, _, .own a33 R35.length k34 ((R35).flatMap idE) 29 32]) := H.call Hc
    clear Hc
    have hmk36l := begunMark hbt rfl rfl rfl hmk36
    refine ⟨H.sub (.cons_cons _ (.cons_cons _ (.cons_cons _ (.cons_cons _ (.cons_cons _ (.cons_cons _ (.cons_cons _ (.cons_cons _ (.cons_cons _ (.cons_cons _ (List.nil_sublist _))))))))))), ?_⟩
    replace HS := H.sub (.cons_cons _ (.cons_cons _ (.cons_cons _ (.cons_cons _ (.cons_cons _ (.cons_cons _ (.cons_cons _ (.cons_cons _ (.cons_cons _ (.cons_cons _ (List.nil_sublist _)))))))))))
    refine t_step 9 rfl (by kernel_rfl) (o_callR Try.func11 rfl rfl rfl (lost_ret _ ⟨hd (some b16), 3, 3, [(⟨shaI ([(7 : UInt8)]), ⟨hd a2, ([(7 : UInt8)]).length, c3, [(7 : UInt8)]⟩⟩ : Ob), (⟨shaI ([(8 : UInt8)]), ⟨hd a5, ([(8 : UInt8)]).length, c6, [(8 : UInt8)]⟩⟩ : Ob), (⟨shaI t12, ⟨hd a10, t12.length, c11, t12⟩⟩ : Ob)]⟩ (H.glOwn (i := 9) rfl (by decide) (fun c _ => obE_len c)) (all3 ⟨H.slOwn (i := 1) rfl, (by show 1 ≤ 1048576; decide)⟩ ⟨H.slOwn (i := 3) rfl, (by show 1 ≤ 1048576; decide)⟩ ⟨H.slOwn (i := 7) rfl, (by show t12.length ≤ 1048576; omega)⟩) (by (try dsimp only); omega) ⟨hd (some b32), 1, 1, [shaI t12]⟩ (H.glOwn (i := 11) rfl (by decide) (fun c _ => idE_len c)) (by (try dsimp only); omega)) ?_)
    rintro _ w ⟨a37, k38, R39, hmk40, rfl, Hc⟩
    replace H : Hp _ w _ ([_, _, _, _, _, _, _, _, _, _, _, _, _, .own a37 R39.length k38 ((R39).flatMap idE) 29 32]) := H.call Hc
    clear Hc
    have hmk40l := (show _ = 1 from congrArg List.length (begunLost hbt rfl rfl rfl hmk40))
    refine ⟨H.sub (.cons_cons _ (.cons_cons _ (.cons_cons _ (.cons_cons _ (.cons_cons _ (.cons_cons _ (.cons_cons _ (.cons_cons _ (.cons_cons _ (.cons_cons _ (List.nil_sublist _))))))))))), ?_⟩
    replace HS := H.sub (.cons_cons _ (.cons_cons _ (.cons_cons _ (.cons_cons _ (.cons_cons _ (.cons_cons _ (.cons_cons _ (.cons_cons _ (.cons_cons _ (.cons_cons _ (List.nil_sublist _)))))))))))
    refine t_take 10 rfl (by kernel_rfl) (by kernel_rfl) (by kernel_rfl) (fun _ _ _ h => h) (fun w HS => r_as) HS ?_
    refine t_take 11 rfl (by kernel_rfl) (by kernel_rfl) (by kernel_rfl) (fun _ _ _ h => h) (fun w HS => r_as) HS ?_
    refine t_done (by kernel_rfl) ?_
    clear HS
    repeat refine c_seq ?_
    refine c_still mixed (by kernel_rfl) ?_
    replace H := H.drew
    refine s_op (r_mv) ?_
    refine s_op (r_lens el23 rfl) ?_
    refine s_op (r_bin (a := (R35.length : Int)) (b := 2) rfl rfl (fun _ => b_eqlB true (decide_eq_true (by have := begunMark hbt rfl rfl rfl hmk36; omega)))) ?_
    refine s_op (r_mv) ?_
    refine s_yes rfl rfl rfl (r_mv) ?_
    refine s_yes rfl rfl rfl (r_lens el23 rfl) ?_
    refine s_yes rfl rfl rfl (r_bin (a := (R39.length : Int)) (b := 1) rfl rfl (fun _ => b_eqlB true (decide_eq_true (by have := congrArg List.length (begunLost hbt rfl rfl rfl hmk40); rw [this]; rfl)))) ?_
    refine s_op (r_pick rfl) ?_
    refine s_op (r_mv) ?_
    refine s_yes rfl rfl rfl (r_mv) ?_
    have ah42 := H.ownAddr (i := 13) rfl (by omega)
    obtain ⟨ab41, ah42⟩ := ah42
    refine s_yes rfl rfl rfl (r_isN 0 rfl rfl el23 ah42 (by omega) (by (try simp only [Sl.cut]); omega)) ?_
    have he44 : ∃ c, (R39)[0]? = some c := ⟨_, List.getElem?_eq_getElem (by have := ((H.glOwn (i := 13) rfl (by decide) (fun c _ => idE_len c))).ln; (try dsimp only at this ⊢); omega)⟩
    obtain ⟨e43, he44⟩ := he44
    have hez45 := ((H.glOwn (i := 13) rfl (by decide) (fun c _ => idE_len c))).sz e43 (List.mem_of_getElem? he44)
    refine s_yes rfl rfl rfl (r_ldRow (s := (⟨hd a37, R39.length, k38, R39⟩ : Gl Id32)) (k := 0) (H.glOwn (i := 13) rfl (by decide) (fun c _ => idE_len c)) ah42 rfl rt29 (by decide) he44) ?_
    refine s_yes rfl rfl rfl (r_fa rfl fo34_0) ?_
    refine s_yes rfl rfl rfl (r_lk H (i := 5) rfl rfl rt29 (show Cut3 (((shaI ([(8 : UInt8)])).1).map V8 ++ (([.slice (hd a5) (([(8 : UInt8)]).length) c6] : List Value))) (([] : List Value)) (((shaI ([(8 : UInt8)])).1).map V8) (([.slice (hd a5) (([(8 : UInt8)]).length) c6] : List Value)) 0 32 from ⟨(show ((shaI ([(8 : UInt8)])).1).map V8 ++ (([.slice (hd a5) (([(8 : UInt8)]).length) c6] : List Value)) = ([] : List Value) ++ ((((shaI ([(8 : UInt8)])).1).map V8) ++ (([.slice (hd a5) (([(8 : UInt8)]).length) c6] : List Value))) from by simp only [List.nil_append]), (by rfl), (by simp only [List.length_map, (show ((shaI ([(8 : UInt8)])).1).length = 32 from (shaI ([(8 : UInt8)])).2)])⟩)) ?_
    refine s_yes rfl rfl rfl (r_eqa (a := e43.1) (b := (shaI ([(8 : UInt8)])).1) Try.underlying29 Try.underlying5 cs5 rfl rfl (show (e43.1).length = 32 from e43.2) (show ((shaI ([(8 : UInt8)])).1).length = 32 from (shaI ([(8 : UInt8)])).2)) ?_
    refine s_op (r_pick rfl) ?_
    refine s_op (r_as) ?_
    refine s_nil ?_
    refine c_ret ?_
    try dsimp only [Exit.then, Exit.inBlock]
    refine e_ret1 (v := .bool (decide (e43.1 = (shaI ([(8 : UInt8)])).1))) Try.results8 rfl ?_
    refine ⟨_, rfl, ?_⟩
    have hq := begunLost hbt rfl rfl rfl hmk40
    have he2 := he44
    rw [hq] at he2
    have he3 : e43 = shaI [8] := (Option.some.inj he2).symm
    exact ⟨congrArg Value.bool (decide_eq_true (congrArg Subtype.val he3)), H.sub (List.nil_sublist _)⟩
  ·
   refine (o_bslG1 (enc := idE) (shaI t12) H sl23 zc29 (by rfl) (by decide) (by decide) rfl (idE_len _) (fun b46 w H hb46 => ?_))
   replace H : Hp _ w _ ([_, _, _, _, _, _, _, _, _, _, .own (some b46) 1 1 (([shaI t12]).flatMap idE) 29 32]) := H
   refine ⟨H.sub (.cons_cons _ (.cons_cons _ (.cons_cons _ (.cons_cons _ (.cons_cons _ (.cons_cons _ (.cons_cons _ (.cons_cons _ (.cons_cons _ (.cons_cons _ (List.nil_sublist _))))))))))), ?_⟩
   replace HS := H.sub (.cons_cons _ (.cons_cons _ (.cons_cons _ (.cons_cons _ (.cons_cons _ (.cons_cons _ (.cons_cons _ (.cons_cons _ (.cons_cons _ (.cons_cons _ (List.nil_sublist _)))))))))))
   refine t_step 3 rfl (by kernel_rfl) (o_bslG1 (enc := idE) (shaI t12) H sl23 zc29 (by rfl) (by decide) (by decide) rfl (idE_len _) (fun b47 w H hb47 => ?_))
   replace H : Hp _ w _ ([_, _, _, _, _, _, _, _, _, _, _, .own (some b47) 1 1 (([shaI t12]).flatMap idE) 29 32]) := H
   refine ⟨H.sub (.cons_cons _ (.cons_cons _ (.cons_cons _ (.cons_cons _ (.cons_cons _ (.cons_cons _ (.cons_cons _ (.cons_cons _ (.cons_cons _ (.cons_cons _ (List.nil_sublist _))))))))))), ?_⟩
   replace HS := H.sub (.cons_cons _ (.cons_cons _ (.cons_cons _ (.cons_cons _ (.cons_cons _ (.cons_cons _ (.cons_cons _ (.cons_cons _ (.cons_cons _ (.cons_cons _ (List.nil_sublist _)))))))))))
   refine t_step 4 rfl (by kernel_rfl) (o_callR Try.func10 rfl rfl rfl (mark_ret _ ⟨hd (some b16), 3, 3, [(⟨shaI ([(7 : UInt8)]), ⟨hd a2, ([(7 : UInt8)]).length, c3, [(7 : UInt8)]⟩⟩ : Ob), (⟨shaI ([(8 : UInt8)]), ⟨hd a5, ([(8 : UInt8)]).length, c6, [(8 : UInt8)]⟩⟩ : Ob), (⟨shaI t12, ⟨hd a10, t12.length, c11, t12⟩⟩ : Ob)]⟩ (H.glOwn (i := 9) rfl (by decide) (fun c _ => obE_len c)) (all3 ⟨H.slOwn (i := 1) rfl, (by show 1 ≤ 1048576; decide)⟩ ⟨H.slOwn (i := 3) rfl, (by show 1 ≤ 1048576; decide)⟩ ⟨H.slOwn (i := 7) rfl, (by show t12.length ≤ 1048576; omega)⟩) (by (try dsimp only); omega) ⟨hd (some b47), 1, 1, [shaI t12]⟩ (H.glOwn (i := 11) rfl (by decide) (fun c _ => idE_len c)) (by (try dsimp only); omega)) ?_)
   rintro _ w ⟨a48, k49, R50, hmk51, rfl, Hc⟩
   replace H : Hp _ w _ ([_, _, _, _, _, _, _, _, _, _, _, _, .own a48 R50.length k49 ((R50).flatMap idE) 29 32]) := H.call Hc
   clear Hc
   have hmk51l := begunMark hbt rfl rfl rfl hmk51
   refine ⟨H.sub (.cons_cons _ (.cons_cons _ (.cons_cons _ (.cons_cons _ (.cons_cons _ (.cons_cons _ (.cons_cons _ (.cons_cons _ (.cons_cons _ (.cons_cons _ (List.nil_sublist _))))))))))), ?_⟩
   replace HS := H.sub (.cons_cons _ (.cons_cons _ (.cons_cons _ (.cons_cons _ (.cons_cons _ (.cons_cons _ (.cons_cons _ (.cons_cons _ (.cons_cons _ (.cons_cons _ (List.nil_sublist _)))))))))))
   refine t_step 9 rfl (by kernel_rfl) (o_callR Try.func11 rfl rfl rfl (lost_ret _ ⟨hd (some b16), 3, 3, [(⟨shaI ([(7 : UInt8)]), ⟨hd a2, ([(7 : UInt8)]).length, c3, [(7 : UInt8)]⟩⟩ : Ob), (⟨shaI ([(8 : UInt8)]), ⟨hd a5, ([(8 : UInt8)]).length, c6, [(8 : UInt8)]⟩⟩ : Ob), (⟨shaI t12, ⟨hd a10, t12.length, c11, t12⟩⟩ : Ob)]⟩ (H.glOwn (i := 9) rfl (by decide) (fun c _ => obE_len c)) (all3 ⟨H.slOwn (i := 1) rfl, (by show 1 ≤ 1048576; decide)⟩ ⟨H.slOwn (i := 3) rfl, (by show 1 ≤ 1048576; decide)⟩ ⟨H.slOwn (i := 7) rfl, (by show t12.length ≤ 1048576; omega)⟩) (by (try dsimp only); omega) ⟨hd (some b46), 1, 1, [shaI t12]⟩ (H.glOwn (i := 10) rfl (by decide) (fun c _ => idE_len c)) (by (try dsimp only); omega)) ?_)
   rintro _ w ⟨a52, k53, R54, hmk55, rfl, Hc⟩
   replace H : Hp _ w _ ([_, _, _, _, _, _, _, _, _, _, _, _, _, .own a52 R54.length k53 ((R54).flatMap idE) 29 32]) := H.call Hc
   clear Hc
   have hmk55l := (show _ = 1 from congrArg List.length (begunLost hbt rfl rfl rfl hmk55))
   refine ⟨H.sub (.cons_cons _ (.cons_cons _ (.cons_cons _ (.cons_cons _ (.cons_cons _ (.cons_cons _ (.cons_cons _ (.cons_cons _ (.cons_cons _ (.cons_cons _ (List.nil_sublist _))))))))))), ?_⟩
   replace HS := H.sub (.cons_cons _ (.cons_cons _ (.cons_cons _ (.cons_cons _ (.cons_cons _ (.cons_cons _ (.cons_cons _ (.cons_cons _ (.cons_cons _ (.cons_cons _ (List.nil_sublist _)))))))))))
   refine t_take 10 rfl (by kernel_rfl) (by kernel_rfl) (by kernel_rfl) (fun _ _ _ h => h) (fun w HS => r_as) HS ?_
   refine t_take 11 rfl (by kernel_rfl) (by kernel_rfl) (by kernel_rfl) (fun _ _ _ h => h) (fun w HS => r_as) HS ?_
   refine t_done (by kernel_rfl) ?_
   clear HS
   repeat refine c_seq ?_
   refine c_still mixed (by kernel_rfl) ?_
   replace H := H.drew
   refine s_op (r_mv) ?_
   refine s_op (r_lens el23 rfl) ?_
   refine s_op (r_bin (a := (R50.length : Int)) (b := 2) rfl rfl (fun _ => b_eqlB true (decide_eq_true (by have := begunMark hbt rfl rfl rfl hmk51; omega)))) ?_
   refine s_op (r_mv) ?_
   refine s_yes rfl rfl rfl (r_mv) ?_
   refine s_yes rfl rfl rfl (r_lens el23 rfl) ?_
   refine s_yes rfl rfl rfl (r_bin (a := (R54.length : Int)) (b := 1) rfl rfl (fun _ => b_eqlB true (decide_eq_true (by have := congrArg List.length (begunLost hbt rfl rfl rfl hmk55); rw [this]; rfl)))) ?_
   refine s_op (r_pick rfl) ?_
   refine s_op (r_mv) ?_
   refine s_yes rfl rfl rfl (r_mv) ?_
   have ah57 := H.ownAddr (i := 13) rfl (by omega)
   obtain ⟨ab56, ah57⟩ := ah57
   refine s_yes rfl rfl rfl (r_isN 0 rfl rfl el23 ah57 (by omega) (by (try simp only [Sl.cut]); omega)) ?_
   have he59 : ∃ c, (R54)[0]? = some c := ⟨_, List.getElem?_eq_getElem (by have := ((H.glOwn (i := 13) rfl (by decide) (fun c _ => idE_len c))).ln; (try dsimp only at this ⊢); omega)⟩
   obtain ⟨e58, he59⟩ := he59
   have hez60 := ((H.glOwn (i := 13) rfl (by decide) (fun c _ => idE_len c))).sz e58 (List.mem_of_getElem? he59)
   refine s_yes rfl rfl rfl (r_ldRow (s := (⟨hd a52, R54.length, k53, R54⟩ : Gl Id32)) (k := 0) (H.glOwn (i := 13) rfl (by decide) (fun c _ => idE_len c)) ah57 rfl rt29 (by decide) he59) ?_
   refine s_yes rfl rfl rfl (r_fa rfl fo34_0) ?_
   refine s_yes rfl rfl rfl (r_lk H (i := 5) rfl rfl rt29 (show Cut3 (((shaI ([(8 : UInt8)])).1).map V8 ++ (([.slice (hd a5) (([(8 : UInt8)]).length) c6] : List Value))) (([] : List Value)) (((shaI ([(8 : UInt8)])).1).map V8) (([.slice (hd a5) (([(8 : UInt8)]).length) c6] : List Value)) 0 32 from ⟨(show ((shaI ([(8 : UInt8)])).1).map V8 ++ (([.slice (hd a5) (([(8 : UInt8)]).length) c6] : List Value)) = ([] : List Value) ++ ((((shaI ([(8 : UInt8)])).1).map V8) ++ (([.slice (hd a5) (([(8 : UInt8)]).length) c6] : List Value))) from by simp only [List.nil_append]), (by rfl), (by simp only [List.length_map, (show ((shaI ([(8 : UInt8)])).1).length = 32 from (shaI ([(8 : UInt8)])).2)])⟩)) ?_
   refine s_yes rfl rfl rfl (r_eqa (a := e58.1) (b := (shaI ([(8 : UInt8)])).1) Try.underlying29 Try.underlying5 cs5 rfl rfl (show (e58.1).length = 32 from e58.2) (show ((shaI ([(8 : UInt8)])).1).length = 32 from (shaI ([(8 : UInt8)])).2)) ?_
   refine s_op (r_pick rfl) ?_
   refine s_op (r_as) ?_
   refine s_nil ?_
   refine c_ret ?_
   try dsimp only [Exit.then, Exit.inBlock]
   refine e_ret1 (v := .bool (decide (e58.1 = (shaI ([(8 : UInt8)])).1))) Try.results8 rfl ?_
   refine ⟨_, rfl, ?_⟩
   have hq := begunLost hbt rfl rfl rfl hmk55
   have he2 := he59
   rw [hq] at he2
   have he3 : e58 = shaI [8] := (Option.some.inj he2).symm
   exact ⟨congrArg Value.bool (decide_eq_true (congrArg Subtype.val he3)), H.sub (List.nil_sublist _)⟩
end Go.Proofs.Ytomjbabllcmodaa
namespace Go.Proofs.Ytomjbabllcmodaa
open Go
set_option maxRecDepth 100000
def idz : Id32 := ⟨List.replicate 32 (0 : UInt8), List.length_replicate⟩
end Go.Proofs.Ytomjbabllcmodaa
namespace Go.Proofs.Ytomjbabllcmodaa
open Go
set_option maxRecDepth 100000
theorem last_is {l : List Id32} {n : Nat} {x y : Id32} (h : l.length = n) (hx : (l ++ [y])[n]? = some x) : x = y := by
  subst h
  rw [List.getElem?_append_right (Nat.le_refl _), Nat.sub_self] at hx
  exact (Option.some.inj hx).symm
theorem reachAll_ret (w0 : World) (g : Gl Ob) (hg : g.ok obE 33 w0) (horaw : ∀ o ∈ g.l, o.data.ok w0) (r : Gl Id32) (hr : r.ok idE 32 w0) :
    Ret Try.prog 3 [g.v, r.v] w0 fun v w' => v = .bool true ∧ Hp w0 w' [] [] := by
  refine ret_mk Try.func3 rfl Try.ntmps3 (by simp) ?_
  have H := Hp.refl w0 []
  have hgl := hg.ln
  have hrl := hr.ln
  have hgc := hg.le
  have hrc := hr.le
  have hmL : maxLen = 9223372036854775807 := rfl
  repeat refine c_seq ?_
  refine c_region ?_
  refine l_op (o_val (r_as) ?_)
  first | refine l_end ?_ | refine l_nil ?_
  repeat refine c_seq ?_
  refine c_region ?_
  refine l_op (o_callR Try.func8 rfl rfl rfl (begun18_ret _) ?_)
  rintro _ w ⟨rfl, Hc⟩
  replace H : Hp _ w _ ([]) := H.call Hc
  clear Hc
  refine l_op (o_val (r_not rfl) ?_)
  first | refine l_end ?_ | refine l_nil ?_
  repeat refine c_seq ?_
  refine c_no rfl ?_
  refine c_skip ?_
  repeat refine c_seq ?_
  refine c_region ?_
  refine l_op (o_val (r_mv) ?_)
  refine l_op (o_callR Try.func9 rfl rfl rfl (light17_ret _ g (hg.up H) (ob_raw horaw H) 40) ?_)
  rintro _ w ⟨b1, rfl, hli2, Hc⟩
  replace H : Hp _ w _ ([]) := H.call Hc
  clear Hc
  refine l_op (o_val (r_not rfl) ?_)
  refine l_op (o_val (r_mv) ?_)
  have hc30 := Bool.eq_false_or_eq_true (b1)
  rcases hc30 with hc3 | hc3
  ·
   refine l_yes rfl rfl (by exact congrArg Value.bool (congrArg not hc3)) (o_val (r_mv) ?_)
   refine l_yes rfl rfl (by exact congrArg Value.bool (congrArg not hc3)) (o_val (r_lens el23 rfl) ?_)
   refine l_yes rfl rfl (by exact congrArg Value.bool (congrArg not hc3)) (o_val (r_bin (a := (r.len : Int)) (b := 40) rfl rfl (fun _ => b_gtr)) ?_)
   refine l_op (o_val (r_pick (b := false) (congrArg Value.bool (congrArg not hc3))) ?_)
   first | refine l_end ?_ | refine l_nil ?_
   by_cases hc4 : 40 < (r.len : Int)
   ·
    repeat refine c_seq ?_
    refine c_yes (by exact congrArg Value.bool (decide_eq_true hc4)) ?_
    repeat refine c_seq ?_
    refine c_region ?_
    refine l_op (o_val (r_as) ?_)
    first | refine l_end ?_ | refine l_nil ?_
    refine c_ret ?_
    try dsimp only [Exit.then, Exit.inBlock]
    refine e_ret1 (v := .bool true) Try.results3 rfl ?_
    refine ⟨_, rfl, ?_⟩
    exact ⟨rfl, H.sub (List.nil_sublist _)⟩
   ·
    repeat refine c_seq ?_
    refine c_no (by exact congrArg Value.bool (decide_eq_false hc4)) ?_
    refine c_skip ?_
    have hli2 := hli2.1 hc3
    have ho : ∀ o ∈ g.l, o.data.ok w0 ∧ o.data.len ≤ 1048576 := fun o h => ⟨horaw o h, by have := hli2.2 o h; omega⟩
    have hg40 := hli2.1
    repeat refine c_seq ?_
    refine c_region ?_
    refine l_op (o_val (r_mv) ?_)
    refine l_op (o_val (r_lens el23 rfl) ?_)
    refine l_op (o_val (r_bin (a := (r.len : Int)) (b := 1) rfl rfl (fun _ => b_add (by omega) (by omega))) ?_)
    refine l_op (o_makeG (enc := idE) idz 0 (r.len + 1) H sl23 zc29 rfl (by decide) rfl rfl rfl (by omega) (Nat.zero_le _) (by omega) (by omega) (fun b5 w H hb5 => ?_))
    replace H : Hp _ w _ ([.blk b5 ((List.replicate (r.len + 1) idz).flatMap idE) 29]) := H
    refine l_op (o_val (r_mv) ?_)
    refine l_op (o_appGB (enc := idE) (s := r) (len := 0) (len' := r.len) (l := []) (rest := List.replicate (r.len + 1) idz) (l' := r.l ++ [idz]) H (i := 0) rfl (fun c _ => idE_len c) rfl (by rw [List.length_replicate]; omega) (by rw [List.length_replicate]; omega) (by rw [List.drop_replicate, hrl, show r.len + 1 - r.len = 1 by omega]; simp [List.replicate]) (Nat.zero_add _) sl23 Try.underlying23 rfl rfl (hr.up H) (by decide) (fun c _ => idE_all c) (fun w H => ?_))
    replace H : Hp _ w _ ([.blk b5 ((r.l ++ [idz]).flatMap idE) 29]) := H
    refine l_op (o_val (r_as) ?_)
    first | refine l_end ?_ | refine l_nil ?_
    repeat refine c_seq ?_
    refine c_region ?_
    refine l_op (o_val (r_as) ?_)
    first | refine l_end ?_ | refine l_nil ?_
    repeat refine c_seq ?_
    refine c_block ?_
    repeat refine c_seq ?_
    refine c_loop (fun (i : Nat) => [(0, g.v), (1, r.v), (5, (⟨some ⟨b5, 0, none⟩, r.len, r.len + 1, r.l⟩ : Gl Id32).v), (6, VI (i : Int))])
      (fun (i : Nat) w => (i ≤ 2) ∧ Hp w0 w [] ([.blk b5 ((r.l ++ [idz]).flatMap idE) 29]))
      (fun (i : Nat) => 2 - i) 0 ⟨rfl, rfl, rfl, rfl, trivial⟩ ⟨by omega, H⟩ ?_
    clear H
    rintro i τ w ⟨hi, H⟩
    repeat refine c_seq ?_
    refine c_region ?_
    refine l_op (o_val (r_mv) ?_)
    refine l_op (o_val (r_bin (a := (i : Int)) (b := 2) rfl rfl (fun _ => b_lss)) ?_)
    first | refine l_end ?_ | refine l_nil ?_
    by_cases hc6 : (i : Int) < 2
    ·
     repeat refine c_seq ?_
     refine c_yes (by exact congrArg Value.bool (decide_eq_true hc6)) ?_
     refine c_skip ?_
     repeat refine c_seq ?_
     refine c_block ?_
     repeat refine c_seq ?_
     refine c_region ?_
     refine l_op (o_val (r_mv) ?_)
     refine l_op (o_val (r_mv) ?_)
     refine l_op (o_callR Try.func10 rfl rfl rfl (mark_ret _ g (hg.up H) (ob_up ho H) (by (try dsimp only); omega) (⟨some ⟨b5, 0, none⟩, r.len, r.len + 1, r.l⟩ : Gl Id32) (show Gl.ok idE 32 (⟨some ⟨b5, 0, none⟩, r.len, r.len + 1, r.l⟩ : Gl Id32) _ from glBlk ([idz]) (H.has (.blk b5 ((r.l ++ [idz]).flatMap idE) 29) (by simp)) (by simp) (fun c _ => idE_len c) hrl (by omega) (by omega)) (by (try dsimp only); omega)) ?_)
     rintro _ w ⟨a7, k8, R9, hmk10, rfl, Hc⟩
     replace H : Hp _ w _ ([_, .own a7 R9.length k8 ((R9).flatMap idE) 29 32]) := H.call Hc
     clear Hc
     have hmk10l := mark_len hmk10
     refine l_op (o_val (r_mv) ?_)
     refine l_op (o_val (r_mv) ?_)
     refine l_op (o_callR Try.func11 rfl rfl rfl (lost_ret _ g (hg.up H) (ob_up ho H) (by (try dsimp only); omega) (⟨some ⟨b5, 0, none⟩, r.len, r.len + 1, r.l⟩ : Gl Id32) (show Gl.ok idE 32 (⟨some ⟨b5, 0, none⟩, r.len, r.len + 1, r.l⟩ : Gl Id32) _ from glBlk ([idz]) (H.has (.blk b5 ((r.l ++ [idz]).flatMap idE) 29) (by simp)) (by simp) (fun c _ => idE_len c) hrl (by omega) (by omega)) (by (try dsimp only); omega)) ?_)
     rintro _ w ⟨a11, k12, R13, hmk14, rfl, Hc⟩
     replace H : Hp _ w _ ([_, _, .own a11 R13.length k12 ((R13).flatMap idE) 29 32]) := H.call Hc
     clear Hc
     have hmk14l := lost_len hmk14
     refine l_op (o_val (r_as) ?_)
     refine l_op (o_val (r_as) ?_)
     first | refine l_end ?_ | refine l_nil ?_
     repeat refine c_seq ?_
     refine c_region ?_
     refine l_op (o_val (r_mv) ?_)
     refine l_op (o_val (r_mv) ?_)
     refine l_op (o_val (r_mv) ?_)
     refine l_op (o_callR Try.func13 rfl rfl rfl (mark18_ret _ g (hg.up H) (ob_up ho H) (by (try dsimp only); omega) r (hr.up H) (by (try dsimp only); omega)) ?_)
     rintro _ w ⟨a15, k16, R17, hmk18, rfl, Hc⟩
     replace H : Hp _ w _ ([_, _, _, .own a15 R17.length k16 ((R17).flatMap idE) 29 32]) := H.call Hc
     clear Hc
     have hmk18l := mark_len hmk18
     refine l_op (o_callR Try.func12 rfl rfl rfl (alikeIDs_ret _ ⟨hd a7, R9.length, k8, R9⟩ ⟨hd a15, R17.length, k16, R17⟩ (H.glOwn (i := 1) rfl (by decide) (fun c _ => idE_len c)) (H.glOwn (i := 3) rfl (by decide) (fun c _ => idE_len c))) ?_)
     rintro _ w ⟨rfl, Hc⟩
     replace H : Hp _ w _ ([_, _, _, _]) := H.call Hc
     clear Hc
     have hk19 : (decide (R9 = R17)) = true := (decide_eq_true (mark_uniq hmk10 hmk18))
     refine l_op (o_val (r_not rfl) ?_)
     refine l_op (o_val (r_mv) ?_)
     refine l_yes rfl rfl (by exact congrArg Value.bool (congrArg not hk19)) (o_val (r_mv) ?_)
     refine l_yes rfl rfl (by exact congrArg Value.bool (congrArg not hk19)) (o_val (r_mv) ?_)
     refine l_yes rfl rfl (by exact congrArg Value.bool (congrArg not hk19)) (o_val (r_mv) ?_)
     refine l_yes rfl rfl (by exact congrArg Value.bool (congrArg not hk19)) (o_callR Try.func14 rfl rfl rfl (lost18_ret _ g (hg.up H) (ob_up ho H) (by (try dsimp only); omega) r (hr.up H) (by (try dsimp only); omega)) ?_)
     rintro _ w ⟨a20, k21, R22, hmk23, rfl, Hc⟩
     replace H : Hp _ w _ ([_, _, _, _, .own a20 R22.length k21 ((R22).flatMap idE) 29 32]) := H.call Hc
     clear Hc
     have hmk23l := lost_len hmk23
     refine l_yes rfl rfl (by exact congrArg Value.bool (congrArg not hk19)) (o_callR Try.func12 rfl rfl rfl (alikeIDs_ret _ ⟨hd a11, R13.length, k12, R13⟩ ⟨hd a20, R22.length, k21, R22⟩ (H.glOwn (i := 2) rfl (by decide) (fun c _ => idE_len c)) (H.glOwn (i := 4) rfl (by decide) (fun c _ => idE_len c))) ?_)
     rintro _ w ⟨rfl, Hc⟩
     replace H : Hp _ w _ ([_, _, _, _, _]) := H.call Hc
     clear Hc
     have hk24 : (decide (R13 = R22)) = true := (decide_eq_true (lost_uniq hmk14 hmk23))
     refine l_yes rfl rfl (by exact congrArg Value.bool (congrArg not hk19)) (o_val (r_not rfl) ?_)
     refine l_op (o_val (r_pick (b := false) (congrArg Value.bool (congrArg not hk19))) ?_)
     refine l_op (o_val (r_mv) ?_)
     refine l_yes rfl rfl (by exact congrArg Value.bool (congrArg not hk24)) (o_val (r_mv) ?_)
     refine l_yes rfl rfl (by exact congrArg Value.bool (congrArg not hk24)) (o_val (r_mv) ?_)
     refine l_yes rfl rfl (by exact congrArg Value.bool (congrArg not hk24)) (o_callR Try.func12 rfl rfl rfl (alikeIDs_ret _ (⟨some ⟨b5, 0, none⟩, r.len, r.len + 1, r.l⟩ : Gl Id32) r (show Gl.ok idE 32 (⟨some ⟨b5, 0, none⟩, r.len, r.len + 1, r.l⟩ : Gl Id32) _ from glBlk ([idz]) (H.has (.blk b5 ((r.l ++ [idz]).flatMap idE) 29) (by simp)) (by simp) (fun c _ => idE_len c) hrl (by omega) (by omega)) (hr.up H)) ?_)
     rintro _ w ⟨rfl, Hc⟩
     replace H : Hp _ w _ ([_, _, _, _, _]) := H.call Hc
     clear Hc
     have hk25 : (decide (r.l = r.l)) = true := (decide_eq_true rfl)
     refine l_yes rfl rfl (by exact congrArg Value.bool (congrArg not hk24)) (o_val (r_not rfl) ?_)
     refine l_op (o_val (r_pick (b := false) (congrArg Value.bool (congrArg not hk24))) ?_)
     refine l_op (o_val (r_mv) ?_)
     refine l_yes rfl rfl (by exact congrArg Value.bool (congrArg not hk25)) (o_val (r_mv) ?_)
     refine l_yes rfl rfl (by exact congrArg Value.bool (congrArg not hk25)) (o_val (r_mv) ?_)
     refine l_yes rfl rfl (by exact congrArg Value.bool (congrArg not hk25)) (o_val (r_lens el23 rfl) ?_)
     refine l_yes rfl rfl (by exact congrArg Value.bool (congrArg not hk25)) (o_val (r_bin (a := (r.len : Int)) (b := 1) rfl rfl (fun _ => b_add (by omega) (by omega))) ?_)
     refine l_yes rfl rfl (by exact congrArg Value.bool (congrArg not hk25)) (o_val (r_slH (len := r.len) (cap := r.len + 1) (h := r.len + 1) (m := r.len + 1) (hv := some (VI ((r.len : Int) + 1))) rfl el23 rfl rfl rfl (fun w => by exact sbh (r.len + 1) (by omega) (by omega) w)) ?_)
     refine l_yes rfl rfl (by exact congrArg Value.bool (congrArg not hk25)) (o_val (r_mv) ?_)
     refine l_yes rfl rfl (by exact congrArg Value.bool (congrArg not hk25)) (o_val (r_lens el23 rfl) ?_)
     have ah28 := ((show Gl.ok idE 32 (⟨some ⟨b5, 0, none⟩, r.len + 1, r.len + 1, r.l ++ [idz]⟩ : Gl Id32) _ from glBlk ([]) (H.has (.blk b5 ((r.l ++ [idz]).flatMap idE) 29) (by simp)) (by simp) (fun c _ => idE_len c) (by rw [List.length_append, hrl]; rfl) (by omega) (by omega))).addr (by decide) (by first | omega | (dsimp only; omega))
     obtain ⟨ab26, ao27, ah28⟩ := ah28
     refine l_yes rfl rfl (by exact congrArg Value.bool (congrArg not hk25)) (o_val (r_isN r.len rfl rfl el23 ah28 (by omega) (by (try simp only [Sl.cut]); omega)) ?_)
     have he30 : ∃ c, (⟨some ⟨b5, 0, none⟩, r.len + 1, r.len + 1, r.l ++ [idz]⟩ : Gl Id32).l[r.len]? = some c := ⟨_, List.getElem?_eq_getElem (by have := ((show Gl.ok idE 32 (⟨some ⟨b5, 0, none⟩, r.len + 1, r.len + 1, r.l ++ [idz]⟩ : Gl Id32) _ from glBlk ([]) (H.has (.blk b5 ((r.l ++ [idz]).flatMap idE) 29) (by simp)) (by simp) (fun c _ => idE_len c) (by rw [List.length_append, hrl]; rfl) (by omega) (by omega))).ln; (try dsimp only at this ⊢); omega)⟩
     obtain ⟨e29, he30⟩ := he30
     have hez31 := ((show Gl.ok idE 32 (⟨some ⟨b5, 0, none⟩, r.len + 1, r.len + 1, r.l ++ [idz]⟩ : Gl Id32) _ from glBlk ([]) (H.has (.blk b5 ((r.l ++ [idz]).flatMap idE) 29) (by simp)) (by simp) (fun c _ => idE_len c) (by rw [List.length_append, hrl]; rfl) (by omega) (by omega))).sz e29 (List.mem_of_getElem? he30)
     refine l_yes rfl rfl (by exact congrArg Value.bool (congrArg not hk25)) (o_val (r_ldRow (s := (⟨some ⟨b5, 0, none⟩, r.len + 1, r.len + 1, r.l ++ [idz]⟩ : Gl Id32)) (k := r.len) (show Gl.ok idE 32 (⟨some ⟨b5, 0, none⟩, r.len + 1, r.len + 1, r.l ++ [idz]⟩ : Gl Id32) _ from glBlk ([]) (H.has (.blk b5 ((r.l ++ [idz]).flatMap idE) 29) (by simp)) (by simp) (fun c _ => idE_len c) (by rw [List.length_append, hrl]; rfl) (by omega) (by omega)) ah28 rfl rt29 (by decide) he30) ?_)
     refine l_yes rfl rfl (by exact congrArg Value.bool (congrArg not hk25)) (o_val (r_bld' (pv := []) bd29 rfl rfl) ?_)
     refine l_yes rfl rfl (by exact congrArg Value.bool (congrArg not hk25)) (o_val (r_nea (a := e29.1) (b := List.replicate 32 (0 : UInt8)) Try.underlying29 Try.underlying5 cs5 rfl rfl (show (e29.1).length = 32 from e29.2) (show (List.replicate 32 (0 : UInt8)).length = 32 from (List.length_replicate ..))) ?_)
     have hk32 : (!(decide (e29.1 = List.replicate 32 (0 : UInt8)))) = false := (by have e : e29 = idz := last_is hrl he30; rw [e]; rfl)
     refine l_op (o_val (r_pick (b := false) (congrArg Value.bool (congrArg not hk25))) ?_)
     first | refine l_end ?_ | refine l_nil ?_
     repeat refine c_seq ?_
     refine c_no (by exact congrArg Value.bool hk32) ?_
     refine c_skip ?_
     repeat refine c_seq ?_
     refine c_region ?_
     refine l_op (o_val (r_as) ?_)
     first | refine l_end ?_ | refine l_nil ?_
     repeat refine c_seq ?_
     refine c_block ?_
     repeat refine c_seq ?_
     refine c_loop2 (fun (j : Nat) (ga : List Id32) => [(0, g.v), (1, r.v), (5, (⟨some ⟨b5, 0, none⟩, r.len, r.len + 1, r.l⟩ : Gl Id32).v), (6, VI (i : Int)), (7, .slice (hd a7) R9.length k8), (8, .slice (hd a11) R13.length k12), (9, VI (j : Int))])
       (fun (j : Nat) (ga : List Id32) w => (j ≤ R9.length) ∧ Hp w0 w [] ([.blk b5 ((r.l ++ [idz]).flatMap idE) 29, .own a7 R9.length k8 ((ga).flatMap idE) 29 32, .own a11 R13.length k12 ((R13).flatMap idE) 29 32, .own a15 R17.length k16 ((R17).flatMap idE) 29 32, .own a20 R22.length k21 ((R22).flatMap idE) 29 32]))
       (fun (j : Nat) (ga : List Id32) => R9.length - j) 0 R9 ⟨rfl, rfl, rfl, rfl, rfl, rfl, rfl, trivial⟩ ⟨Nat.zero_le _, H⟩ ?_
     clear H
     rintro j ga τ w ⟨hj, H⟩
     repeat refine c_seq ?_
     refine c_region ?_
     refine l_op (o_val (r_mv) ?_)
     refine l_op (o_val (r_mv) ?_)
     refine l_op (o_val (r_lens el23 rfl) ?_)
     refine l_op (o_val (r_bin (a := (j : Int)) (b := (R9.length : Int)) rfl rfl (fun _ => b_lss)) ?_)
     first | refine l_end ?_ | refine l_nil ?_
     by_cases hc33 : (j : Int) < (R9.length : Int)
     ·
      repeat refine c_seq ?_
      refine c_yes (by exact congrArg Value.bool (decide_eq_true hc33)) ?_
      refine c_skip ?_
      repeat refine c_seq ?_
      refine c_block ?_
      repeat refine c_seq ?_
      refine c_region ?_
      refine l_op (o_val (r_mv) ?_)
      refine l_op (o_val (r_mv) ?_)
      refine l_op (o_val (r_bld' (cells := ((((1 : UInt8) :: List.replicate 31 (0 : UInt8))).map V8).toArray) (pv := [(0, V8 (1 : UInt8))]) bd29 rfl rfl) ?_)
      have ah35 := H.ownAddr (i := 1) rfl (by omega)
      obtain ⟨ab34, ah35⟩ := ah35
      refine l_op (o_val (r_isN j rfl rfl el23 ah35 (by omega) (by (try simp only [Sl.cut]); omega)) ?_)
      have hg36 := ((H.glOwn (i := 1) rfl (by decide) (fun c _ => idE_len c))).ln
      refine l_op (o_stG (enc := idE) (c := (⟨((1 : UInt8) :: List.replicate 31 (0 : UInt8)), (show (((1 : UInt8) :: List.replicate 31 (0 : UInt8))).length = 32 from rfl)⟩ : Id32)) (k := j) H (i := 1) rfl (fun c _ => idE_len c) rfl ah35 rfl cs29 (idE_len _) (idE_all _) (by dsimp only at hg36; omega) (fun w H => ?_))
      replace H : Hp _ w _ ([_, .own a7 R9.length k8 (((ga).set j (⟨((1 : UInt8) :: List.replicate 31 (0 : UInt8)), (show (((1 : UInt8) :: List.replicate 31 (0 : UInt8))).length = 32 from rfl)⟩ : Id32)).flatMap idE) 29 32, _, _, _]) := H
      first | refine l_end ?_ | refine l_nil ?_
      repeat refine c_seq ?_
      refine c_region ?_
      refine l_op (o_val (r_mv) ?_)
      refine l_op (o_val (r_bin (a := (j : Int)) (b := 1) rfl rfl (fun _ => b_add (by omega) (by omega))) ?_)
      refine l_op (o_val (r_as) ?_)
      first | refine l_end ?_ | refine l_nil ?_
      refine round_end (j + 1, (ga).set j (⟨((1 : UInt8) :: List.replicate 31 (0 : UInt8)), (show (((1 : UInt8) :: List.replicate 31 (0 : UInt8))).length = 32 from rfl)⟩ : Id32)) ?_ ?_ ?_
      · exact ⟨rfl, rfl, rfl, rfl, rfl, rfl, show VI ((j : Int) + 1) = VI ((j + 1 : Nat) : Int) from congrArg VI (by omega), trivial⟩
      · refine ⟨?_, ?_⟩
        · try dsimp only
          exact by omega
        · exact H.sub (.cons_cons _ (.cons_cons _ (.cons_cons _ (.cons_cons _ (.cons_cons _ (List.nil_sublist _))))))
      · show R9.length - (j + 1 : Nat) < R9.length - j; omega
     ·
      repeat refine c_seq ?_
      refine c_no (by exact congrArg Value.bool (decide_eq_false hc33)) ?_
      refine c_exit ?_
      repeat refine c_seq ?_
      refine c_region ?_
      refine l_op (o_val (r_as) ?_)
      first | refine l_end ?_ | refine l_nil ?_
      repeat refine c_seq ?_
      refine c_block ?_
      repeat refine c_seq ?_
      refine c_loop2 (fun (k : Nat) (gb : List Id32) => [(0, g.v), (1, r.v), (5, (⟨some ⟨b5, 0, none⟩, r.len, r.len + 1, r.l⟩ : Gl Id32).v), (6, VI (i : Int)), (8, .slice (hd a11) R13.length k12), (10, VI (k : Int))])
        (fun (k : Nat) (gb : List Id32) w => (k ≤ R13.length) ∧ Hp w0 w [] ([.blk b5 ((r.l ++ [idz]).flatMap idE) 29, .own a7 R9.length k8 ((ga).flatMap idE) 29 32, .own a11 R13.length k12 ((gb).flatMap idE) 29 32, .own a15 R17.length k16 ((R17).flatMap idE) 29 32, .own a20 R22.length k21 ((R22).flatMap idE) 29 32]))
        (fun (k : Nat) (gb : List Id32) => R13.length - k) 0 R13 ⟨rfl, rfl, rfl, rfl, rfl, rfl, trivial⟩ ⟨Nat.zero_le _, H⟩ ?_
      clear H
      rintro k gb τ w ⟨hk, H⟩
      repeat refine c_seq ?_
      refine c_region ?_
      refine l_op (o_val (r_mv) ?_)
      refine l_op (o_val (r_mv) ?_)
      refine l_op (o_val (r_lens el23 rfl) ?_)
      refine l_op (o_val (r_bin (a := (k : Int)) (b := (R13.length : Int)) rfl rfl (fun _ => b_lss)) ?_)
      first | refine l_end ?_ | refine l_nil ?_
      by_cases hc37 : (k : Int) < (R13.length : Int)
      ·
       repeat refine c_seq ?_
       refine c_yes (by exact congrArg Value.bool (decide_eq_true hc37)) ?_
       refine c_skip ?_
       repeat refine c_seq ?_
       refine c_block ?_
       repeat refine c_seq ?_
       refine c_region ?_
       refine l_op (o_val (r_mv) ?_)
       refine l_op (o_val (r_mv) ?_)
       refine l_op (o_val (r_bld' (cells := ((((1 : UInt8) :: List.replicate 31 (0 : UInt8))).map V8).toArray) (pv := [(0, V8 (1 : UInt8))]) bd29 rfl rfl) ?_)
       have ah39 := H.ownAddr (i := 2) rfl (by omega)
       obtain ⟨ab38, ah39⟩ := ah39
       refine l_op (o_val (r_isN k rfl rfl el23 ah39 (by omega) (by (try simp only [Sl.cut]); omega)) ?_)
       have hg40 := ((H.glOwn (i := 2) rfl (by decide) (fun c _ => idE_len c))).ln
       refine l_op (o_stG (enc := idE) (c := (⟨((1 : UInt8) :: List.replicate 31 (0 : UInt8)), (show (((1 : UInt8) :: List.replicate 31 (0 : UInt8))).length = 32 from rfl)⟩ : Id32)) (k := k) H (i := 2) rfl (fun c _ => idE_len c) rfl ah39 rfl cs29 (idE_len _) (idE_all _) (by dsimp only at hg40; omega) (fun w H => ?_))
       replace H : Hp _ w _ ([_, _, .own a11 R13.length k12 (((gb).set k (⟨((1 : UInt8) :: List.replicate 31 (0 : UInt8)), (show (((1 : UInt8) :: List.replicate 31 (0 : UInt8))).length = 32 from rfl)⟩ : Id32)).flatMap idE) 29 32, _, _]) := H
       first | refine l_end ?_ | refine l_nil ?_
       repeat refine c_seq ?_
       refine c_region ?_
       refine l_op (o_val (r_mv) ?_)
       refine l_op (o_val (r_bin (a := (k : Int)) (b := 1) rfl rfl (fun _ => b_add (by omega) (by omega))) ?_)
       refine l_op (o_val (r_as) ?_)
       first | refine l_end ?_ | refine l_nil ?_
       refine round_end (k + 1, (gb).set k (⟨((1 : UInt8) :: List.replicate 31 (0 : UInt8)), (show (((1 : UInt8) :: List.replicate 31 (0 : UInt8))).length = 32 from rfl)⟩ : Id32)) ?_ ?_ ?_
       · exact ⟨rfl, rfl, rfl, rfl, rfl, show VI ((k : Int) + 1) = VI ((k + 1 : Nat) : Int) from congrArg VI (by omega), trivial⟩
       · refine ⟨?_, ?_⟩
         · try dsimp only
           exact by omega
         · exact H.sub (.cons_cons _ (.cons_cons _ (.cons_cons _ (.cons_cons _ (.cons_cons _ (List.nil_sublist _))))))
       · show R13.length - (k + 1 : Nat) < R13.length - k; omega
      ·
       repeat refine c_seq ?_
       refine c_no (by exact congrArg Value.bool (decide_eq_false hc37)) ?_
       refine c_exit ?_
       repeat refine c_seq ?_
       refine c_region ?_
       refine l_op (o_val (r_mv) ?_)
       refine l_op (o_val (r_bin (a := (i : Int)) (b := 1) rfl rfl (fun _ => b_add (by omega) (by omega))) ?_)
       refine l_op (o_val (r_as) ?_)
       first | refine l_end ?_ | refine l_nil ?_
       refine round_end (i + 1) ?_ ?_ ?_
       · exact ⟨rfl, rfl, rfl, show VI ((i : Int) + 1) = VI ((i + 1 : Nat) : Int) from congrArg VI (by omega), trivial⟩
       · refine ⟨?_, ?_⟩
         · try dsimp only
           exact by omega
         · exact H.sub (.cons_cons _ (List.nil_sublist _))
       · show 2 - (i + 1 : Nat) < 2 - i; omega
    ·
     repeat refine c_seq ?_
     refine c_no (by exact congrArg Value.bool (decide_eq_false hc6)) ?_
     refine c_exit ?_
     repeat refine c_seq ?_
     refine c_region ?_
     refine l_op (o_val (r_as) ?_)
     first | refine l_end ?_ | refine l_nil ?_
     refine c_ret ?_
     try dsimp only [Exit.then, Exit.inBlock]
     refine e_ret1 (v := .bool true) Try.results3 rfl ?_
     refine ⟨_, rfl, ?_⟩
     exact ⟨rfl, H.sub (List.nil_sublist _)⟩
  ·
   refine l_no rfl rfl (by exact congrArg Value.bool (congrArg not hc3)) rfl ?_
   refine l_no rfl rfl (by exact congrArg Value.bool (congrArg not hc3)) rfl ?_
   refine l_no rfl rfl (by exact congrArg Value.bool (congrArg not hc3)) rfl ?_
   refine l_op (o_val (r_pick (b := true) (congrArg Value.bool (congrArg not hc3))) ?_)
   first | refine l_end ?_ | refine l_nil ?_
   repeat refine c_seq ?_
   refine c_yes rfl ?_
   repeat refine c_seq ?_
   refine c_region ?_
   refine l_op (o_val (r_as) ?_)
   first | refine l_end ?_ | refine l_nil ?_
   refine c_ret ?_
   try dsimp only [Exit.then, Exit.inBlock]
   refine e_ret1 (v := .bool true) Try.results3 rfl ?_
   refine ⟨_, rfl, ?_⟩
   exact ⟨rfl, H.sub (List.nil_sublist _)⟩
end Go.Proofs.Ytomjbabllcmodaa
