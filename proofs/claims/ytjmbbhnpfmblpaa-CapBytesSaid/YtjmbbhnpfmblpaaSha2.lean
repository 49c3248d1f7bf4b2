import Derived.Test.YtjmbbhnpfmblpaaSha1
/- sha: the words of a block. -/
namespace Go.Proofs.Ytjmbbhnpfmblpaa
open Go
set_option maxRecDepth 100000
theorem byteAt (b : List UInt8) (j : Nat) (h : j < b.length) : (b.map V8)[j]? = some (V8 (b.getD j 0)) := by simp [h]
set_option maxHeartbeats 1000000 in
theorem spread_ret (w0 : World) (p o : Nat) (bs : List UInt8) (hb : bs.length = 64) (hr : RdS w0 (some ⟨p, o, none⟩) (bs.map V8)) :
    Ret Try.prog 136 [.pointer (some ⟨p, o, none⟩)] w0 fun v w' => v = .agg (pad64 (sched bs 48)).toArray ∧ Hp w0 w' [] [] := by
  refine ret_mk Try.func136 rfl Try.ntmps136 (by simp) ?_
  have H := Hp.refl w0 []
  repeat refine c_seq ?_
  refine c_region ?_
  refine l_op (o_alloc H zc149 (fun b2 w H hb2 => ?_))
  first | refine l_end ?_ | refine l_nil ?_
  repeat refine c_seq ?_
  refine c_region ?_
  refine l_op (o_alloc H zc149 (fun b3 w H hb3 => ?_))
  first | refine l_end ?_ | refine l_nil ?_
  repeat refine c_seq ?_
  refine c_region ?_
  refine l_op (o_mv ?_)
  first | refine l_end ?_ | refine l_nil ?_
  repeat refine c_seq ?_
  refine c_block ?_
  refine c_loop (ι := Nat) (fun i => [(8, VI i), (3, .pointer (some ⟨b3, 0, none⟩)), (2, .pointer (some ⟨b2, 0, none⟩)), (0, .pointer (some ⟨p, o, none⟩))])
    (fun i w => i ≤ 16 ∧ Hp w0 w [] [.blk b2 (pad64 []) 149, .blk b3 (pad64 (firsts bs i)) 149]) (fun i => 16 - i) 0 ⟨rfl, rfl, rfl, rfl, trivial⟩ ⟨by omega, H⟩ ?_
  clear H
  rintro i τ w ⟨hi, H⟩
  repeat refine c_seq ?_
  refine c_region ?_
  refine l_op (o_bin rfl rfl (fun _ => b_lss) ?_)
  first | refine l_end ?_ | refine l_nil ?_
  repeat refine c_seq ?_
  refine c_ifD rfl (fun hlt => ?_) (fun hlt => ?_)
  · have hlt' : i < 16 := by omega
    have hfl := firsts_length bs i
    refine c_skip ?_
    repeat refine c_seq ?_
    refine c_block ?_
    repeat refine c_seq ?_
    refine c_region ?_
    refine l_op (o_mv ?_)
    refine l_op (o_as ?_)
    first | refine l_end ?_ | refine l_nil ?_
    repeat refine c_seq ?_
    refine c_tail 38 mixed (by kernel_rfl) ?_
    replace H := H.drew
    refine s_op (r_mv) ?_
    refine s_op (r_mv) ?_
    refine s_op (r_mv) ?_
    refine s_op (r_bin rfl rfl (fun _ => b_mul (by omega) (by omega))) ?_
    refine s_op (r_nilc rfl) ?_
    refine s_op (r_ia rfl rfl ar50 (by omega) (by omega)) ?_
    refine s_op (r_lds (H.rd hr (apart_nil _)) rfl rfl ct5 (byteAt bs _ (by omega))) ?_
    refine s_op (r_conv Try.underlying5 Try.underlying48 rfl (w_u32_8 _)) ?_
    refine s_op (r_shift rfl rfl (.inl rfl) (fun _ => b_shl_u32 (by decide) (by decide))) ?_
    refine s_op (r_mv) ?_
    refine s_op (r_mv) ?_
    refine s_op (r_bin rfl rfl (fun _ => b_mul (by omega) (by omega))) ?_
    refine s_op (r_bin rfl rfl (fun _ => b_add (by omega) (by omega))) ?_
    refine s_op (r_nilc rfl) ?_
    refine s_op (r_ia rfl rfl ar50 (by omega) (by omega)) ?_
    refine s_op (r_lds (H.rd hr (apart_nil _)) rfl rfl ct5 (byteAt bs _ (by omega))) ?_
    refine s_op (r_conv Try.underlying5 Try.underlying48 rfl (w_u32_8 _)) ?_
    refine s_op (r_shift rfl rfl (.inl rfl) (fun _ => b_shl_u32 (by decide) (by decide))) ?_
    refine s_op (r_bin rfl rfl (fun _ => b_or_u32)) ?_
    refine s_op (r_mv) ?_
    refine s_op (r_mv) ?_
    refine s_op (r_bin rfl rfl (fun _ => b_mul (by omega) (by omega))) ?_
    refine s_op (r_bin rfl rfl (fun _ => b_add (by omega) (by omega))) ?_
    refine s_op (r_nilc rfl) ?_
    refine s_op (r_ia rfl rfl ar50 (by omega) (by omega)) ?_
    refine s_op (r_lds (H.rd hr (apart_nil _)) rfl rfl ct5 (byteAt bs _ (by omega))) ?_
    refine s_op (r_conv Try.underlying5 Try.underlying48 rfl (w_u32_8 _)) ?_
    refine s_op (r_shift rfl rfl (.inl rfl) (fun _ => b_shl_u32 (by decide) (by decide))) ?_
    refine s_op (r_bin rfl rfl (fun _ => b_or_u32)) ?_
    refine s_op (r_mv) ?_
    refine s_op (r_mv) ?_
    refine s_op (r_bin rfl rfl (fun _ => b_mul (by omega) (by omega))) ?_
    refine s_op (r_bin rfl rfl (fun _ => b_add (by omega) (by omega))) ?_
    refine s_op (r_nilc rfl) ?_
    refine s_op (r_ia rfl rfl ar50 (by omega) (by omega)) ?_
    refine s_op (r_lds (H.rd hr (apart_nil _)) rfl rfl ct5 (byteAt bs _ (by omega))) ?_
    refine s_op (r_conv Try.underlying5 Try.underlying48 rfl (w_u32_8 _)) ?_
    refine s_op (r_bin rfl rfl (fun _ => b_or_u32)) ?_
    refine s_nil ?_
    refine l_op (o_ia rfl rfl ar149 (by omega) (by omega) ?_)
    refine l_op (o_st H (i := 1) (v := V32 (wordAt bs i)) rfl rfl ?_ cs48 rfl (by rw [pad64_length _ (by omega)]; omega) (fun w H => ?_))
    · have h0 : (4 * (i : Int)).toNat * 1 = 4 * i := by omega
      have h1 : (4 * (i : Int) + 1).toNat * 1 = 4 * i + 1 := by omega
      have h2 : (4 * (i : Int) + 2).toNat * 1 = 4 * i + 2 := by omega
      have h3 : (4 * (i : Int) + 3).toNat * 1 = 4 * i + 3 := by omega
      show V32 ((((bs.getD ((4 * (i : Int)).toNat * 1) 0).toUInt32 <<< UInt32.ofNat (24 : Int).toNat ||| (bs.getD ((4 * (i : Int) + 1).toNat * 1) 0).toUInt32 <<< UInt32.ofNat (16 : Int).toNat) ||| (bs.getD ((4 * (i : Int) + 2).toNat * 1) 0).toUInt32 <<< UInt32.ofNat (8 : Int).toNat) ||| (bs.getD ((4 * (i : Int) + 3).toNat * 1) 0).toUInt32) = _
      rw [h0, h1, h2, h3]; rfl
    first | refine l_end ?_ | refine l_nil ?_
    have e : (pad64 (firsts bs i)).set (0 + (i : Int).toNat * 1) (V32 (wordAt bs i)) = pad64 (firsts bs (i + 1)) := by
      rw [firsts, ← pad64_set _ _ (by omega), hfl]; congr 1; omega
    rw [e] at H
    repeat refine c_seq ?_
    refine c_region ?_
    refine l_op (o_bin rfl rfl (fun _ => b_add (by omega) (by omega)) ?_)
    refine l_op (o_mv ?_)
    first | refine l_end ?_ | refine l_nil ?_
    refine round_end (i + 1) ?_ ?_ ?_
    · exact ⟨rfl, rfl, rfl, rfl, trivial⟩
    · exact ⟨by omega, H⟩
    · show 16 - (i + 1) < 16 - i; omega
  · have hi16 : i = 16 := by omega
    subst hi16
    clear hlt hi
    refine c_exit ?_
    repeat refine c_seq ?_
    refine c_region ?_
    refine l_op (o_as ?_)
    first | refine l_end ?_ | refine l_nil ?_
    repeat refine c_seq ?_
    refine c_block ?_
    refine c_loop (ι := Nat) (fun k => [(5, VI (16 + k : Nat)), (3, .pointer (some ⟨b3, 0, none⟩)), (2, .pointer (some ⟨b2, 0, none⟩))])
      (fun k w => k ≤ 48 ∧ Hp w0 w [] [.blk b2 (pad64 []) 149, .blk b3 (pad64 (sched bs k)) 149]) (fun k => 48 - k) 0 ⟨rfl, rfl, rfl, trivial⟩ ⟨by omega, H⟩ ?_
    clear H
    rintro k τ w ⟨hk, H⟩
    have hsl := sched_length bs k
    repeat refine c_seq ?_
    refine c_region ?_
    refine l_op (o_mv ?_)
    refine l_op (o_bin rfl rfl (fun _ => b_lss) ?_)
    first | refine l_end ?_ | refine l_nil ?_
    repeat refine c_seq ?_
    refine c_ifD rfl (fun hlt => ?_) (fun hlt => ?_)
    · have hlt' : k < 48 := by omega
      have hg : ∀ j, j < 16 + k → (pad64 (sched bs k))[j]? = some (V32 ((sched bs k).getD j 0)) := fun j hj => pad64_get _ _ (by omega)
      refine c_skip ?_
      repeat refine c_seq ?_
      refine c_block ?_
      repeat refine c_seq ?_
      refine c_still mixed (by kernel_rfl) ?_
      replace H := H.drew
      refine s_op (r_mv) ?_
      refine s_op (r_bin rfl rfl (fun _ => b_sub (by omega) (by omega))) ?_
      refine s_op (r_ia rfl rfl ar149 (by omega) (by omega)) ?_
      refine s_op (r_ld H (i := 1) rfl rfl ct48 (hg _ (by omega))) ?_
      refine s_op (r_mv) ?_
      refine s_op (r_bin rfl rfl (fun _ => b_sub (by omega) (by omega))) ?_
      refine s_op (r_ia rfl rfl ar149 (by omega) (by omega)) ?_
      refine s_op (r_ld H (i := 1) rfl rfl ct48 (hg _ (by omega))) ?_
      refine s_op (r_as) ?_
      refine s_op (r_as) ?_
      refine s_nil ?_
      have x0 : 0 + (((16 + k : Nat) : Int) - 16).toNat * 1 = 16 + k - 16 := by omega
      have x1 : 0 + (((16 + k : Nat) : Int) - 15).toNat * 1 = 16 + k - 15 := by omega
      have x2 : 0 + (((16 + k : Nat) : Int) - 2).toNat * 1 = 16 + k - 2 := by omega
      have x3 : 0 + (((16 + k : Nat) : Int) - 7).toNat * 1 = 16 + k - 7 := by omega
      repeat refine c_seq ?_
      refine c_region ?_
      refine l_op (o_mv ?_)
      refine l_op (o_callR Try.func137 rfl rfl rfl (rot_ret _ 25 _ (by omega) (by omega) _ rfl) ?_)
      rintro _ w ⟨rfl, rfl⟩
      refine l_op (o_mv ?_)
      refine l_op (o_callR Try.func137 rfl rfl rfl (rot_ret _ 14 _ (by omega) (by omega) _ rfl) ?_)
      rintro _ w ⟨rfl, rfl⟩
      refine l_op (o_bin rfl rfl (fun _ => b_xor_u32) ?_)
      refine l_op (o_mv ?_)
      refine l_op (o_shift rfl rfl (.inr rfl) (fun _ => b_shr_u32 (by decide) (by decide)) ?_)
      refine l_op (o_bin rfl rfl (fun _ => b_xor_u32) ?_)
      refine l_op (o_as ?_)
      first | refine l_end ?_ | refine l_nil ?_
      repeat refine c_seq ?_
      refine c_region ?_
      refine l_op (o_mv ?_)
      refine l_op (o_callR Try.func137 rfl rfl rfl (rot_ret _ 15 _ (by omega) (by omega) _ rfl) ?_)
      rintro _ w ⟨rfl, rfl⟩
      refine l_op (o_mv ?_)
      refine l_op (o_callR Try.func137 rfl rfl rfl (rot_ret _ 13 _ (by omega) (by omega) _ rfl) ?_)
      rintro _ w ⟨rfl, rfl⟩
      refine l_op (o_bin rfl rfl (fun _ => b_xor_u32) ?_)
      refine l_op (o_mv ?_)
      refine l_op (o_shift rfl rfl (.inr rfl) (fun _ => b_shr_u32 (by decide) (by decide)) ?_)
      refine l_op (o_bin rfl rfl (fun _ => b_xor_u32) ?_)
      refine l_op (o_as ?_)
      first | refine l_end ?_ | refine l_nil ?_
      repeat refine c_seq ?_
      refine c_tail 15 mixed (by kernel_rfl) ?_
      replace H := H.drew
      refine s_op (r_mv) ?_
      refine s_op (r_mv) ?_
      refine s_op (r_bin rfl rfl (fun _ => b_sub (by omega) (by omega))) ?_
      refine s_op (r_ia rfl rfl ar149 (by omega) (by omega)) ?_
      refine s_op (r_ld H (i := 1) rfl rfl ct48 (hg _ (by omega))) ?_
      refine s_op (r_mv) ?_
      refine s_op (r_bin rfl rfl (fun _ => b_add_u32)) ?_
      refine s_op (r_mv) ?_
      refine s_op (r_bin rfl rfl (fun _ => b_sub (by omega) (by omega))) ?_
      refine s_op (r_ia rfl rfl ar149 (by omega) (by omega)) ?_
      refine s_op (r_ld H (i := 1) rfl rfl ct48 (hg _ (by omega))) ?_
      refine s_op (r_bin rfl rfl (fun _ => b_add_u32)) ?_
      refine s_op (r_mv) ?_
      refine s_op (r_bin rfl rfl (fun _ => b_add_u32)) ?_
      refine s_op (r_ia rfl rfl ar149 (by omega) (by omega)) ?_
      refine s_nil ?_
      refine l_op (o_st H (i := 1) (v := V32 (nextWord (sched bs k))) rfl rfl ?_ cs48 rfl (by rw [pad64_length _ (by omega)]; omega) (fun w H => ?_))
      · show V32 (((sched bs k).getD (0 + (((16 + k : Nat) : Int) - 16).toNat * 1) 0 + sg0 ((sched bs k).getD (0 + (((16 + k : Nat) : Int) - 15).toNat * 1) 0) + (sched bs k).getD (0 + (((16 + k : Nat) : Int) - 7).toNat * 1) 0) + sg1 ((sched bs k).getD (0 + (((16 + k : Nat) : Int) - 2).toNat * 1) 0)) = _
        rw [x0, x1, x2, x3, nextWord, hsl]
      first | refine l_end ?_ | refine l_nil ?_
      have e : (pad64 (sched bs k)).set (0 + ((16 + k : Nat) : Int).toNat * 1) (V32 (nextWord (sched bs k))) = pad64 (sched bs (k + 1)) := by
        rw [sched, ← pad64_set _ _ (by omega), hsl]; congr 1; omega
      rw [e] at H
      repeat refine c_seq ?_
      refine c_region ?_
      refine l_op (o_mv ?_)
      refine l_op (o_bin rfl rfl (fun _ => b_add (by omega) (by omega)) ?_)
      refine l_op (o_as ?_)
      first | refine l_end ?_ | refine l_nil ?_
      refine round_end (k + 1) ?_ ?_ ?_
      · exact ⟨rfl, rfl, rfl, trivial⟩
      · exact ⟨by omega, H⟩
      · show 48 - (k + 1) < 48 - k; omega
    · have hk48 : k = 48 := by omega
      subst hk48
      clear hlt hk
      refine c_exit ?_
      have hl48 : (pad64 (sched bs 48)).length = 64 := pad64_length _ (by omega)
      have hall : ((pad64 (sched bs 48)).drop 0).take 64 = pad64 (sched bs 48) := by rw [List.drop_zero, List.take_of_length_le (by omega)]
      have h1c : (pad64 (sched bs 48)).toArray.all (·.oneCell') = true := by
        rw [List.all_toArray]; simp [pad64, Value.oneCell']
      repeat refine c_seq ?_
      refine c_region ?_
      refine l_op (o_ldr H (i := 1) rfl rfl rt149 (by rw [hl48]; exact Nat.le_refl _) ?_)
      rw [hall]
      refine l_op (o_stw H (i := 0) rfl rfl rfl (by rw [cs149]; simp [hl48]) h1c (by simp [hl48, pad64_length]) (fun w H => ?_))
      first | refine l_end ?_ | refine l_nil ?_
      refine c_ret (e_retc Try.results136 H (i := 0) rfl rfl rt149 (by simp [hl48]) ⟨_, rfl, rfl, ?_⟩)
      exact H.sub (List.nil_sublist _)
end Go.Proofs.Ytjmbbhnpfmblpaa
