import Derived.Test.YtjmbbhnpfmblpaaSha3
import Derived.Test.YtjmbbhnpfmblpaaShaAbs
/- sha: writing. -/
namespace Go.Proofs.Ytjmbbhnpfmblpaa
open Go
set_option maxRecDepth 100000
/-- the cells of a hash that has been told s. -/
def hashH (s : HS) : List Value := hashC s.st s.wt s.m
theorem hashC_one (s : S8) (wt : List UInt8) (m : UInt64) : ∀ v ∈ hashC s wt m, v.oneCell' = true := by
  intro v hv
  simp only [hashC, List.mem_cons, List.mem_append, List.mem_map, List.not_mem_nil, or_false] at hv
  rcases hv with rfl | ⟨_, _, rfl⟩ | ⟨_, _, rfl⟩ | rfl <;> rfl
theorem hashC_splice (s : S8) (wt : List UInt8) (m : UInt64) (k : Nat) (l : List UInt8) (h : wt.length = 64) (hk : k + l.length ≤ 64) :
    (hashC s wt m).take (0 + 9 + k * 1) ++ l.map V8 ++ (hashC s wt m).drop (0 + 9 + k * 1 + l.length) = hashC s (spl wt k l) m := by
  have e : hashC s wt m = (.bool true :: s.l.map V32) ++ (wt.map V8 ++ [V64 m]) := rfl
  have h9 : (Value.bool true :: s.l.map V32).length = 9 := by simp [S8.l]
  have e2 : hashC s (spl wt k l) m = (.bool true :: s.l.map V32) ++ ((spl wt k l).map V8 ++ [V64 m]) := rfl
  have e3 : 0 + 9 + k * 1 = (Value.bool true :: s.l.map V32).length + k := by omega
  rw [e, e2, e3, Nat.add_assoc, List.take_length_add_append, List.drop_length_add_append, List.take_append_of_le_length (by simp; omega), List.drop_append_of_le_length (by simp; omega)]
  simp [spl, List.map_take, List.map_drop]
theorem at_u64 (m : UInt64) : IntKind.i64.wrap ((m.toNat : Int) % 64) = ((m.toNat % 64 : Nat) : Int) := by
  rw [wrap_i64 (by omega) (by omega)]; omega
theorem u64_nat (k : Nat) (_h : k < 18446744073709551616) : IntKind.u64.wrap (k : Int) = ((UInt64.ofNat k).toNat : Int) := by
  rw [wrap_u64, UInt64.toNat_ofNat']; omega
set_option maxHeartbeats 4000000 in
theorem write_ret (w0 : World) (hb : Nat) (s : HS) (a : Option Addr) (len cap : Nat) (l : List UInt8) (hwt : s.wt.length = 64) (hH : w0.heap[hb]? = some (.cells (hashH s).toArray 52 (0, 0)))
    (hr : RdS w0 a (l.map V8)) (hl : l.length = len) (hcap : len ≤ cap) (hap : l ≠ [] → Apart a [hb]) (hmx : len ≤ 9223372036854775807) :
    Ret Try.prog 35 [.pointer (some ⟨hb, 0, none⟩), .slice a len cap] w0 fun v w' => v = .tuple #[] ∧ Hp w0 w' [hb] [.blk hb (hashH (absorb s l)) 52] := by
  refine ret_mk Try.func35 rfl Try.ntmps35 (by simp) ?_
  have H := Hp.start w0 (.blk hb (hashH s) 52) hb hH rfl
  repeat refine c_seq ?_
  refine c_region ?_
  refine l_op (o_mv ?_)
  refine l_op (o_callR Try.func104 rfl rfl rfl (none_at _ hb true _ _ hH rfl) ?_)
  rintro _ w ⟨rfl, hw⟩
  rw [hw]; clear hw w
  first | refine l_end ?_ | refine l_nil ?_
  repeat refine c_seq ?_
  refine c_no rfl ?_
  refine c_skip ?_
  repeat refine c_seq ?_
  refine c_block ?_
  refine c_loop (ι := Option Addr × Nat × Nat × List UInt8 × HS) (fun i => [(0, .pointer (some ⟨hb, 0, none⟩)), (1, .slice i.1 i.2.1 i.2.2.1)])
    (fun i w => i.2.1 ≤ i.2.2.1 ∧ i.2.1 ≤ 9223372036854775807 ∧ i.2.2.2.1.length = i.2.1 ∧ RdS w0 i.1 (i.2.2.2.1.map V8) ∧ (i.2.2.2.1 ≠ [] → Apart i.1 [hb]) ∧ i.2.2.2.2.wt.length = 64 ∧ absorb i.2.2.2.2 i.2.2.2.1 = absorb s l ∧ Hp w0 w [hb] [.blk hb (hashH i.2.2.2.2) 52])
    (fun i => i.2.1) (a, len, cap, l, s) ⟨rfl, rfl, trivial⟩ ⟨hcap, hmx, hl, hr, hap, hwt, rfl, H⟩ ?_
  clear H hr hl hcap hap hmx hwt hH
  rintro ⟨a, len, cap, rest, s'⟩ τ w ⟨hcap, hmx, hl, hr, hap, hwt, hab, H⟩
  simp only at hcap hmx hl hr hap hwt hab H
  repeat refine c_seq ?_
  refine c_region ?_
  refine l_op (o_mv ?_)
  refine l_op (o_lens el29 rfl ?_)
  refine l_op (o_bin rfl rfl (fun _ => b_gtr) ?_)
  first | refine l_end ?_ | refine l_nil ?_
  repeat refine c_seq ?_
  refine c_ifD rfl (fun hlt => ?_) (fun hlt => ?_)
  · have hlen : 0 < len := by have : (0:Int) < (len:Int) := hlt; omega
    have hne0 : rest ≠ [] := fun e => by rw [e] at hl; simp at hl; omega
    obtain ⟨st, wt, m⟩ := s'
    simp only [hashH] at hwt H
    obtain ⟨at', hat⟩ : ∃ at', m.toNat % 64 = at' := ⟨_, rfl⟩
    have hat64 : at' < 64 := by omega
    obtain ⟨k, hk⟩ : ∃ k, min len (64 - at') = k := ⟨_, rfl⟩
    have hk1 : 0 < k := by omega
    have hk2 : k ≤ len := by omega
    have hk3 : at' + k ≤ 64 := by omega
    have hpre : (rest.take k).length = k := by rw [List.length_take]; omega
    have hC := hashC_length st wt m hwt
    refine c_skip ?_
    repeat refine c_seq ?_
    refine c_block ?_
    repeat refine c_seq ?_
    refine c_region ?_
    refine l_op (o_mv ?_)
    refine l_op (o_nilc rfl ?_)
    refine l_op (o_fa rfl fo52_3 ?_)
    refine l_op (o_ld H (i := 0) rfl rfl ct35 (hashC_num _ _ _ hwt) ?_)
    refine l_op (o_bin rfl rfl (fun _ => b_rem (by omega) (by omega)) ?_)
    refine l_op (o_conv Try.underlying35 Try.underlying3 rfl ((at_u64 m).trans (congrArg _ hat)) ?_)
    refine l_op (o_as ?_)
    first | refine l_end ?_ | refine l_nil ?_
    repeat refine c_seq ?_
    refine c_region ?_
    refine l_op (o_mv ?_)
    refine l_op (o_nilc rfl ?_)
    refine l_op (o_fa rfl fo52_2 ?_)
    refine l_op (o_mv ?_)
    refine l_op (o_slb (l := at') rfl ar50 rfl rfl rfl (fun w => by exact sb_l (by omega) (by omega) w) (by omega) ?_)
    refine l_op (o_mv ?_)
    refine l_op (o_copy H (i := 0) (vs := rest.map V8) rfl Try.underlying29 Try.underlying29 cs5 (by decide) rfl rfl (H.rd hr (hap hne0)) (by simp [hl]) (by simp [Value.oneCell']) (by rw [hC]; omega) (fun w H => ?_))
    rw [hk] at H ⊢
    have e1 : (rest.map V8).take (k * 1) = (rest.take k).map V8 := by rw [Nat.mul_one, List.map_take]
    have e2 : 0 + 9 + at' * 1 + k * 1 = 0 + 9 + at' * 1 + (rest.take k).length := by rw [hpre]; omega
    rw [e1, e2, hashC_splice st wt m at' (rest.take k) hwt (by omega)] at H
    refine l_op (o_as ?_)
    first | refine l_end ?_ | refine l_nil ?_
    obtain ⟨wt', hwt'⟩ : ∃ x, spl wt at' (rest.take k) = x := ⟨_, rfl⟩
    have hwl : wt'.length = 64 := by rw [← hwt', spl_length _ _ _ (by omega), hwt]
    rw [hwt'] at H
    repeat refine c_seq ?_
    refine c_region ?_
    refine l_op (o_mv ?_)
    refine l_op (o_mv ?_)
    refine l_op (o_sl (a := a) (len := len) (cap := cap) (l := k) rfl el29 rfl rfl rfl (fun w => by exact sb_l (by omega) (by omega) w) ?_)
    refine l_op (o_as ?_)
    first | refine l_end ?_ | refine l_nil ?_
    have hr2 : RdS w0 (sa a k cap 1) ((rest.drop k).map V8) := by
      have := hr.sa k cap 1 (by simp; omega)
      rwa [Nat.mul_one, ← List.map_drop] at this
    repeat refine c_seq ?_
    refine c_region ?_
    refine l_op (o_mv ?_)
    refine l_op (o_nilc rfl ?_)
    refine l_op (o_fa rfl fo52_3 ?_)
    refine l_op (o_ld H (i := 0) rfl rfl ct35 (hashC_num _ _ _ hwl) ?_)
    refine l_op (o_mv ?_)
    refine l_op (o_conv Try.underlying3 Try.underlying35 rfl (u64_nat k (by omega)) ?_)
    refine l_op (o_bin rfl rfl (fun _ => b_add_u64) ?_)
    refine l_op (o_nilc rfl ?_)
    refine l_op (o_fa rfl fo52_3 ?_)
    refine l_op (o_st H (i := 0) (v := V64 (m + UInt64.ofNat k)) rfl rfl rfl cs35 rfl (by rw [hashC_length _ _ _ hwl]; decide) (fun w H => ?_))
    first | refine l_end ?_ | refine l_nil ?_
    have e3 : (hashC st wt' m).set (0 + 73) (V64 (m + UInt64.ofNat k)) = hashC st wt' (m + UInt64.ofNat k) := hashC_setn _ _ _ _ hwl
    simp only [List.set_cons_zero] at H
    rw [e3] at H
    repeat refine c_seq ?_
    refine c_region ?_
    refine l_op (o_mv ?_)
    refine l_op (o_mv ?_)
    refine l_op (o_bin rfl rfl (fun _ => b_add (by omega) (by omega)) ?_)
    refine l_op (o_bin rfl rfl (fun _ => b_eql) ?_)
    first | refine l_end ?_ | refine l_nil ?_
    have hsum : absorb ⟨st, wt, m⟩ rest = absorb (absorb ⟨st, wt, m⟩ (rest.take k)) (rest.drop k) := by rw [← absorb_append, List.take_append_drop]
    repeat refine c_seq ?_
    refine c_ifD rfl (fun h64 => ?_) (fun h64 => ?_)
    · have hfull : absorb ⟨st, wt, m⟩ (rest.take k) = ⟨comp st wt', wt', m + UInt64.ofNat k⟩ := by
        have hne : rest.take k ≠ [] := fun e => by rw [e] at hpre; simp at hpre; omega
        have := absorb_full (rest.take k) ⟨st, wt, m⟩ hwt (by show m.toNat % 64 + _ = 64; omega) hne
        have e4 : HS.at_ ⟨st, wt, m⟩ = at' := hat
        rw [this, e4, hpre]; simp only [hwt']
      repeat refine c_seq ?_
      refine c_region ?_
      refine l_op (o_mv ?_)
      refine l_op (o_callR Try.func105 rfl rfl rfl (mix_ret _ hb st wt' (m + UInt64.ofNat k) hwl (H.blk (i := 0) rfl)) ?_)
      rintro _ w ⟨rfl, Hc⟩
      replace H := H.callAt (i := 0) rfl rfl rfl Hc
      first | refine l_end ?_ | refine l_nil ?_
      refine round_end (sa a k cap 1, len - k, cap - k, rest.drop k, ⟨comp st wt', wt', m + UInt64.ofNat k⟩) ?_ ?_ ?_
      · exact ⟨rfl, rfl, trivial⟩
      · exact ⟨by simp only; omega, by simp only; omega, by simp only [List.length_drop]; omega, hr2, fun _ => (hap hne0).sa k cap 1, hwl, by simp only; rw [← hfull, ← hsum, hab], H⟩
      · show len - k < len; omega
    · have hless : absorb ⟨st, wt, m⟩ (rest.take k) = ⟨st, wt', m + UInt64.ofNat k⟩ := by
        have := absorb_less (rest.take k) ⟨st, wt, m⟩ hwt (by show m.toNat % 64 + _ < 64; omega)
        have e4 : HS.at_ ⟨st, wt, m⟩ = at' := hat
        rw [this, e4, hpre]; simp only [hwt']
      refine c_skip ?_
      refine round_end (sa a k cap 1, len - k, cap - k, rest.drop k, ⟨st, wt', m + UInt64.ofNat k⟩) ?_ ?_ ?_
      · exact ⟨rfl, rfl, trivial⟩
      · exact ⟨by simp only; omega, by simp only; omega, by simp only [List.length_drop]; omega, hr2, fun _ => (hap hne0).sa k cap 1, hwl, by simp only; rw [← hless, ← hsum, hab], H⟩
      · show len - k < len; omega
  · have h0 : rest = [] := List.length_eq_zero_iff.1 (by have : ¬ (0:Int) < (len:Int) := hlt; omega)
    subst h0
    refine c_exit ?_
    simp only [Exit.then, Exit.inBlock, ↓reduceIte]
    refine e_norm (e_ret0 Try.results35 ?_)
    refine ⟨_, rfl, rfl, ?_⟩
    rw [← hab]; exact H
end Go.Proofs.Ytjmbbhnpfmblpaa
