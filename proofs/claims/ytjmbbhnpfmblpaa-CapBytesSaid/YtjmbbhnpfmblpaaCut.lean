import Derived.Test.YtjmbbhnpfmblpaaTwin
/- Places; bytes cut in pieces. -/
namespace Go.Proofs.Ytjmbbhnpfmblpaa
open Go
set_option maxRecDepth 100000
theorem b_remT {P : Program} {t : TypeId} {w : World} {a b : Int} (h2 : 0 < b) : (binOp .rem t (VI a) (VI b)).run P w = .ok (VI (a.tmod b)) w := by
  simp [binOp, Op.intDiv, Int.ne_of_gt h2]
theorem tmod_lt (a b : Int) (h : 0 < b) : -b < a.tmod b ∧ a.tmod b < b := by
  have h1 := Int.tmod_lt_of_pos a h
  have h2 := Int.lt_tmod_of_pos a h
  exact ⟨h2, h1⟩
theorem place_ret (w : World) (k n : Int) (hn : 1 ≤ n) (hm : n ≤ 4611686018427387904) : Ret Try.prog 44 [VI k, VI n] w fun v w' => ∃ m : Nat, v = VI (m : Int) ∧ (m : Int) < n ∧ w' = w := by
  refine ret_mk Try.func44 rfl Try.ntmps44 (by simp) ?_
  have hb := tmod_lt k n (by omega)
  obtain ⟨r, hr⟩ : ∃ r, k.tmod n = r := ⟨_, rfl⟩
  rw [hr] at hb
  repeat refine c_seq ?_
  refine c_region ?_
  refine l_op (o_as ?_)
  first | refine l_end ?_ | refine l_nil ?_
  repeat refine c_seq ?_
  refine c_region ?_
  refine l_op (o_mv ?_)
  refine l_op (o_bin rfl rfl (fun _ => b_lssB false (decide_eq_false (by omega))) ?_)
  first | refine l_end ?_ | refine l_nil ?_
  repeat refine c_seq ?_
  refine c_no rfl ?_
  refine c_skip ?_
  repeat refine c_seq ?_
  refine c_region ?_
  refine l_op (o_mv ?_)
  refine l_op (o_mv ?_)
  refine l_op (o_bin (v := VI r) rfl rfl (fun _ => by rw [← hr]; exact b_remT (by omega)) ?_)
  refine l_op (o_as ?_)
  first | refine l_end ?_ | refine l_nil ?_
  by_cases h0 : r < 0
  · skip
    repeat refine c_seq ?_
    refine c_region ?_
    refine l_op (o_mv ?_)
    refine l_op (o_bin rfl rfl (fun _ => b_lssB true (decide_eq_true h0)) ?_)
    first | refine l_end ?_ | refine l_nil ?_
    repeat refine c_seq ?_
    refine c_yes rfl ?_
    repeat refine c_seq ?_
    refine c_region ?_
    refine l_op (o_mv ?_)
    refine l_op (o_mv ?_)
    refine l_op (o_bin rfl rfl (fun _ => b_add (by omega) (by omega)) ?_)
    refine l_op (o_as ?_)
    first | refine l_end ?_ | refine l_nil ?_
    repeat refine c_seq ?_
    refine c_region ?_
    refine l_op (o_mv ?_)
    refine l_op (o_as ?_)
    first | refine l_end ?_ | refine l_nil ?_
    refine c_ret (e_ret1 (v := VI ((r + n).toNat : Int)) Try.results44 ?_ ⟨_, rfl, (r + n).toNat, rfl, by omega, rfl⟩)
    have e : ((r + n).toNat : Int) = r + n := by omega
    rw [e]; rfl
  · skip
    repeat refine c_seq ?_
    refine c_region ?_
    refine l_op (o_mv ?_)
    refine l_op (o_bin rfl rfl (fun _ => b_lssB false (decide_eq_false h0)) ?_)
    first | refine l_end ?_ | refine l_nil ?_
    repeat refine c_seq ?_
    refine c_no rfl ?_
    refine c_skip ?_
    repeat refine c_seq ?_
    refine c_region ?_
    refine l_op (o_mv ?_)
    refine l_op (o_as ?_)
    first | refine l_end ?_ | refine l_nil ?_
    refine c_ret (e_ret1 (v := VI (r.toNat : Int)) Try.results44 ?_ ⟨_, rfl, r.toNat, rfl, by omega, rfl⟩)
    have e : (r.toNat : Int) = r := by omega
    rw [e]; rfl
theorem Hp.nilOwn {w0 w : World} {S : List Nat} {L : List Ch} (H : Hp w0 w S L) (T : TypeId) (sz : Nat) : Hp w0 w S (.own none 0 0 [] T sz :: L) :=
  ⟨H.os, H.tape, H.output, H.size, H.frame, fun c hc => by
    rcases List.mem_cons.1 hc with rfl | h
    · exact ⟨rfl, rfl, rfl⟩
    · exact H.has c h, fun c hc b hk => by
    rcases List.mem_cons.1 hc with rfl | h
    · cases hk
    · exact H.fresh c h b hk, List.pairwise_cons.2 ⟨fun _ _ _ h => (by cases h), H.nd⟩⟩
theorem Sl.ok.take {s : Sl} {w : World} (h : s.ok w) (n : Nat) (hn : n ≤ s.len) : (⟨s.a, n, s.cap, s.l.take n⟩ : Sl).ok w :=
  ⟨by have := h.rd.take n; rwa [← List.map_take] at this, by simp only [List.length_take]; have := h.ln; omega, Nat.le_trans hn h.le, Nat.le_trans hn h.mx⟩
theorem Sl.ok.drop {s : Sl} {w : World} (h : s.ok w) (n : Nat) (hn : n ≤ s.len) : (⟨sa s.a n s.cap 1, s.len - n, s.cap - n, s.l.drop n⟩ : Sl).ok w :=
  ⟨by have := h.rd.sa n s.cap 1 (by have := h.ln; have := h.le; simp; omega); rwa [Nat.mul_one, ← List.map_drop] at this, by simp only [List.length_drop]; have := h.ln; omega, by have := h.le; simp only; omega, by have := h.mx; simp only; omega⟩
theorem cat_snoc (ps : List Sl) (p : Sl) : cat (ps ++ [p]) = cat ps ++ p.l := by simp [cat]
set_option maxHeartbeats 1000000 in
theorem cut_ret (w00 w0 : World) (s : Sl) (hs : s.ok w00) (za : Option Addr) (zl zc : Nat) (zs : List Int) (hz : RdS w0 za (zs.map VI)) (hzl : zs.length = zl) (hz1 : zl ≤ 1048576) (hs1 : s.len ≤ 1048576) :
    Ret Try.prog 41 [s.v, .slice za zl zc] w0 fun v w' => ∃ (a : Option Nat) (len cap : Nat) (ps : List Sl), v = .slice (hd a) len cap ∧ ps.length = len ∧ len ≤ 1048577 ∧ cat ps = s.l ∧ (∀ p ∈ ps, p.ok w00) ∧ Hp w0 w' [] [.own a len cap (ps.map Sl.v) 29 1] := by
  refine ret_mk Try.func41 rfl Try.ntmps41 (by simp) ?_
  have H := (Hp.refl w0 []).nilOwn 29 1
  repeat refine c_seq ?_
  refine c_region ?_
  refine l_op (o_as ?_)
  first | refine l_end ?_ | refine l_nil ?_
  repeat refine c_seq ?_
  refine c_region ?_
  refine l_op (o_as ?_)
  first | refine l_end ?_ | refine l_nil ?_
  repeat refine c_seq ?_
  refine c_region ?_
  refine l_op (o_as ?_)
  first | refine l_end ?_ | refine l_nil ?_
  repeat refine c_seq ?_
  refine c_piece (ι := Sl × Option Nat × Nat × Nat × List Sl) (fun i => [(0, i.1.v), (5, .slice (hd i.2.1) i.2.2.1 i.2.2.2.1)])
    (fun i w => i.1.ok w00 ∧ i.2.2.1 ≤ 1048576 ∧ i.2.2.2.2.length = i.2.2.1 ∧ cat i.2.2.2.2 ++ i.1.l = s.l ∧ (∀ p ∈ i.2.2.2.2, p.ok w00) ∧ Hp w0 w [] [.own i.2.1 i.2.2.1 i.2.2.2.1 (i.2.2.2.2.map Sl.v) 29 1]) ?_ ?_
  · skip
    repeat refine c_seq ?_
    refine c_block ?_
    refine c_loop (ι := Nat × Sl × Option Nat × Nat × Nat × List Sl) (fun i => [(6, VI i.1), (0, i.2.1.v), (1, .slice za zl zc), (5, .slice (hd i.2.2.1) i.2.2.2.1 i.2.2.2.2.1)])
      (fun i w => i.1 ≤ zl ∧ i.2.1.ok w00 ∧ i.2.1.len ≤ 1048576 ∧ i.2.2.2.1 ≤ i.1 ∧ i.2.2.2.2.2.length = i.2.2.2.1 ∧ cat i.2.2.2.2.2 ++ i.2.1.l = s.l ∧ (∀ p ∈ i.2.2.2.2.2, p.ok w00) ∧ Hp w0 w [] [.own i.2.2.1 i.2.2.2.1 i.2.2.2.2.1 (i.2.2.2.2.2.map Sl.v) 29 1])
      (fun i => zl - i.1) (0, s, none, 0, 0, []) ⟨rfl, rfl, rfl, rfl, trivial⟩ ⟨Nat.zero_le _, hs, hs1, Nat.le_refl _, rfl, rfl, by simp, H⟩ ?_
    clear H
    rintro ⟨i, r, a, len, cap, ps⟩ τ w ⟨hi, hr, hr1, hli, hpl, hcat, hps, H⟩
    simp only at hi hr hr1 hli hpl hcat hps H
    have hrl := hr.ln
    have hrc := hr.le
    by_cases hA : (i : Int) < (zl : Int)
    · by_cases hB : (0 : Int) < (r.len : Int)
      · skip
        repeat refine c_seq ?_
        refine c_region ?_
        refine l_op (o_mv ?_)
        refine l_op (o_mv ?_)
        refine l_op (o_lens el39 rfl ?_)
        refine l_op (o_bin rfl rfl (fun _ => b_lssB true (decide_eq_true hA)) ?_)
        refine l_op (o_mv ?_)
        refine l_yes rfl rfl rfl (o_mv ?_)
        refine l_yes rfl rfl rfl (o_lens el29 rfl ?_)
        refine l_yes rfl rfl rfl (o_bin rfl rfl (fun _ => b_gtrB true (decide_eq_true hB)) ?_)
        refine l_op (o_pick rfl ?_)
        first | refine l_end ?_ | refine l_nil ?_
        repeat refine c_seq ?_
        refine c_yes rfl ?_
        refine c_skip ?_
        have hgi : zs[i]? = some (zs[i]'(by omega)) := List.getElem?_eq_getElem _
        generalize (zs[i]'(by omega)) = z at hgi
        have hv : (zs.map VI)[(i : Int).toNat * 1]? = some (VI z) := by simp [hgi]
        repeat refine c_seq ?_
        refine c_block ?_
        repeat refine c_seq ?_
        refine c_region ?_
        refine l_op (o_mv ?_)
        refine l_op (o_mv ?_)
        refine l_op (o_is rfl rfl el39 (by omega) (by omega) (by decide) (H.rd hz (apart_nil _)) (by simp [hzl]) (fun b o ha => ?_))
        refine l_op (o_lds (H.rd hz (apart_nil _)) ha rfl ct3 hv ?_)
        refine l_op (o_mv ?_)
        refine l_op (o_lens el29 rfl ?_)
        refine l_op (o_callR Try.func44 rfl rfl rfl (place_ret _ z r.len (by omega) (by omega)) ?_)
        rintro _ w' ⟨m, rfl, hm, hw⟩
        rw [hw]; clear hw w'
        refine l_op (o_bin rfl rfl (fun _ => b_add (by omega) (by omega)) ?_)
        refine l_op (o_as ?_)
        first | refine l_end ?_ | refine l_nil ?_
        have hm' : m + 1 ≤ r.len := by omega
        repeat refine c_seq ?_
        refine c_region ?_
        refine l_op (o_mv ?_)
        refine l_op (o_mv ?_)
        refine l_op (o_mv ?_)
        refine l_op (o_sl (a := r.a) (len := r.len) (cap := r.cap) (l := 0) (h := m + 1) (m := r.cap) (hv := some (VI ((m + 1 : Nat) : Int))) rfl el29 rfl rfl rfl (fun w => by exact sb_h (by omega) (by omega) w) ?_)
        rw [sa_zero]
        refine l_op (o_bsl H sl22 zc29 (by decide) rfl (by decide) (fills _ [Sl.v ⟨r.a, m + 1, r.cap, r.l.take (m + 1)⟩] 1 (by simp [Value.oneCell', Sl.v]) rfl) (fun bT w H hbT => ?_))
        refine l_op (o_app (i := 0) (m := 1) (news := [Sl.v ⟨r.a, m + 1, r.cap, r.l.take (m + 1)⟩]) H rfl sl22 rfl rfl (RdS.src (a := some ⟨bT, 0, none⟩) (len := 1) (cap := 1) Try.underlying22 (Ch.rd_all (H.has _ (List.mem_cons_of_mem _ List.mem_cons_self))) rfl (by decide) (by simp [Value.oneCell', Sl.v])) (by decide) (by omega) (by omega) (fun a' cap' w H => ?_))
        replace H : Hp w0 w [] [.own a' (len + 1) cap' (ps.map Sl.v ++ [Sl.v ⟨r.a, m + 1, r.cap, r.l.take (m + 1)⟩]) 29 1] := H.sub (List.sublist_append_left _ [_])
        refine l_op (o_as ?_)
        first | refine l_end ?_ | refine l_nil ?_
        repeat refine c_seq ?_
        refine c_region ?_
        refine l_op (o_mv ?_)
        refine l_op (o_mv ?_)
        refine l_op (o_sl (a := r.a) (len := r.len) (cap := r.cap) (l := m + 1) (h := r.len) (m := r.cap) (lv := some (VI ((m + 1 : Nat) : Int))) rfl el29 rfl rfl rfl (fun w => by exact sb_l (by omega) (by omega) w) ?_)
        refine l_op (o_as ?_)
        first | refine l_end ?_ | refine l_nil ?_
        repeat refine c_seq ?_
        refine c_region ?_
        refine l_op (o_mv ?_)
        refine l_op (o_bin rfl rfl (fun _ => b_add (by omega) (by omega)) ?_)
        refine l_op (o_as ?_)
        first | refine l_end ?_ | refine l_nil ?_
        refine round_end (i + 1, ⟨sa r.a (m + 1) r.cap 1, r.len - (m + 1), r.cap - (m + 1), r.l.drop (m + 1)⟩, a', len + 1, cap', ps ++ [⟨r.a, m + 1, r.cap, r.l.take (m + 1)⟩]) ?_ ?_ ?_
        · exact ⟨rfl, rfl, rfl, rfl, trivial⟩
        · refine ⟨by simp only; omega, hr.drop (m + 1) hm', by simp only; omega, by simp only; omega, by simp [hpl], ?_, ?_, ?_⟩
          · simp only
            rw [cat_snoc, List.append_assoc, List.take_append_drop]; exact hcat
          · intro p hp
            rcases List.mem_append.1 hp with h | h
            · exact hps p h
            · rw [List.mem_singleton] at h; rw [h]; exact hr.take (m + 1) hm'
          · simp only
            rw [List.map_append]; exact H
        · show zl - (i + 1) < zl - i; omega
      · skip
        repeat refine c_seq ?_
        refine c_region ?_
        refine l_op (o_mv ?_)
        refine l_op (o_mv ?_)
        refine l_op (o_lens el39 rfl ?_)
        refine l_op (o_bin rfl rfl (fun _ => b_lssB true (decide_eq_true hA)) ?_)
        refine l_op (o_mv ?_)
        refine l_yes rfl rfl rfl (o_mv ?_)
        refine l_yes rfl rfl rfl (o_lens el29 rfl ?_)
        refine l_yes rfl rfl rfl (o_bin rfl rfl (fun _ => b_gtrB false (decide_eq_false hB)) ?_)
        refine l_op (o_pick rfl ?_)
        first | refine l_end ?_ | refine l_nil ?_
        repeat refine c_seq ?_
        refine c_no rfl ?_
        refine c_exit ?_
        exact fit_end (r, a, len, cap, ps) ⟨rfl, rfl, trivial⟩ ⟨hr, by simp only; omega, hpl, hcat, hps, H⟩
    · skip
      repeat refine c_seq ?_
      refine c_region ?_
      refine l_op (o_mv ?_)
      refine l_op (o_mv ?_)
      refine l_op (o_lens el39 rfl ?_)
      refine l_op (o_bin rfl rfl (fun _ => b_lssB false (decide_eq_false hA)) ?_)
      refine l_op (o_mv ?_)
      refine l_no rfl rfl rfl rfl ?_
      refine l_no rfl rfl rfl rfl ?_
      refine l_no rfl rfl rfl rfl ?_
      refine l_op (o_pick rfl ?_)
      first | refine l_end ?_ | refine l_nil ?_
      repeat refine c_seq ?_
      refine c_no rfl ?_
      refine c_exit ?_
      exact fit_end (r, a, len, cap, ps) ⟨rfl, rfl, trivial⟩ ⟨hr, by simp only; omega, hpl, hcat, hps, H⟩
  · clear H
    rintro ⟨r, a, len, cap, ps⟩ τ w ⟨hr, hli, hpl, hcat, hps, H⟩
    simp only at hr hli hpl hcat hps H
    have hrl := hr.ln
    by_cases hB : (0 : Int) < (r.len : Int)
    · skip
      repeat refine c_seq ?_
      refine c_region ?_
      refine l_op (o_mv ?_)
      refine l_op (o_lens el29 rfl ?_)
      refine l_op (o_bin rfl rfl (fun _ => b_gtrB true (decide_eq_true hB)) ?_)
      first | refine l_end ?_ | refine l_nil ?_
      repeat refine c_seq ?_
      refine c_yes rfl ?_
      repeat refine c_seq ?_
      refine c_region ?_
      refine l_op (o_mv ?_)
      refine l_op (o_mv ?_)
      refine l_op (o_bsl H sl22 zc29 (by decide) rfl (by decide) (fills _ [r.v] 1 (by simp [Value.oneCell', Sl.v]) rfl) (fun bT w H hbT => ?_))
      refine l_op (o_app (i := 0) (m := 1) (news := [r.v]) H rfl sl22 rfl rfl (RdS.src (a := some ⟨bT, 0, none⟩) (len := 1) (cap := 1) Try.underlying22 (Ch.rd_all (H.has _ (List.mem_cons_of_mem _ List.mem_cons_self))) rfl (by decide) (by simp [Value.oneCell', Sl.v])) (by decide) (by omega) (by omega) (fun a' cap' w H => ?_))
      replace H : Hp w0 w [] [.own a' (len + 1) cap' (ps.map Sl.v ++ [r.v]) 29 1] := H.sub (List.sublist_append_left _ [_])
      refine l_op (o_as ?_)
      first | refine l_end ?_ | refine l_nil ?_
      repeat refine c_seq ?_
      refine c_region ?_
      refine l_op (o_mv ?_)
      refine l_op (o_as ?_)
      first | refine l_end ?_ | refine l_nil ?_
      refine c_ret (e_ret1 Try.results41 rfl ⟨_, rfl, a', len + 1, cap', ps ++ [r], rfl, by simp [hpl], by omega, by rw [cat_snoc]; exact hcat, ?_, by rw [List.map_append]; exact H⟩)
      intro p hp
      rcases List.mem_append.1 hp with h | h
      · exact hps p h
      · rw [List.mem_singleton] at h; rw [h]; exact hr
    · have hl0 : r.l = [] := List.length_eq_zero_iff.1 (by omega)
      rw [hl0, List.append_nil] at hcat
      repeat refine c_seq ?_
      refine c_region ?_
      refine l_op (o_mv ?_)
      refine l_op (o_lens el29 rfl ?_)
      refine l_op (o_bin rfl rfl (fun _ => b_gtrB false (decide_eq_false hB)) ?_)
      first | refine l_end ?_ | refine l_nil ?_
      repeat refine c_seq ?_
      refine c_no rfl ?_
      refine c_skip ?_
      repeat refine c_seq ?_
      refine c_region ?_
      refine l_op (o_mv ?_)
      refine l_op (o_as ?_)
      first | refine l_end ?_ | refine l_nil ?_
      exact c_ret (e_ret1 Try.results41 rfl ⟨_, rfl, a, len, cap, ps, rfl, hpl, by omega, hcat, hps, H⟩)
end Go.Proofs.Ytjmbbhnpfmblpaa
