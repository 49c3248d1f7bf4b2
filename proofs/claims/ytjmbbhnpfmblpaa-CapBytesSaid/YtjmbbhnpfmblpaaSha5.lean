import Derived.Test.YtjmbbhnpfmblpaaSha4
/- sha: Len, Copy, Sum. -/
namespace Go.Proofs.Ytjmbbhnpfmblpaa
open Go
set_option maxRecDepth 100000
/-- a block that is as it was need not stand among those that turned. -/
theorem Hp.unS {w0 w : World} {S : List Nat} {L : List Ch} {b : Nat} {C : List Value} {T : TypeId} (H : Hp w0 w (b :: S) (.blk b C T :: L)) (h0 : w0.heap[b]? = some (.cells C.toArray T (0, 0))) : Hp w0 w S L := by
  have hnd := List.pairwise_cons.1 H.nd
  refine ⟨H.os, H.tape, H.output, H.size, fun b' hb' hn => ?_, fun c hc => H.has c (by simp [hc]), fun c hc b' hk => ?_, hnd.2⟩
  · by_cases h : b' = b
    · subst h; rw [h0]; exact H.has (.blk b' C T) (by simp)
    · exact H.frame b' hb' (fun hm => by rcases List.mem_cons.1 hm with h1 | h1; exact h h1; exact hn h1)
  · rcases H.fresh c (by simp [hc]) b' hk with h1 | h1
    · simp only [List.mem_cons] at h1
      rcases h1 with rfl | h1
      · exact absurd hk (hnd.1 c hc _ rfl)
      · exact .inl h1
    · exact .inr h1
/-- p is no hash (nil, or a zero one). -/
def NoHash (p : Value) (w : World) : Prop := Ret Try.prog 104 [p] w fun v w' => v = .bool true ∧ w' = w
theorem write_none (w0 : World) (p x : Value) (h : NoHash p w0) : Ret Try.prog 35 [p, x] w0 fun v w' => v = .tuple #[] ∧ w' = w0 := by
  refine ret_mk Try.func35 rfl Try.ntmps35 (by simp) ?_
  repeat refine c_seq ?_
  refine c_region ?_
  refine l_op (o_mv ?_)
  refine l_op (o_callR Try.func104 rfl rfl rfl h ?_)
  rintro _ w ⟨rfl, hw⟩
  rw [hw]; clear hw w
  first | refine l_end ?_ | refine l_nil ?_
  repeat refine c_seq ?_
  refine c_yes rfl ?_
  refine c_ret ?_
  try simp only [Exit.then]
  exact e_ret0 Try.results35 ⟨_, rfl, rfl, rfl⟩
theorem len_none (w0 : World) (p : Value) (h : NoHash p w0) : Ret Try.prog 39 [p] w0 fun v w' => v = V64 0 ∧ w' = w0 := by
  refine ret_mk Try.func39 rfl Try.ntmps39 (by simp) ?_
  repeat refine c_seq ?_
  refine c_region ?_
  refine l_op (o_as ?_)
  first | refine l_end ?_ | refine l_nil ?_
  repeat refine c_seq ?_
  refine c_region ?_
  refine l_op (o_mv ?_)
  refine l_op (o_callR Try.func104 rfl rfl rfl h ?_)
  rintro _ w ⟨rfl, hw⟩
  rw [hw]; clear hw w
  first | refine l_end ?_ | refine l_nil ?_
  repeat refine c_seq ?_
  refine c_yes rfl ?_
  repeat refine c_seq ?_
  refine c_region ?_
  refine l_op (o_as ?_)
  first | refine l_end ?_ | refine l_nil ?_
  refine c_ret ?_
  try simp only [Exit.then]
  exact e_ret1 Try.results39 rfl ⟨_, rfl, rfl, rfl⟩
theorem len_ret (w0 : World) (hb : Nat) (s : HS) (hwt : s.wt.length = 64) (hH : w0.heap[hb]? = some (.cells (hashH s).toArray 52 (0, 0))) :
    Ret Try.prog 39 [.pointer (some ⟨hb, 0, none⟩)] w0 fun v w' => v = V64 s.m ∧ w' = w0 := by
  refine ret_mk Try.func39 rfl Try.ntmps39 (by simp) ?_
  have H := Hp.start w0 (.blk hb (hashH s) 52) hb hH rfl
  repeat refine c_seq ?_
  refine c_region ?_
  refine l_op (o_as ?_)
  first | refine l_end ?_ | refine l_nil ?_
  repeat refine c_seq ?_
  refine c_region ?_
  refine l_op (o_mv ?_)
  refine l_op (o_callR Try.func104 rfl rfl rfl (none_at _ hb true _ _ hH rfl) ?_)
  rintro _ w ⟨rfl, hw⟩
  rw [hw]; clear hw w
  first | refine l_end ?_ | refine l_nil ?_
  repeat refine c_seq ?_
  refine c_no rfl ?_
  refine c_skip ?_
  repeat refine c_seq ?_
  refine c_region ?_
  refine l_op (o_mv ?_)
  refine l_op (o_nilc rfl ?_)
  refine l_op (o_fa rfl fo52_3 ?_)
  refine l_op (o_ld H (i := 0) rfl rfl ct35 (hashC_num _ _ _ hwt) ?_)
  refine l_op (o_as ?_)
  first | refine l_end ?_ | refine l_nil ?_
  refine c_ret ?_
  try simp only [Exit.then]
  exact e_ret1 Try.results39 rfl ⟨_, rfl, rfl, rfl⟩
theorem copy_none (w0 : World) (p : Value) (h : NoHash p w0) : Ret Try.prog 46 [p] w0 fun v w' => v = .pointer none ∧ w' = w0 := by
  refine ret_mk Try.func46 rfl Try.ntmps46 (by simp) ?_
  repeat refine c_seq ?_
  refine c_region ?_
  refine l_op (o_as ?_)
  first | refine l_end ?_ | refine l_nil ?_
  repeat refine c_seq ?_
  refine c_region ?_
  refine l_op (o_mv ?_)
  refine l_op (o_callR Try.func104 rfl rfl rfl h ?_)
  rintro _ w ⟨rfl, hw⟩
  rw [hw]; clear hw w
  first | refine l_end ?_ | refine l_nil ?_
  repeat refine c_seq ?_
  refine c_yes rfl ?_
  repeat refine c_seq ?_
  refine c_region ?_
  refine l_op (o_as ?_)
  first | refine l_end ?_ | refine l_nil ?_
  refine c_ret ?_
  try simp only [Exit.then]
  exact e_ret1 Try.results46 rfl ⟨_, rfl, rfl, rfl⟩
theorem hashH_all (s : HS) (hwt : s.wt.length = 64) : ((hashH s).drop 0).take 74 = hashH s := by
  rw [List.drop_zero, List.take_of_length_le (by rw [hashH, hashC_length _ _ _ hwt]; decide)]
theorem hashH_1 (s : HS) : (hashH s).toArray.all (·.oneCell') = true := by
  rw [List.all_toArray, List.all_eq_true]; exact hashC_one _ _ _
theorem hashH_len (s : HS) (hwt : s.wt.length = 64) : (hashH s).length = 74 := hashC_length _ _ _ hwt
theorem copy_ret (w0 : World) (hb : Nat) (s : HS) (hwt : s.wt.length = 64) (hH : w0.heap[hb]? = some (.cells (hashH s).toArray 52 (0, 0))) :
    Ret Try.prog 46 [.pointer (some ⟨hb, 0, none⟩)] w0 fun v w' => ∃ b, v = .pointer (some ⟨b, 0, none⟩) ∧ Hp w0 w' [] [.blk b (hashH s) 52] := by
  refine ret_mk Try.func46 rfl Try.ntmps46 (by simp) ?_
  have H := Hp.start w0 (.blk hb (hashH s) 52) hb hH rfl
  repeat refine c_seq ?_
  refine c_region ?_
  refine l_op (o_as ?_)
  first | refine l_end ?_ | refine l_nil ?_
  repeat refine c_seq ?_
  refine c_region ?_
  refine l_op (o_mv ?_)
  refine l_op (o_callR Try.func104 rfl rfl rfl (none_at _ hb true _ _ hH rfl) ?_)
  rintro _ w ⟨rfl, hw⟩
  rw [hw]; clear hw w
  first | refine l_end ?_ | refine l_nil ?_
  repeat refine c_seq ?_
  refine c_no rfl ?_
  refine c_skip ?_
  repeat refine c_seq ?_
  refine c_region ?_
  refine l_op (o_mv ?_)
  refine l_op (o_nilc rfl ?_)
  refine l_op (o_ldr H (i := 0) rfl rfl rt52 (by rw [hashH_len s hwt]; decide) ?_)
  rw [hashH_all s hwt]
  refine l_op (o_alloc H zc52 (fun b3 w H hb3 => ?_))
  refine l_op (o_stw H (i := 1) rfl rfl rfl (by rw [cs52]; simp [hashH_len s hwt]) (hashH_1 s) (by simp [hashH_len s hwt]) (fun w H => ?_))
  first | refine l_end ?_ | refine l_nil ?_
  repeat refine c_seq ?_
  refine c_region ?_
  refine l_op (o_as ?_)
  first | refine l_end ?_ | refine l_nil ?_
  exact c_ret (e_ret1 Try.results46 rfl ⟨_, rfl, _, rfl, H.unS hH⟩)
end Go.Proofs.Ytjmbbhnpfmblpaa
