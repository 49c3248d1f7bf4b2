import Derived.Test.YtjmbbhnpfmblpaaK5
/- What is written over, of any room. -/
namespace Go.Proofs.Ytjmbbhnpfmblpaa
open Go
set_option maxRecDepth 100000
theorem spoilN_ret (w0 : World) (b len cap : Nat) (C : List Value) (hH : w0.heap[b]? = some (.cells C.toArray 5 (0, 0))) (hC : C.length = cap) (hlc : len ≤ cap) (hm : cap ≤ maxLen) :
    Ret Try.prog 43 [.slice (some ⟨b, 0, none⟩) len cap] w0 fun v w' => v = .tuple #[] ∧ Hp w0 w' [b] [.blk b (List.replicate cap (V8 90)) 5] := by
  refine ret_mk Try.func43 rfl Try.ntmps43 (by simp) ?_
  have hmL : maxLen = 9223372036854775807 := rfl
  have H := Hp.start w0 (.blk b C 5) b hH rfl
  repeat refine c_seq ?_
  refine c_region ?_
  refine l_op (o_mv ?_)
  refine l_op (o_mv ?_)
  refine l_op (o_caps el29 rfl ?_)
  refine l_op (o_sl (a := some ⟨b, 0, none⟩) (len := len) (cap := cap) rfl el29 rfl rfl rfl (fun w => by exact sb_h (by omega) (by omega) w) ?_)
  refine l_op (o_as ?_)
  first | refine l_end ?_ | refine l_nil ?_
  rw [sa_zero]
  repeat refine c_seq ?_
  refine c_region ?_
  refine l_op (o_as ?_)
  first | refine l_end ?_ | refine l_nil ?_
  repeat refine c_seq ?_
  refine c_block ?_
  have hcap : ((cap : Int).toNat - 0) = cap := by omega
  rw [hcap]
  refine c_loop (ι := Nat) (fun i => [(3, VI i), (2, .slice (some ⟨b, 0, none⟩) cap cap)])
    (fun i w => i ≤ cap ∧ Hp w0 w [b] [.blk b (sp C i) 5])
    (fun i => cap - i) 0 ⟨rfl, rfl, trivial⟩ ⟨by omega, H⟩ ?_
  clear H
  rintro i τ w ⟨hi, H⟩
  have hsl := sp_length C i (by omega)
  repeat refine c_seq ?_
  refine c_region ?_
  refine l_op (o_mv ?_)
  refine l_op (o_mv ?_)
  refine l_op (o_lens el29 rfl ?_)
  refine l_op (o_bin rfl rfl (fun _ => b_lss) ?_)
  first | refine l_end ?_ | refine l_nil ?_
  repeat refine c_seq ?_
  refine c_ifD rfl (fun hlt => ?_) (fun hlt => ?_)
  · have hlt' : i < cap := by omega
    have x1 : 0 + (i : Int).toNat * 1 = i := by omega
    refine c_skip ?_
    repeat refine c_seq ?_
    refine c_block ?_
    repeat refine c_seq ?_
    refine c_region ?_
    refine l_op (o_mv ?_)
    refine l_op (o_mv ?_)
    refine l_op (o_is (a := some ⟨b, 0, none⟩) rfl rfl el29 (by omega) (by omega) (by decide) (Ch.rd_all (H.has _ List.mem_cons_self)) (by omega) (fun b' o' ha => ?_))
    cases ha
    refine l_op (o_st H (i := 0) (v := V8 90) rfl rfl rfl cs5 rfl (by rw [x1]; omega) (fun w H => ?_))
    first | refine l_end ?_ | refine l_nil ?_
    have e1 := sp_set C i (by omega)
    simp only [List.set_cons_zero] at H
    rw [x1, e1] at H
    repeat refine c_seq ?_
    refine c_region ?_
    refine l_op (o_mv ?_)
    refine l_op (o_bin rfl rfl (fun _ => b_add (by omega) (by omega)) ?_)
    refine l_op (o_as ?_)
    first | refine l_end ?_ | refine l_nil ?_
    refine round_end (i + 1) ?_ ?_ ?_
    · exact ⟨rfl, rfl, trivial⟩
    · exact ⟨hlt', H⟩
    · show cap - (i + 1) < cap - i; omega
  · have hi' : i = cap := by omega
    subst hi'
    have e1 : sp C i = List.replicate i (V8 90) := by rw [sp, List.drop_of_length_le (by omega), List.append_nil]
    rw [e1] at H
    refine c_exit ?_
    simp only [Exit.then, Exit.inBlock, ↓reduceIte]
    refine e_norm (e_ret0 Try.results43 ?_)
    exact ⟨_, rfl, rfl, H⟩
end Go.Proofs.Ytjmbbhnpfmblpaa
