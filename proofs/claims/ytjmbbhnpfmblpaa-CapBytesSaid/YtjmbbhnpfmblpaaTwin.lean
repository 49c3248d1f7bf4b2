import Derived.Test.YtjmbbhnpfmblpaaSha8
import Derived.Test.YtjmbbhnpfmblpaaK4
/- Twins, and what spoils them. -/
namespace Go.Proofs.Ytjmbbhnpfmblpaa
open Go
set_option maxRecDepth 100000
def tw (l : List UInt8) (j : Nat) : List Value := l.map V8 ++ (List.replicate j (V8 229) ++ List.replicate (3 - j) (V8 0))
theorem tw_length (l : List UInt8) (j : Nat) (h : j ≤ 3) : (tw l j).length = l.length + 3 := by simp [tw]; omega
theorem tw_set (l : List UInt8) (j : Nat) (h : j < 3) : (tw l j).set (l.length + j) (V8 229) = tw l (j + 1) := by
  have e : 3 - j = (3 - (j + 1)) + 1 := by omega
  unfold tw
  rw [List.set_append_right _ _ (by simp), List.length_map, Nat.add_sub_cancel_left, List.set_append_right _ _ (by simp), List.length_replicate, Nat.sub_self, e, List.replicate_succ, List.set_cons_zero]
  have : (3 - (j + 1) + 1 - 1) = 3 - (j + 1) := by omega
  rw [List.replicate_succ' (n := j)]
  simp
theorem twin_ret (w0 : World) (s : Sl) (hs : s.ok w0) (hm : s.len ≤ 1048576) : Ret Try.prog 42 [s.v] w0 fun v w' => ∃ b, v = .slice (some ⟨b, 0, none⟩) s.len (s.len + 3) ∧ Hp w0 w' [] [.blk b (tw s.l 3) 5] := by
  refine ret_mk Try.func42 rfl Try.ntmps42 (by simp) ?_
  have H := Hp.refl w0 []
  repeat refine c_seq ?_
  refine c_region ?_
  refine l_op (o_as ?_)
  first | refine l_end ?_ | refine l_nil ?_
  repeat refine c_seq ?_
  refine c_region ?_
  refine l_op (o_mv ?_)
  refine l_op (o_lens el29 rfl ?_)
  refine l_op (o_bin rfl rfl (fun _ => b_add (by omega) (by omega)) ?_)
  refine l_op (o_make (l := s.len + 3) (c := s.len + 3) H sl29 zc5 rfl rfl (by omega) (by omega) (Nat.le_refl _) (by omega) (Nat.le_trans (by omega : s.len + 3 ≤ 2000000) (by decide)) (fun b w H hb => ?_))
  refine l_op (o_as ?_)
  first | refine l_end ?_ | refine l_nil ?_
  repeat refine c_seq ?_
  refine c_region ?_
  refine l_op (o_mv ?_)
  refine l_op (o_mv ?_)
  refine l_op (o_copy H (i := 0) (vs := s.l.map V8) rfl Try.underlying29 Try.underlying29 cs5 (by decide) rfl rfl (H.rd hs.rd (apart_nil _)) (by simp [hs.ln]) (by simp [Value.oneCell']) (by simp) (fun w H => ?_))
  first | refine l_end ?_ | refine l_nil ?_
  have hmin : min s.len (s.len + 3) = s.len := by omega
  have e0 : (List.replicate (s.len + 3) (Value.int .u8 0)).take 0 ++ (s.l.map V8).take (s.len * 1) ++ (List.replicate (s.len + 3) (Value.int .u8 0)).drop (0 + s.len * 1) = tw s.l 0 := by
    have ea : (s.l.map V8).take (s.len * 1) = s.l.map V8 := List.take_of_length_le (by simp [hs.ln])
    have eb : s.len + 3 - (0 + s.len * 1) = 3 := by omega
    rw [ea, List.take_zero, List.nil_append, List.drop_replicate, eb]
    rfl
  rw [hmin] at H
  replace H : Hp w0 w [] [.blk b (tw s.l 0) 5] := by rw [← e0]; exact H
  repeat refine c_seq ?_
  refine c_region ?_
  refine l_op (o_mv ?_)
  refine l_op (o_lens el29 rfl ?_)
  refine l_op (o_as ?_)
  first | refine l_end ?_ | refine l_nil ?_
  repeat refine c_seq ?_
  refine c_block ?_
  refine c_loop (ι := Nat) (fun j => [(4, VI ((s.len + j : Nat) : Int)), (3, .slice (some ⟨b, 0, none⟩) (s.len + 3) (s.len + 3)), (0, s.v)])
    (fun j w => j ≤ 3 ∧ Hp w0 w [] [.blk b (tw s.l j) 5])
    (fun j => 3 - j) 0 ⟨rfl, rfl, rfl, trivial⟩ ⟨by omega, H⟩ ?_
  clear H e0
  rintro j τ w ⟨hj, H⟩
  have hlen := hs.ln
  have htl := tw_length s.l j hj
  repeat refine c_seq ?_
  refine c_region ?_
  refine l_op (o_mv ?_)
  refine l_op (o_mv ?_)
  refine l_op (o_lens el29 rfl ?_)
  refine l_op (o_bin rfl rfl (fun _ => b_lss) ?_)
  first | refine l_end ?_ | refine l_nil ?_
  repeat refine c_seq ?_
  refine c_ifD rfl (fun hlt => ?_) (fun hlt => ?_)
  · have hlt' : j < 3 := by omega
    have x1 : 0 + ((s.len + j : Nat) : Int).toNat * 1 = s.l.length + j := by omega
    refine c_skip ?_
    repeat refine c_seq ?_
    refine c_block ?_
    repeat refine c_seq ?_
    refine c_region ?_
    refine l_op (o_mv ?_)
    refine l_op (o_mv ?_)
    refine l_op (o_is (a := some ⟨b, 0, none⟩) rfl rfl el29 (by omega) (by omega) (by decide) (Ch.rd_all (H.has _ List.mem_cons_self)) (by omega) (fun b' o' ha => ?_))
    cases ha
    refine l_op (o_st H (i := 0) (v := V8 229) rfl rfl rfl cs5 rfl (by rw [x1]; omega) (fun w H => ?_))
    first | refine l_end ?_ | refine l_nil ?_
    have e1 := tw_set s.l j hlt'
    rw [← x1] at e1
    simp only [List.set_cons_zero] at H
    rw [e1] at H
    repeat refine c_seq ?_
    refine c_region ?_
    refine l_op (o_mv ?_)
    refine l_op (o_bin rfl rfl (fun _ => b_add (by omega) (by omega)) ?_)
    refine l_op (o_as ?_)
    first | refine l_end ?_ | refine l_nil ?_
    refine round_end (j + 1) ?_ ?_ ?_
    · exact ⟨rfl, rfl, rfl, trivial⟩
    · exact ⟨by omega, H⟩
    · show 3 - (j + 1) < 3 - j; omega
  · have hj3 : j = 3 := by omega
    subst hj3
    refine c_exit ?_
    repeat refine c_seq ?_
    refine c_region ?_
    refine l_op (o_mv ?_)
    refine l_op (o_mv ?_)
    refine l_op (o_lens el29 rfl ?_)
    refine l_op (o_sl (a := some ⟨b, 0, none⟩) (len := s.len + 3) (cap := s.len + 3) rfl el29 rfl rfl rfl (fun w => by exact sb_h (by omega) (by omega) w) ?_)
    refine l_op (o_as ?_)
    first | refine l_end ?_ | refine l_nil ?_
    rw [sa_zero]
    exact c_ret (e_ret1 Try.results42 rfl ⟨_, rfl, b, rfl, H⟩)
def sp (C : List Value) (i : Nat) : List Value := List.replicate i (V8 90) ++ C.drop i
theorem sp_set (C : List Value) (i : Nat) (h : i < C.length) : (sp C i).set i (V8 90) = sp C (i + 1) := by
  unfold sp
  rw [List.set_append_right _ _ (by simp), List.length_replicate, Nat.sub_self, List.drop_eq_getElem_cons h, List.set_cons_zero, List.replicate_succ']
  simp
theorem sp_length (C : List Value) (i : Nat) (h : i ≤ C.length) : (sp C i).length = C.length := by simp [sp]; omega
theorem spoil_ret (w0 : World) (b len cap : Nat) (C : List Value) (hH : w0.heap[b]? = some (.cells C.toArray 5 (0, 0))) (hC : C.length = cap) (hlc : len ≤ cap) (hm : cap ≤ 2000000) :
    Ret Try.prog 43 [.slice (some ⟨b, 0, none⟩) len cap] w0 fun v w' => v = .tuple #[] ∧ Hp w0 w' [b] [.blk b (List.replicate cap (V8 90)) 5] := by
  refine ret_mk Try.func43 rfl Try.ntmps43 (by simp) ?_
  have H := Hp.start w0 (.blk b C 5) b hH rfl
  repeat refine c_seq ?_
  refine c_region ?_
  refine l_op (o_mv ?_)
  refine l_op (o_mv ?_)
  refine l_op (o_caps el29 rfl ?_)
  refine l_op (o_sl (a := some ⟨b, 0, none⟩) (len := len) (cap := cap) rfl el29 rfl rfl rfl (fun w => by exact sb_h (by omega) (by omega) w) ?_)
  refine l_op (o_as ?_)
  first | refine l_end ?_ | refine l_nil ?_
  rw [sa_zero]
  repeat refine c_seq ?_
  refine c_region ?_
  refine l_op (o_as ?_)
  first | refine l_end ?_ | refine l_nil ?_
  repeat refine c_seq ?_
  refine c_block ?_
  have hcap : ((cap : Int).toNat - 0) = cap := by omega
  rw [hcap]
  refine c_loop (ι := Nat) (fun i => [(3, VI i), (2, .slice (some ⟨b, 0, none⟩) cap cap)])
    (fun i w => i ≤ cap ∧ Hp w0 w [b] [.blk b (sp C i) 5])
    (fun i => cap - i) 0 ⟨rfl, rfl, trivial⟩ ⟨by omega, H⟩ ?_
  clear H
  rintro i τ w ⟨hi, H⟩
  have hsl := sp_length C i (by omega)
  repeat refine c_seq ?_
  refine c_region ?_
  refine l_op (o_mv ?_)
  refine l_op (o_mv ?_)
  refine l_op (o_lens el29 rfl ?_)
  refine l_op (o_bin rfl rfl (fun _ => b_lss) ?_)
  first | refine l_end ?_ | refine l_nil ?_
  repeat refine c_seq ?_
  refine c_ifD rfl (fun hlt => ?_) (fun hlt => ?_)
  · have hlt' : i < cap := by omega
    have x1 : 0 + (i : Int).toNat * 1 = i := by omega
    refine c_skip ?_
    repeat refine c_seq ?_
    refine c_block ?_
    repeat refine c_seq ?_
    refine c_region ?_
    refine l_op (o_mv ?_)
    refine l_op (o_mv ?_)
    refine l_op (o_is (a := some ⟨b, 0, none⟩) rfl rfl el29 (by omega) (by omega) (by decide) (Ch.rd_all (H.has _ List.mem_cons_self)) (by omega) (fun b' o' ha => ?_))
    cases ha
    refine l_op (o_st H (i := 0) (v := V8 90) rfl rfl rfl cs5 rfl (by rw [x1]; omega) (fun w H => ?_))
    first | refine l_end ?_ | refine l_nil ?_
    have e1 := sp_set C i (by omega)
    simp only [List.set_cons_zero] at H
    rw [x1, e1] at H
    repeat refine c_seq ?_
    refine c_region ?_
    refine l_op (o_mv ?_)
    refine l_op (o_bin rfl rfl (fun _ => b_add (by omega) (by omega)) ?_)
    refine l_op (o_as ?_)
    first | refine l_end ?_ | refine l_nil ?_
    refine round_end (i + 1) ?_ ?_ ?_
    · exact ⟨rfl, rfl, trivial⟩
    · exact ⟨hlt', H⟩
    · show cap - (i + 1) < cap - i; omega
  · have hi' : i = cap := by omega
    subst hi'
    have e1 : sp C i = List.replicate i (V8 90) := by rw [sp, List.drop_of_length_le (by omega), List.append_nil]
    rw [e1] at H
    refine c_exit ?_
    simp only [Exit.then, Exit.inBlock, ↓reduceIte]
    refine e_norm (e_ret0 Try.results43 ?_)
    exact ⟨_, rfl, rfl, H⟩
end Go.Proofs.Ytjmbbhnpfmblpaa
