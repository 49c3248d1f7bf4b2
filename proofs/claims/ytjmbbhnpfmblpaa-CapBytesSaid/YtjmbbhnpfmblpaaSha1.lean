import Derived.Test.YtjmbbhnpfmblpaaKTy
import Derived.Test.YtjmbbhnpfmblpaaShaSpec
/- sha: the small functions. -/
namespace Go.Proofs.Ytjmbbhnpfmblpaa
open Go
set_option maxRecDepth 100000
theorem rot_and : ∀ kk : Fin 32, (UInt64.ofNat (18446744073709551584 + kk.val)) &&& UInt64.ofNat 31 = UInt64.ofNat kk.val := by decide
theorem rot_wrap (kk : Nat) (_h : kk < 32) : IntKind.u64.wrap ((kk : Int) - 32) = ((UInt64.ofNat (18446744073709551584 + kk)).toNat : Int) := by
  rw [wrap_u64, UInt64.toNat_ofNat']; omega
theorem rot_ret (x : UInt32) (kk : Nat) (w : World) (h2 : kk < 32) (h3 : 0 < kk) (k : Int) (hk : k = (kk : Int) - 32) :
    Ret Try.prog 137 [V32 x, VI k] w fun v w' => v = V32 (rotl x kk) ∧ w' = w := by
  subst hk
  refine ret_mk Try.func137 rfl Try.ntmps137 (by simp) ?_
  repeat refine c_seq ?_
  refine c_region ?_
  refine l_op (o_as ?_)
  first | refine l_end ?_ | refine l_nil ?_
  have e := rot_and ⟨kk, h2⟩
  simp only at e
  have hk : ((UInt64.ofNat kk).toNat : Int) = kk := by rw [UInt64.toNat_ofNat']; omega
  have hs : ((UInt64.ofNat 32 - UInt64.ofNat kk).toNat : Int) = 32 - kk := by rw [UInt64.toNat_sub, UInt64.toNat_ofNat', UInt64.toNat_ofNat']; omega
  repeat refine c_seq ?_
  refine c_region ?_
  refine l_op (o_mv ?_)
  refine l_op (o_conv Try.underlying3 Try.underlying118 rfl (rot_wrap kk h2) ?_)
  refine l_op (o_bin rfl (c64 31 (by decide)) (fun _ => b_and_u64) ?_)
  refine l_op (o_as ?_)
  first | refine l_end ?_ | refine l_nil ?_
  rw [e]
  repeat refine c_seq ?_
  refine c_region ?_
  refine l_op (o_mv ?_)
  refine l_op (o_mv ?_)
  refine l_op (o_shift rfl rfl (.inl rfl) (fun _ => b_shl_u32 (by omega) (by omega)) ?_)
  refine l_op (o_mv ?_)
  refine l_op (o_mv ?_)
  refine l_op (o_bin (c64 32 (by decide)) rfl (fun _ => b_sub_u64) ?_)
  refine l_op (o_shift rfl rfl (.inr rfl) (fun _ => b_shr_u32 (by omega) (by omega)) ?_)
  refine l_op (o_bin rfl rfl (fun _ => b_or_u32) ?_)
  refine l_op (o_as ?_)
  first | refine l_end ?_ | refine l_nil ?_
  refine c_ret (e_ret1 (v := .int _ _) Try.results137 rfl ⟨_, rfl, ?_, rfl⟩)
  have e1 : ((UInt64.ofNat kk).toNat : Int).toNat = kk := by omega
  have e2 : ((UInt64.ofNat 32 - UInt64.ofNat kk).toNat : Int).toNat = 32 - kk := by omega
  rw [rotl, e1, e2]
theorem none_nil (w : World) : Ret Try.prog 104 [.pointer none] w fun v w' => v = .bool true ∧ w' = w := by
  refine ret_mk Try.func104 rfl Try.ntmps104 (by simp) ?_
  repeat refine c_seq ?_
  refine c_region ?_
  refine l_op (o_as ?_)
  first | refine l_end ?_ | refine l_nil ?_
  repeat refine c_seq ?_
  refine c_region ?_
  refine l_op (o_mv ?_)
  refine l_op (o_pnil Try.underlying26 rfl rfl ?_)
  refine l_op (o_mv ?_)
  refine l_no rfl rfl rfl rfl ?_
  refine l_no rfl rfl rfl rfl ?_
  refine l_no rfl rfl rfl rfl ?_
  refine l_no rfl rfl rfl rfl ?_
  refine l_no rfl rfl rfl rfl ?_
  refine l_op (o_pick rfl ?_)
  refine l_op (o_as ?_)
  first | refine l_end ?_ | refine l_nil ?_
  exact c_ret (e_ret1 (v := .bool _) Try.results104 rfl ⟨_, rfl, rfl, rfl⟩)
theorem none_at (w : World) (b : Nat) (on : Bool) (C : List Value) (T : TypeId) (hH : w.heap[b]? = some (.cells C.toArray T (0, 0))) (hC : C[0]? = some (.bool on)) :
    Ret Try.prog 104 [.pointer (some ⟨b, 0, none⟩)] w fun v w' => v = .bool (!on) ∧ w' = w := by
  refine ret_mk Try.func104 rfl Try.ntmps104 (by simp) ?_
  have H := Hp.start w (.blk b C T) b hH rfl
  repeat refine c_seq ?_
  refine c_region ?_
  refine l_op (o_as ?_)
  first | refine l_end ?_ | refine l_nil ?_
  repeat refine c_seq ?_
  refine c_region ?_
  refine l_op (o_mv ?_)
  refine l_op (o_pnil Try.underlying26 rfl rfl ?_)
  refine l_op (o_mv ?_)
  refine l_yes rfl rfl rfl (o_mv ?_)
  refine l_yes rfl rfl rfl (o_nilc rfl ?_)
  refine l_yes rfl rfl rfl (o_fa rfl fo52_0 ?_)
  refine l_yes rfl rfl rfl (o_ld H (i := 0) rfl rfl ct4 hC ?_)
  refine l_yes rfl rfl rfl (o_not rfl ?_)
  refine l_op (o_pick rfl ?_)
  refine l_op (o_as ?_)
  first | refine l_end ?_ | refine l_nil ?_
  exact c_ret (e_ret1 (v := .bool _) Try.results104 rfl ⟨_, rfl, rfl, rfl⟩)
end Go.Proofs.Ytjmbbhnpfmblpaa
