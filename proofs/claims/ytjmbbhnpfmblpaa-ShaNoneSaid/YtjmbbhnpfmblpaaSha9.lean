import Derived.Test.YtjmbbhnpfmblpaaSha8
/- layer 2: what a nil hash, and a zero one, answers. -/
namespace Go.Proofs.Ytjmbbhnpfmblpaa
open Go
set_option maxRecDepth 100000
def zero32 : List UInt8 := List.replicate 32 0
def zeroHash : List Value := [Value.bool false] ++ (List.replicate 8 (Value.int .u32 0)) ++ (List.replicate 64 (Value.int .u8 0)) ++ [Value.int .u64 0]
theorem noHash_nil (w : World) : NoHash (.pointer none) w := none_nil w
theorem noHash_zero (w : World) (b : Nat) (T : TypeId) (h : w.heap[b]? = some (.cells zeroHash.toArray T (0, 0))) : NoHash (.pointer (some ⟨b, 0, none⟩)) w := none_at w b false _ _ h rfl
theorem shaNone_ret (w0 : World) : Ret Try.prog 8 [] w0 fun v w' => v = .bool true ∧ Hp w0 w' [] [] := by
  refine ret_mk Try.func8 rfl Try.ntmps8 (by simp) ?_
  have H := Hp.refl w0 []
  repeat refine c_seq ?_
  refine c_region ?_
  refine l_op (o_as ?_)
  first | refine l_end ?_ | refine l_nil ?_
  repeat refine c_seq ?_
  refine c_region ?_
  refine l_op (o_as ?_)
  first | refine l_end ?_ | refine l_nil ?_
  repeat refine c_seq ?_
  refine c_region ?_
  refine l_op (o_bld' (pv := []) (cells := zeroHash.toArray) bd52 rfl (by kernel_rfl) ?_)
  refine l_op (o_box H rfl (fun b w H hb => ?_))
  refine l_op (o_as ?_)
  first | refine l_end ?_ | refine l_nil ?_
  have hN : ∀ w, Hp w0 w [] [.blk b zeroHash 52] → ∀ w', (∀ k, k < w.heap.size → w'.heap[k]? = w.heap[k]?) → NoHash (.pointer (some ⟨b, 0, none⟩)) w' := by
    intro w H w' hw
    have h1 := H.blk (i := 0) rfl
    refine noHash_zero w' b 52 ?_
    rw [hw b (Array.getElem?_eq_some_iff.1 h1).1]; exact h1
  replace H : Hp w0 w [] [.blk b zeroHash 52] := H
  repeat refine c_seq ?_
  refine c_region ?_
  refine l_op (o_mv ?_)
  refine l_op (o_bsl H sl29 zc5 (by decide) rfl (by decide) (fill1 _ (V8 1) rfl) (fun bA w H hbA => ?_))
  refine l_op (o_callR Try.func35 rfl rfl rfl (write_none _ _ _ (noHash_nil _)) ?_)
  rintro _ w' ⟨rfl, hw⟩
  rw [hw]; clear hw w'
  first | refine l_end ?_ | refine l_nil ?_
  replace H : Hp w0 w [] [.blk b zeroHash 52] := H.sub (List.sublist_append_left _ [_])
  repeat refine c_seq ?_
  refine c_region ?_
  refine l_op (o_mv ?_)
  refine l_op (o_bsl H sl29 zc5 (by decide) rfl (by decide) (fill1 _ (V8 1) rfl) (fun bA w H hbA => ?_))
  replace H : Hp w0 w [] [.blk b zeroHash 52] := H.sub (List.sublist_append_left _ [_])
  refine l_op (o_callR Try.func35 rfl rfl rfl (write_none _ _ _ (hN _ H _ (fun _ _ => rfl))) ?_)
  rintro _ w' ⟨rfl, hw⟩
  rw [hw]; clear hw w'
  first | refine l_end ?_ | refine l_nil ?_
  repeat refine c_seq ?_
  refine c_region ?_
  refine l_op (o_callR Try.func31 rfl rfl rfl (begun2_ret _) ?_)
  rintro _ w ⟨rfl, Hc⟩
  replace H := H.call Hc
  rw [List.append_nil] at H
  clear Hc
  refine l_op (o_mv ?_)
  refine l_yes rfl rfl rfl (o_mv ?_)
  refine l_yes rfl rfl rfl (o_callR Try.func38 rfl rfl rfl (sum_none _ _ (fun _ _ => noHash_nil _)) ?_)
  rintro _ w ⟨rfl, Hc⟩
  replace H := H.call Hc
  rw [List.append_nil] at H
  clear Hc
  refine l_yes rfl rfl rfl (o_bld' (pv := []) (cells := (zero32.map V8).toArray) bd31 rfl (by kernel_rfl) ?_)
  refine l_yes rfl rfl rfl (o_eqa (a := zero32) (b := zero32) Try.underlying31 Try.underlying5 cs5 rfl rfl rfl rfl ?_)
  rw [decide_eq_true (rfl : zero32 = zero32)]
  refine l_op (o_pick rfl ?_)
  refine l_op (o_mv ?_)
  refine l_yes rfl rfl rfl (o_mv ?_)
  refine l_yes rfl rfl rfl (o_callR Try.func38 rfl rfl rfl (sum_none _ _ (hN _ H)) ?_)
  rintro _ w ⟨rfl, Hc⟩
  replace H := H.call Hc
  rw [List.append_nil] at H
  clear Hc
  refine l_yes rfl rfl rfl (o_bld' (pv := []) (cells := (zero32.map V8).toArray) bd31 rfl (by kernel_rfl) ?_)
  refine l_yes rfl rfl rfl (o_eqa (a := zero32) (b := zero32) Try.underlying31 Try.underlying5 cs5 rfl rfl rfl rfl ?_)
  rw [decide_eq_true (rfl : zero32 = zero32)]
  refine l_op (o_pick rfl ?_)
  refine l_op (o_mv ?_)
  refine l_yes rfl rfl rfl (o_mv ?_)
  refine l_yes rfl rfl rfl (o_callR Try.func39 rfl rfl rfl (len_none _ _ (noHash_nil _)) ?_)
  rintro _ w' ⟨rfl, hw⟩
  rw [hw]; clear hw w'
  refine l_yes rfl rfl rfl (o_bin rfl rfl (fun _ => b_eql) ?_)
  refine l_op (o_pick rfl ?_)
  refine l_op (o_mv ?_)
  refine l_yes rfl rfl rfl (o_mv ?_)
  refine l_yes rfl rfl rfl (o_callR Try.func39 rfl rfl rfl (len_none _ _ (hN _ H _ (fun _ _ => rfl))) ?_)
  rintro _ w' ⟨rfl, hw⟩
  rw [hw]; clear hw w'
  refine l_yes rfl rfl rfl (o_bin rfl rfl (fun _ => b_eql) ?_)
  refine l_op (o_pick rfl ?_)
  refine l_op (o_mv ?_)
  refine l_yes rfl rfl rfl (o_mv ?_)
  refine l_yes rfl rfl rfl (o_callR Try.func46 rfl rfl rfl (copy_none _ _ (noHash_nil _)) ?_)
  rintro _ w' ⟨rfl, hw⟩
  rw [hw]; clear hw w'
  refine l_yes rfl rfl rfl (o_pnil Try.underlying26 rfl rfl ?_)
  refine l_op (o_pick rfl ?_)
  refine l_op (o_mv ?_)
  refine l_yes rfl rfl rfl (o_mv ?_)
  refine l_yes rfl rfl rfl (o_callR Try.func46 rfl rfl rfl (copy_none _ _ (hN _ H _ (fun _ _ => rfl))) ?_)
  rintro _ w' ⟨rfl, hw⟩
  rw [hw]; clear hw w'
  refine l_yes rfl rfl rfl (o_pnil Try.underlying26 rfl rfl ?_)
  refine l_op (o_pick rfl ?_)
  refine l_op (o_as ?_)
  first | refine l_end ?_ | refine l_nil ?_
  exact c_ret (e_ret1 (v := .bool true) Try.results8 rfl ⟨_, rfl, rfl, H.sub (List.nil_sublist _)⟩)
end Go.Proofs.Ytjmbbhnpfmblpaa
