/- What a tenant uses is what the document has, of any tenant (40 blobs, 40 snapshots, labels of 2^10 bytes). -/
import Derived.Test.YthigalfaanccnaaGreatStateUsedG4
namespace Go.Proofs.YthigalfaanccnaaGreat
open Go Go.ChangeShapes Go.WideShapes Go.ChangeAt Go.RowKit Go.ChangeMaps
set_option maxRecDepth 100000 in
theorem stateUsed_lifted (os : Os) (started : os.Started) (H : Type) (enc : TypeId × Value → H) :
    ReturnsInHanded {} Tryz.checked os 3 .any (Rows.stateUsedSpec.pre6 enc Tryz.prog Tryz.f3 Rows.stateUsedRow.domain false) (Rows.stateUsedSpec.post enc Tryz.prog Tryz.f3 false true false false) := by
  refine returnsInHanded_of_change (C := Tryz.checked) Tryz.own started (by kernel_rfl) Tryz.func3
    (ChangeSpec.witness6 (enc := enc) (C := Tryz.checked) false ⟨#[], #[.agg (([.string .empty] : List Value) ++ List.replicate 32 (Value.int .u8 0) ++ ([.int .i64 0, .int .i64 0, .slice none 0 0, .slice none 0 0, .slice none 0 0] : List Value)).toArray], []⟩ 8 (by kernel_rfl) (by kernel_rfl) (by kernel_rfl) (by kernel_rfl)) ?_
  intro W base args ds gs before hval0 hW _ _
  have hval : ∀ (j : Nat) t v, Tryz.f3.params[j]? = some t → args[j]? = some v → Value.okWide Tryz.prog W .any base t v := hval0
  have hW0 : DataW.Whole enc Tryz.prog Tryz.f3.params.toList Rows.stateUsedSpec.vars false W args.toList ds gs before := hW
  obtain ⟨p, q, hA0, _⟩ := id hW0
  have hA : DataW.TrodAll enc Tryz.prog W 0 (fun _ => true) true Tryz.f3.params.toList args.toList ds p := hA0
  rw [Tryz.params3] at hA hval
  obtain ⟨v0, d0, rfl, rfl, h0⟩ := trodAll_one hA
  obtain ⟨t0, rfl, ht0⟩ := open_tnE (hval 0 28 v0 rfl rfl) h0
  exact law_calls (tb := 4) Tryz.laidOut (tyOk_all (by kernel_rfl)) hW0 rfl rfl (by kernel_rfl) Tryz.underlying4 (stateUsed_ret W t0 ht0)
theorem stateUsed_holds : Rows.StateUsedSaid :=
  OpenClaim.holds_of_wide 3 Tryz.f3 rfl rfl rfl rfl rfl rfl rfl ⟨rfl, rfl, rfl, rfl, rfl⟩ rfl rfl rfl rfl rfl (by kernel_rfl) Tryz.func3 (joined_of Tryz.prog _ _ _ _ Tryz.laidOut Tryz.mapsRowed Tryz.stops Tryz.stopKnobs Tryz.stopsHeard Tryz.mayEnter Tryz.liftsFinal Tryz.make false Tryz.plainKeys (by kernel_rfl) (by kernel_rfl))
    (of_decide_eq_true (by kernel_rfl)) (by unfold Func.isWrapper; first | (rw [if_pos (by decide +kernel)]; kernel_rfl) | (rw [if_neg (by decide +kernel)]; exact ⟨rfl, rfl⟩))
    (fun os started H enc _ => stateUsed_lifted os started H enc)
end Go.Proofs.YthigalfaanccnaaGreat
