/- Any bytes are verified against any head as the document has it, for at most 8192 bytes. No condition. -/
import Derived.Test.YtjmbbhnpfmblpaaAuditVerifiesG4
namespace Go.Proofs.Ytjmbbhnpfmblpaa
open Go Go.ChangeShapes Go.WideShapes Go.ChangeAt Go.RowKit Go.ChangeMaps
set_option maxRecDepth 100000 in
theorem auditVerifies_lifted (os : Os) (started : os.Started) (H : Type) (enc : TypeId × Value → H) :
    ReturnsInHanded {} Try.checked os 26 .any (Rows.auditVerifiesSpec.pre6 enc Try.prog Try.f26 Rows.auditVerifiesRow.domain false) (Rows.auditVerifiesSpec.post enc Try.prog Try.f26 false true false false) := by
  refine returnsInHanded_of_change (C := Try.checked) Try.own started (by kernel_rfl) Try.func26
    (ChangeSpec.witness6 (enc := enc) (C := Try.checked) false ⟨#[], #[.slice none 0 0, .agg (Array.replicate 32 (.int .u8 0))], []⟩ 8 (by kernel_rfl) (by kernel_rfl) (by kernel_rfl) (by kernel_rfl)) ?_
  intro W base args ds gs before hval0 hW _ _
  have hval : ∀ (j : Nat) t v, Try.f26.params[j]? = some t → args[j]? = some v → Value.okWide Try.prog W .any base t v := hval0
  have hW0 : DataW.Whole enc Try.prog Try.f26.params.toList Rows.auditVerifiesSpec.vars false W args.toList ds gs before := hW
  obtain ⟨p, q, hA0, _⟩ := id hW0
  have hA : DataW.TrodAll enc Try.prog W 0 (fun _ => true) true Try.f26.params.toList args.toList ds p := hA0
  rw [Try.params26] at hA hval
  obtain ⟨v0, v1, d0, d1, p0, p1, rfl, rfl, hps, h0, h1⟩ := trodAll_two hA
  obtain ⟨a0, rfl, ha0⟩ := open_u8s (hval 0 29 v0 rfl rfl) h0
  obtain ⟨l1, rfl, hl1⟩ := open_id (hval 1 31 v1 rfl rfl) h1
  exact law_calls (tb := 4) Try.laidOut (tyOk_all (by kernel_rfl)) hW0 rfl rfl (by kernel_rfl) Try.underlying4 (auditVerifies_ret W a0 l1 ha0 hl1)
theorem auditVerifies_holds : Rows.AuditVerifiesSaid :=
  OpenClaim.holds_of_wide 26 Try.f26 rfl rfl rfl rfl rfl rfl rfl ⟨rfl, rfl, rfl, rfl, rfl⟩ rfl rfl rfl rfl rfl (by kernel_rfl) Try.func26 (joined_of Try.prog _ _ _ _ Try.laidOut Try.mapsRowed Try.stops Try.stopKnobs Try.stopsHeard Try.mayEnter Try.liftsFinal Try.make true Try.plainKeys (by kernel_rfl) (by kernel_rfl))
    (of_decide_eq_true (by kernel_rfl)) (by unfold Func.isWrapper; first | (rw [if_pos (by decide +kernel)]; kernel_rfl) | (rw [if_neg (by decide +kernel)]; exact ⟨rfl, rfl⟩))
    (fun os started H enc _ => auditVerifies_lifted os started H enc)
end Go.Proofs.Ytjmbbhnpfmblpaa
