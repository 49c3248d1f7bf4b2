/- From when and until when a token is taken. No condition. -/
import Derived.Test.YtjmbbhnpfmblpaaOpen2
import Derived.Test.YtjmbbhnpfmblpaaCapTimes
namespace Go.Proofs.Ytjmbbhnpfmblpaa
open Go Go.ChangeShapes Go.WideShapes Go.ChangeAt Go.RowKit Go.ChangeMaps
set_option maxRecDepth 100000 in
theorem capTimes_lifted (os : Os) (started : os.Started) (H : Type) (enc : TypeId × Value → H) :
    ReturnsInHanded {} Try.checked os 19 .any (Rows.capTimesSpec.pre6 enc Try.prog Try.f19 Rows.capTimesRow.domain false) (Rows.capTimesSpec.post enc Try.prog Try.f19 false true false false) := by
  refine returnsInHanded_of_change (C := Try.checked) Try.own started (by kernel_rfl) Try.func19
    (ChangeSpec.witness6 (enc := enc) (C := Try.checked) false ⟨#[], #[.agg (Array.replicate 32 (.int .u8 0)), .int .i64 0, .int .i64 0, .int .i64 0], []⟩ 8 (by kernel_rfl) (by kernel_rfl) (by kernel_rfl) (by kernel_rfl)) ?_
  intro W base args ds gs before hval0 hW _ _
  have hval : ∀ (j : Nat) t v, Try.f19.params[j]? = some t → args[j]? = some v → Value.okWide Try.prog W .any base t v := hval0
  have hW0 : DataW.Whole enc Try.prog Try.f19.params.toList Rows.capTimesSpec.vars false W args.toList ds gs before := hW
  obtain ⟨p, q, hA0, _⟩ := id hW0
  have hA : DataW.TrodAll enc Try.prog W 0 (fun _ => true) true Try.f19.params.toList args.toList ds p := hA0
  rw [Try.params19] at hA hval
  obtain ⟨v0, v1, v2, v3, d0, d1, d2, d3, p0, p1, p2, p3, rfl, rfl, hps, h0, h1, h2, h3⟩ := trodAll_four hA
  obtain ⟨l0, rfl, hl0⟩ := open_id (hval 0 31 v0 rfl rfl) h0
  obtain ⟨n1, rfl, rfl, _, wn1⟩ := open_int Try.underlying2 (hval 1 2 v1 rfl rfl) h1
  obtain ⟨n2, rfl, rfl, _, wn2⟩ := open_int Try.underlying2 (hval 2 2 v2 rfl rfl) h2
  obtain ⟨n3, rfl, rfl, _, wn3⟩ := open_int Try.underlying2 (hval 3 2 v3 rfl rfl) h3
  exact law_calls (tb := 4) Try.laidOut (tyOk_all (by kernel_rfl)) hW0 rfl rfl (by kernel_rfl) Try.underlying4 (capTimes_ret W l0 n1 n2 n3 hl0)
theorem capTimes_holds : Rows.CapTimesSaid :=
  OpenClaim.holds_of_wide 19 Try.f19 rfl rfl rfl rfl rfl rfl rfl ⟨rfl, rfl, rfl, rfl, rfl⟩ rfl rfl rfl rfl rfl (by kernel_rfl) Try.func19 (joined_of Try.prog _ _ _ _ Try.laidOut Try.mapsRowed Try.stops Try.stopKnobs Try.stopsHeard Try.mayEnter Try.liftsFinal Try.make true Try.plainKeys (by kernel_rfl) (by kernel_rfl))
    (of_decide_eq_true (by kernel_rfl)) (by unfold Func.isWrapper; first | (rw [if_pos (by decide +kernel)]; kernel_rfl) | (rw [if_neg (by decide +kernel)]; exact ⟨rfl, rfl⟩))
    (fun os started H enc _ => capTimes_lifted os started H enc)
end Go.Proofs.Ytjmbbhnpfmblpaa
