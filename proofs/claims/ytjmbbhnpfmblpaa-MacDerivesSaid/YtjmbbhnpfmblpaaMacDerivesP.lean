/- Keys are made out of a key, a label and a number as the document has it. No condition. -/
import Derived.Test.YtjmbbhnpfmblpaaOpen2
import Derived.Test.YtjmbbhnpfmblpaaMacDerives
namespace Go.Proofs.Ytjmbbhnpfmblpaa
open Go Go.ChangeShapes Go.WideShapes Go.ChangeAt Go.RowKit Go.ChangeMaps
set_option maxRecDepth 100000 in
theorem macDerives_lifted (os : Os) (started : os.Started) (H : Type) (enc : TypeId × Value → H) :
    ReturnsInHanded {} Try.checked os 13 .any (Rows.macDerivesSpec.pre6 enc Try.prog Try.f13 Rows.macDerivesRow.domain false) (Rows.macDerivesSpec.post enc Try.prog Try.f13 false true false false) := by
  refine returnsInHanded_of_change (C := Try.checked) Try.own started (by kernel_rfl) Try.func13
    (ChangeSpec.witness6 (enc := enc) (C := Try.checked) false ⟨#[], #[.agg (Array.replicate 32 (.int .u8 0)), .string .empty, .int .u64 0], []⟩ 8 (by kernel_rfl) (by kernel_rfl) (by kernel_rfl) (by kernel_rfl)) ?_
  intro W base args ds gs before hval0 hW _ _
  have hval : ∀ (j : Nat) t v, Try.f13.params[j]? = some t → args[j]? = some v → Value.okWide Try.prog W .any base t v := hval0
  have hW0 : DataW.Whole enc Try.prog Try.f13.params.toList Rows.macDerivesSpec.vars false W args.toList ds gs before := hW
  obtain ⟨p, q, hA0, _⟩ := id hW0
  have hA : DataW.TrodAll enc Try.prog W 0 (fun _ => true) true Try.f13.params.toList args.toList ds p := hA0
  rw [Try.params13] at hA hval
  obtain ⟨v0, v1, v2, d0, d1, d2, p0, p1, p2, rfl, rfl, hps, h0, h1, h2⟩ := trodAll_three hA
  obtain ⟨l0, rfl, hl0⟩ := open_id (hval 0 31 v0 rfl rfl) h0
  obtain ⟨s1, rfl, rfl, rfl, hs1⟩ := open_string Try.underlying9 (hval 1 9 v1 rfl rfl) h1
  obtain ⟨n2, rfl, rfl, _, wn2⟩ := open_int Try.underlying35 (hval 2 35 v2 rfl rfl) h2
  have wb2 := bounds_u64 wn2
  obtain ⟨u2, rfl⟩ : ∃ u : UInt64, n2 = (u.toNat : Int) := ⟨UInt64.ofNat n2.toNat, by rw [UInt64.toNat_ofNat']; omega⟩
  exact law_calls (tb := 4) Try.laidOut (tyOk_all (by kernel_rfl)) hW0 rfl rfl (by kernel_rfl) Try.underlying4 (macDerives_ret W l0 s1.data.toList u2 hl0 hs1)
theorem macDerives_holds : Rows.MacDerivesSaid :=
  OpenClaim.holds_of_wide 13 Try.f13 rfl rfl rfl rfl rfl rfl rfl ⟨rfl, rfl, rfl, rfl, rfl⟩ rfl rfl rfl rfl rfl (by kernel_rfl) Try.func13 (joined_of Try.prog _ _ _ _ Try.laidOut Try.mapsRowed Try.stops Try.stopKnobs Try.stopsHeard Try.mayEnter Try.liftsFinal Try.make true Try.plainKeys (by kernel_rfl) (by kernel_rfl))
    (of_decide_eq_true (by kernel_rfl)) (by unfold Func.isWrapper; first | (rw [if_pos (by decide +kernel)]; kernel_rfl) | (rw [if_neg (by decide +kernel)]; exact ⟨rfl, rfl⟩))
    (fun os started H enc _ => macDerives_lifted os started H enc)
end Go.Proofs.Ytjmbbhnpfmblpaa
