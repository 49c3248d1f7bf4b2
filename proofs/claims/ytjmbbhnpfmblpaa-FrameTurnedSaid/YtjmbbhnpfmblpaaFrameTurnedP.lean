/- What is read as a frame is one: a byte that was turned is told, or makes another frame, to the byte. No condition. -/
import Derived.Test.YtjmbbhnpfmblpaaOpen2
import Derived.Test.YtjmbbhnpfmblpaaFrameTurned
namespace Go.Proofs.Ytjmbbhnpfmblpaa
open Go Go.ChangeShapes Go.WideShapes Go.ChangeAt Go.RowKit Go.ChangeMaps
set_option maxRecDepth 100000 in
theorem frameTurned_lifted (os : Os) (started : os.Started) (H : Type) (enc : TypeId × Value → H) :
    ReturnsInHanded {} Try.checked os 17 .any (Rows.frameTurnedSpec.pre6 enc Try.prog Try.f17 Rows.frameTurnedRow.domain false) (Rows.frameTurnedSpec.post enc Try.prog Try.f17 false true false false) := by
  refine returnsInHanded_of_change (C := Try.checked) Try.own started (by kernel_rfl) Try.func17
    (ChangeSpec.witness6 (enc := enc) (C := Try.checked) false ⟨#[], #[.agg (Array.replicate 32 (.int .u8 0)), .slice none 0 0, .int .i64 0, .int .u8 0], []⟩ 8 (by kernel_rfl) (by kernel_rfl) (by kernel_rfl) (by kernel_rfl)) ?_
  intro W base args ds gs before hval0 hW _ _
  have hval : ∀ (j : Nat) t v, Try.f17.params[j]? = some t → args[j]? = some v → Value.okWide Try.prog W .any base t v := hval0
  have hW0 : DataW.Whole enc Try.prog Try.f17.params.toList Rows.frameTurnedSpec.vars false W args.toList ds gs before := hW
  obtain ⟨p, q, hA0, _⟩ := id hW0
  have hA : DataW.TrodAll enc Try.prog W 0 (fun _ => true) true Try.f17.params.toList args.toList ds p := hA0
  rw [Try.params17] at hA hval
  obtain ⟨v0, v1, v2, v3, d0, d1, d2, d3, p0, p1, p2, p3, rfl, rfl, hps, h0, h1, h2, h3⟩ := trodAll_four hA
  obtain ⟨l0, rfl, hl0⟩ := open_id (hval 0 31 v0 rfl rfl) h0
  obtain ⟨a1, rfl, ha1⟩ := open_u8s (hval 1 29 v1 rfl rfl) h1
  obtain ⟨n2, rfl, rfl, _, wn2⟩ := open_int Try.underlying3 (hval 2 3 v2 rfl rfl) h2
  obtain ⟨n3, rfl, rfl, _, wn3⟩ := open_int Try.underlying5 (hval 3 5 v3 rfl rfl) h3
  have wb3 := bounds_u8 wn3
  obtain ⟨u3, rfl⟩ : ∃ u : UInt8, n3 = (u.toNat : Int) := ⟨UInt8.ofNat n3.toNat, by rw [UInt8.toNat_ofNat']; omega⟩
  exact law_calls (tb := 4) Try.laidOut (tyOk_all (by kernel_rfl)) hW0 rfl rfl (by kernel_rfl) Try.underlying4 (frameTurned_ret W l0 a1 n2 u3 hl0 ha1)
theorem frameTurned_holds : Rows.FrameTurnedSaid :=
  OpenClaim.holds_of_wide 17 Try.f17 rfl rfl rfl rfl rfl rfl rfl ⟨rfl, rfl, rfl, rfl, rfl⟩ rfl rfl rfl rfl rfl (by kernel_rfl) Try.func17 (joined_of Try.prog _ _ _ _ Try.laidOut Try.mapsRowed Try.stops Try.stopKnobs Try.stopsHeard Try.mayEnter Try.liftsFinal Try.make true Try.plainKeys (by kernel_rfl) (by kernel_rfl))
    (of_decide_eq_true (by kernel_rfl)) (by unfold Func.isWrapper; first | (rw [if_pos (by decide +kernel)]; kernel_rfl) | (rw [if_neg (by decide +kernel)]; exact ⟨rfl, rfl⟩))
    (fun os started H enc _ => frameTurned_lifted os started H enc)
end Go.Proofs.Ytjmbbhnpfmblpaa
