/- layer 14: a token has the bytes that the document gives it. -/
import Derived.Test.YtjmbbhnpfmblpaaOpen4
import Derived.Test.YtjmbbhnpfmblpaaCapBytes
namespace Go.Proofs.Ytjmbbhnpfmblpaa
open Go Go.ChangeShapes Go.WideShapes Go.ChangeAt Go.RowKit Go.ChangeMaps
set_option maxRecDepth 100000 in
theorem capBytes_lifted (os : Os) (started : os.Started) (H : Type) (enc : TypeId × Value → H) :
    ReturnsInHanded {} Try.checked os 21 .any (Rows.capBytesSpec.pre6 enc Try.prog Try.f21 Rows.capBytesRow.domain false) (Rows.capBytesSpec.post enc Try.prog Try.f21 false true false false) := by
  refine returnsInHanded_of_change (C := Try.checked) Try.own started (by kernel_rfl) Try.func21
    (ChangeSpec.witness6 (enc := enc) (C := Try.checked) false ⟨#[], #[.agg (([.int .u64 0, .string .empty, .int .u8 0, .int .i64 0, .int .i64 0, .slice none 0 0] : List Value) ++ List.replicate 32 (Value.int .u8 0)).toArray], []⟩ 8 (by kernel_rfl) (by kernel_rfl) (by kernel_rfl) (by kernel_rfl)) ?_
  intro W base args ds gs before hval0 hW _ _
  have hval : ∀ (j : Nat) t v, Try.f21.params[j]? = some t → args[j]? = some v → Value.okWide Try.prog W .any base t v := hval0
  have hW0 : DataW.Whole enc Try.prog Try.f21.params.toList Rows.capBytesSpec.vars false W args.toList ds gs before := hW
  obtain ⟨p, q, hA0, _⟩ := id hW0
  have hA : DataW.TrodAll enc Try.prog W 0 (fun _ => true) true Try.f21.params.toList args.toList ds p := hA0
  rw [Try.params21] at hA hval
  obtain ⟨v0, d0, rfl, rfl, h0⟩ := trodAll_one hA
  obtain ⟨t0, rfl, hc0, ht0, hb0⟩ := open_tokb (hval 0 76 v0 rfl rfl) h0
  exact law_calls (tb := 4) Try.laidOut (tyOk_all (by kernel_rfl)) hW0 rfl rfl (by kernel_rfl) Try.underlying4 (capBytes_ret W t0 hc0 ht0 hb0)
theorem capBytes_holds : Rows.CapBytesSaid :=
  OpenClaim.holds_of_wide 21 Try.f21 rfl rfl rfl rfl rfl rfl rfl ⟨rfl, rfl, rfl, rfl, rfl⟩ rfl rfl rfl rfl rfl (by kernel_rfl) Try.func21 (joined_of Try.prog _ _ _ _ Try.laidOut Try.mapsRowed Try.stops Try.stopKnobs Try.stopsHeard Try.mayEnter Try.liftsFinal Try.make true Try.plainKeys (by kernel_rfl) (by kernel_rfl))
    (of_decide_eq_true (by kernel_rfl)) (by unfold Func.isWrapper; first | (rw [if_pos (by decide +kernel)]; kernel_rfl) | (rw [if_neg (by decide +kernel)]; exact ⟨rfl, rfl⟩))
    (fun os started H enc _ => capBytes_lifted os started H enc)
end Go.Proofs.Ytjmbbhnpfmblpaa
