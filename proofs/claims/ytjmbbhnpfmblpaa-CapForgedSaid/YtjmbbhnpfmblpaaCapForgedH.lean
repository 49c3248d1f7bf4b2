/- A token whose bytes were turned is checked as the document has it, for tokens of at most 1024 bytes of a name. No condition. -/
import Derived.Test.YtjmbbhnpfmblpaaCapForgedG6
namespace Go.Proofs.Ytjmbbhnpfmblpaa
open Go Go.ChangeShapes Go.WideShapes Go.ChangeAt Go.RowKit Go.ChangeMaps
set_option maxRecDepth 100000 in
theorem capForged_lifted (os : Os) (started : os.Started) (H : Type) (enc : TypeId × Value → H) :
    ReturnsInHanded {} Try.checked os 30 .any (Rows.capForgedSpec.pre6 enc Try.prog Try.f30 Rows.capForgedRow.domain false) (Rows.capForgedSpec.post enc Try.prog Try.f30 false true false false) := by
  refine returnsInHanded_of_change (C := Try.checked) Try.own started (by kernel_rfl) Try.func30
    (ChangeSpec.witness6 (enc := enc) (C := Try.checked) false ⟨#[], #[.agg (Array.replicate 32 (.int .u8 0)), .agg (([.int .u64 0, .string .empty, .int .u8 0, .int .i64 0, .int .i64 0, .slice none 0 0] : List Value) ++ List.replicate 32 (Value.int .u8 0)).toArray, .int .i64 0, .int .u8 0, .int .i64 0], []⟩ 8 (by kernel_rfl) (by kernel_rfl) (by kernel_rfl) (by kernel_rfl)) ?_
  intro W base args ds gs before hval0 hW _ _
  have hval : ∀ (j : Nat) t v, Try.f30.params[j]? = some t → args[j]? = some v → Value.okWide Try.prog W .any base t v := hval0
  have hW0 : DataW.Whole enc Try.prog Try.f30.params.toList Rows.capForgedSpec.vars false W args.toList ds gs before := hW
  obtain ⟨p, q, hA0, _⟩ := id hW0
  have hA : DataW.TrodAll enc Try.prog W 0 (fun _ => true) true Try.f30.params.toList args.toList ds p := hA0
  rw [Try.params30] at hA hval
  obtain ⟨v0, v1, v2, v3, v4, d0, d1, d2, d3, d4, p0, p1, p2, p3, p4, rfl, rfl, hps, h0, h1, h2, h3, h4⟩ := trodAll_five hA
  obtain ⟨l0, rfl, hl0⟩ := open_id (hval 0 31 v0 rfl rfl) h0
  obtain ⟨t1, rfl, hc1, ht1⟩ := open_tok (hval 1 76 v1 rfl rfl) h1
  obtain ⟨n2, rfl, rfl, _, wn2⟩ := open_int Try.underlying3 (hval 2 3 v2 rfl rfl) h2
  obtain ⟨n3, rfl, rfl, _, wn3⟩ := open_int Try.underlying5 (hval 3 5 v3 rfl rfl) h3
  have wb3 := bounds_u8 wn3
  obtain ⟨u3, rfl⟩ : ∃ u : UInt8, n3 = (u.toNat : Int) := ⟨UInt8.ofNat n3.toNat, by rw [UInt8.toNat_ofNat']; omega⟩
  obtain ⟨n4, rfl, rfl, _, wn4⟩ := open_int Try.underlying2 (hval 4 2 v4 rfl rfl) h4
  exact law_calls (tb := 4) Try.laidOut (tyOk_all (by kernel_rfl)) hW0 rfl rfl (by kernel_rfl) Try.underlying4 (capForged_ret W l0 t1 n2 u3 n4 hl0 hc1 ht1)
theorem capForged_holds : Rows.CapForgedSaid :=
  OpenClaim.holds_of_wide 30 Try.f30 rfl rfl rfl rfl rfl rfl rfl ⟨rfl, rfl, rfl, rfl, rfl⟩ rfl rfl rfl rfl rfl (by kernel_rfl) Try.func30 (joined_of Try.prog _ _ _ _ Try.laidOut Try.mapsRowed Try.stops Try.stopKnobs Try.stopsHeard Try.mayEnter Try.liftsFinal Try.make true Try.plainKeys (by kernel_rfl) (by kernel_rfl))
    (of_decide_eq_true (by kernel_rfl)) (by unfold Func.isWrapper; first | (rw [if_pos (by decide +kernel)]; kernel_rfl) | (rw [if_neg (by decide +kernel)]; exact ⟨rfl, rfl⟩))
    (fun os started H enc _ => capForged_lifted os started H enc)
end Go.Proofs.Ytjmbbhnpfmblpaa
