/- Tokens are issued, made less, told and checked as the document has it, and stay as they are, for tokens of at most 64 caveats and 1024 bytes of a name. No condition. -/
import Derived.Test.YtjmbbhnpfmblpaaCapAllG6
namespace Go.Proofs.Ytjmbbhnpfmblpaa
open Go Go.ChangeShapes Go.WideShapes Go.ChangeAt Go.RowKit Go.ChangeMaps
set_option maxRecDepth 100000 in
theorem capAll_lifted (os : Os) (started : os.Started) (H : Type) (enc : TypeId × Value → H) :
    ReturnsInHanded {} Try.checked os 18 .any (Rows.capAllSpec.pre6 enc Try.prog Try.f18 Rows.capAllRow.domain false) (Rows.capAllSpec.post enc Try.prog Try.f18 false true false false) := by
  refine returnsInHanded_of_change (C := Try.checked) Try.own started (by kernel_rfl) Try.func18
    (ChangeSpec.witness6 (enc := enc) (C := Try.checked) false ⟨#[], #[.agg (Array.replicate 32 (.int .u8 0)), .agg (([.int .u64 0, .string .empty, .int .u8 0, .int .i64 0, .int .i64 0, .slice none 0 0] : List Value) ++ List.replicate 32 (Value.int .u8 0)).toArray, .agg #[.int .u8 0, .int .i64 0], .int .i64 0], []⟩ 8 (by kernel_rfl) (by kernel_rfl) (by kernel_rfl) (by kernel_rfl)) ?_
  intro W base args ds gs before hval0 hW _ _
  have hval : ∀ (j : Nat) t v, Try.f18.params[j]? = some t → args[j]? = some v → Value.okWide Try.prog W .any base t v := hval0
  have hW0 : DataW.Whole enc Try.prog Try.f18.params.toList Rows.capAllSpec.vars false W args.toList ds gs before := hW
  obtain ⟨p, q, hA0, _⟩ := id hW0
  have hA : DataW.TrodAll enc Try.prog W 0 (fun _ => true) true Try.f18.params.toList args.toList ds p := hA0
  rw [Try.params18] at hA hval
  obtain ⟨v0, v1, v2, v3, d0, d1, d2, d3, p0, p1, p2, p3, rfl, rfl, hps, h0, h1, h2, h3⟩ := trodAll_four hA
  obtain ⟨l0, rfl, hl0⟩ := open_id (hval 0 31 v0 rfl rfl) h0
  obtain ⟨t1, rfl, hc1, ht1, hb1⟩ := open_tokb (hval 1 76 v1 rfl rfl) h1
  obtain ⟨c2, rfl, hv2⟩ := open_cav1 (hval 2 78 v2 rfl rfl) h2
  obtain ⟨n3, rfl, rfl, _, wn3⟩ := open_int Try.underlying2 (hval 3 2 v3 rfl rfl) h3
  exact law_calls (tb := 4) Try.laidOut (tyOk_all (by kernel_rfl)) hW0 rfl rfl (by kernel_rfl) Try.underlying4 (capAll_ret W l0 t1 c2 n3 hl0 hc1 ht1 hb1 hv2)
theorem capAll_holds : Rows.CapAllSaid :=
  OpenClaim.holds_of_wide 18 Try.f18 rfl rfl rfl rfl rfl rfl rfl ⟨rfl, rfl, rfl, rfl, rfl⟩ rfl rfl rfl rfl rfl (by kernel_rfl) Try.func18 (joined_of Try.prog _ _ _ _ Try.laidOut Try.mapsRowed Try.stops Try.stopKnobs Try.stopsHeard Try.mayEnter Try.liftsFinal Try.make true Try.plainKeys (by kernel_rfl) (by kernel_rfl))
    (of_decide_eq_true (by kernel_rfl)) (by unfold Func.isWrapper; first | (rw [if_pos (by decide +kernel)]; kernel_rfl) | (rw [if_neg (by decide +kernel)]; exact ⟨rfl, rfl⟩))
    (fun os started H enc _ => capAll_lifted os started H enc)
end Go.Proofs.Ytjmbbhnpfmblpaa
