/- Keys of every length about a block are taken as RFC 2104 has it. No condition. -/
import Derived.Test.YtjmbbhnpfmblpaaOpen2
import Derived.Test.YtjmbbhnpfmblpaaMacKeys
namespace Go.Proofs.Ytjmbbhnpfmblpaa
open Go Go.ChangeShapes Go.WideShapes Go.ChangeAt Go.RowKit Go.ChangeMaps
set_option maxRecDepth 100000 in
theorem macKeys_lifted (os : Os) (started : os.Started) (H : Type) (enc : TypeId × Value → H) :
    ReturnsInHanded {} Try.checked os 10 .any (Rows.macKeysSpec.pre6 enc Try.prog Try.f10 Rows.macKeysRow.domain false) (Rows.macKeysSpec.post enc Try.prog Try.f10 false true false false) := by
  refine returnsInHanded_of_change (C := Try.checked) Try.own started (by kernel_rfl) Try.func10
    (ChangeSpec.witness6 (enc := enc) (C := Try.checked) false ⟨#[], #[.int .i64 0, .int .u8 0, .slice none 0 0], []⟩ 8 (by kernel_rfl) (by kernel_rfl) (by kernel_rfl) (by kernel_rfl)) ?_
  intro W base args ds gs before hval0 hW _ _
  have hval : ∀ (j : Nat) t v, Try.f10.params[j]? = some t → args[j]? = some v → Value.okWide Try.prog W .any base t v := hval0
  have hW0 : DataW.Whole enc Try.prog Try.f10.params.toList Rows.macKeysSpec.vars false W args.toList ds gs before := hW
  obtain ⟨p, q, hA0, _⟩ := id hW0
  have hA : DataW.TrodAll enc Try.prog W 0 (fun _ => true) true Try.f10.params.toList args.toList ds p := hA0
  rw [Try.params10] at hA hval
  obtain ⟨v0, v1, v2, d0, d1, d2, p0, p1, p2, rfl, rfl, hps, h0, h1, h2⟩ := trodAll_three hA
  obtain ⟨n0, rfl, rfl, _, wn0⟩ := open_int Try.underlying3 (hval 0 3 v0 rfl rfl) h0
  obtain ⟨n1, rfl, rfl, _, wn1⟩ := open_int Try.underlying5 (hval 1 5 v1 rfl rfl) h1
  have wb1 := bounds_u8 wn1
  obtain ⟨u1, rfl⟩ : ∃ u : UInt8, n1 = (u.toNat : Int) := ⟨UInt8.ofNat n1.toNat, by rw [UInt8.toNat_ofNat']; omega⟩
  obtain ⟨a2, rfl, ha2⟩ := open_u8s (hval 2 29 v2 rfl rfl) h2
  exact law_calls (tb := 4) Try.laidOut (tyOk_all (by kernel_rfl)) hW0 rfl rfl (by kernel_rfl) Try.underlying4 (macKeys_ret W n0 u1 a2 ha2)
theorem macKeys_holds : Rows.MacKeysSaid :=
  OpenClaim.holds_of_wide 10 Try.f10 rfl rfl rfl rfl rfl rfl rfl ⟨rfl, rfl, rfl, rfl, rfl⟩ rfl rfl rfl rfl rfl (by kernel_rfl) Try.func10 (joined_of Try.prog _ _ _ _ Try.laidOut Try.mapsRowed Try.stops Try.stopKnobs Try.stopsHeard Try.mayEnter Try.liftsFinal Try.make true Try.plainKeys (by kernel_rfl) (by kernel_rfl))
    (of_decide_eq_true (by kernel_rfl)) (by unfold Func.isWrapper; first | (rw [if_pos (by decide +kernel)]; kernel_rfl) | (rw [if_neg (by decide +kernel)]; exact ⟨rfl, rfl⟩))
    (fun os started H enc _ => macKeys_lifted os started H enc)
end Go.Proofs.Ytjmbbhnpfmblpaa
