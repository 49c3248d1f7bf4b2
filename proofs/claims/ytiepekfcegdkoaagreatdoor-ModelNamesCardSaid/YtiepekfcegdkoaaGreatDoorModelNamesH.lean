/- cofferlaw28.ModelNames, proved. -/
import Derived.Test.YtiepekfcegdkoaaGreatDoorModelNamesG7
import Derived.LaidHandle
import Derived.SevenTiedAt
import Derived.Test.YtiepekfcegdkoaaGreatDoorCards
import Derived.Test.YtiepekfcegdkoaaGreatDoorTie
namespace Go.Proofs.YtiepekfcegdkoaaGreatDoor
open Go Go.ChangeShapes Go.WideShapes Go.ChangeAt Go.RowKit Go.ChangeMaps
/-- the cells of a datum of numbers. -/
def datCells : DataW Unit → Array Value
  | .agg l => (l.map fun | .lit (.int k n) => Value.int k n | _ => .int .i64 0).toArray
  | _ => #[]
/-- a world that meets the condition: the settled one, the listed variables' cells laid. -/
def layOne (g : Nat) (d : DataW Unit) (h : Array Obj) : Array Obj := h.modify g fun
  | .cells _ t frozen => .cells (datCells d) t frozen
  | o => o
noncomputable def laidWorld (os : Os) : World :=
  let w := World.holding Tryz.prog os ⟨#[], #[], []⟩
  { w with heap := Rows.modelNamesRow.laid.foldl (fun h x => layOne ((Tryz.prog.globalNamed x.1).getD 0) x.2 h) w.heap }
set_option maxRecDepth 100000 in
theorem laidWorld_met (os : Os) (args : Array Value) : laidMetH Tryz.prog Rows.modelNamesRow.laid ((laidWorld os).forCall (fun _ _ => 0) ⟨#[], args, []⟩).memory :=
  laidMetH_of_parts (laidMet_of_run' 8 (by kernel_rfl) (by kernel_rfl)) (by kernel_rfl)
set_option maxRecDepth 100000 in
theorem modelNames_lifted (os : Os) (started : os.Started) (H : Type) (enc : TypeId × Value → H) :
    ReturnsInHanded {} Tryz.checked os 3 .any (fun w args => (Rows.modelNamesSpec.pre enc Tryz.prog Tryz.f3 Rows.modelNamesRow.domain false w args ∧ laidMetH Tryz.prog Rows.modelNamesRow.laid w) ∧ sizedMet enc Tryz.prog Tryz.f3 (OpenSpec.ofChange Rows.modelNamesSpec) false w args) (Rows.modelNamesSpec.post enc Tryz.prog Tryz.f3 false true false false) := by
  refine returnsInHanded_of_change_and (C := Tryz.checked) (X := fun w _ => laidMetH Tryz.prog Rows.modelNamesRow.laid w) (fun _ _ _ hh h => h.of_heap hh) Tryz.own started (by kernel_rfl) Tryz.func3
    (ChangeSpec.witness_at (enc := enc) (C := Tryz.checked) (os := os) (X := fun w _ => laidMetH Tryz.prog Rows.modelNamesRow.laid w) false (laidWorld os) #[.agg (Array.replicate 32 (.int .u8 0)), .string .empty, .slice none 0 0] 8 rfl (by kernel_rfl) (by kernel_rfl) (by kernel_rfl) (by kernel_rfl) (by kernel_rfl) (laidWorld_met os _)) ?_
  intro W base args ds gs before hval0 hW _ _ _ _
  have hval : ∀ (j : Nat) t v, Tryz.f3.params[j]? = some t → args[j]? = some v → Value.okWide Tryz.prog W .any base t v := hval0
  have hW0 : DataW.Whole enc Tryz.prog Tryz.f3.params.toList Rows.modelNamesSpec.vars false W args.toList ds gs before := hW
  obtain ⟨p, q, hA0, _⟩ := id hW0
  have hA : DataW.TrodAll enc Tryz.prog W 0 (fun _ => true) true Tryz.f3.params.toList args.toList ds p := hA0
  rw [Tryz.params3] at hA hval
  obtain ⟨v0, v1, v2, d0, d1, d2, p0, p1, p2, rfl, rfl, hps, h0, h1, h2⟩ := trodAll_three hA
  obtain ⟨l0, rfl, hl0⟩ := open_id (hval 0 23 v0 rfl rfl) h0
  obtain ⟨s1, rfl, rfl, rfl, hs1⟩ := open_string Tryz.underlying9 (hval 1 9 v1 rfl rfl) h1
  obtain ⟨a2, rfl, ha2⟩ := open_u8s (hval 2 24 v2 rfl rfl) h2
  exact law_calls (tb := 4) Tryz.laidOut (tyOk_all (by kernel_rfl)) hW0 rfl rfl (by kernel_rfl) Tryz.underlying4 (modelNames_ret W l0 hl0 s1.data.toList hs1 a2 ha2)
theorem modelNames_holds : Rows.ModelNamesSaid :=
  OpenClaim.holds_of_wide 3 Tryz.f3 rfl rfl rfl rfl rfl rfl rfl ⟨rfl, rfl, rfl, rfl, rfl⟩ rfl rfl rfl rfl rfl (by kernel_rfl) Tryz.func3 (joined_of Tryz.prog _ _ _ _ Tryz.laidOut Tryz.mapsRowed Tryz.stops Tryz.stopKnobs Tryz.stopsHeard Tryz.mayEnter Tryz.liftsFinal Tryz.make false Tryz.plainKeys (by kernel_rfl) (by kernel_rfl))
    (of_decide_eq_true (by kernel_rfl)) (by unfold Func.isWrapper; first | (rw [if_pos (by decide +kernel)]; kernel_rfl) | (rw [if_neg (by decide +kernel)]; exact ⟨rfl, rfl⟩))
    (fun os started H enc _ => modelNames_lifted os started H enc)
theorem modelNames_wants : ∀ (j : Nat) (t : TypeId), Tryz.f3.params[j]? = some t → Tryz.prog.wantsStandIn t = false := by
  intro j t ht
  rw [Tryz.params3] at ht
  have h : (#[23, 9, 24] : Array TypeId).all (fun t => !Tryz.prog.wantsStandIn t) = true := by kernel_rfl
  have hm := (Array.all_eq_true_iff_forall_mem.1 h) t (Array.mem_of_getElem? ht)
  simpa using hm
set_option maxRecDepth 100000 in
theorem modelNames_card : Rows.ModelNamesCardSaid :=
  Claim7.holds_tied_plain_at .later [] [.data, .data, .data] true (true, "98794c1abbdecfb5b17112aa0b759af7e4a7a7387123d3aa49c1fc68c636d104") false
    modelNames_holds (fun _ h => by cases h) (by kernel_rfl) (fun _ h => by cases h) modelNames_row_tie rfl ⟨rfl, rfl⟩ (by kernel_rfl) rfl
    (fun f fn hf hfn => by
      obtain rfl : f = 3 := Option.some.inj ((show Tryz.prog.funcNamed "coffer/cofferlaw28.ModelNames" = some 3 by kernel_rfl).symm.trans hf) |>.symm
      obtain rfl : fn = Tryz.f3 := (Option.some.inj (Tryz.func3.symm.trans hfn)).symm
      exact ⟨by kernel_rfl, modelNames_wants⟩)
    (by kernel_rfl)
end Go.Proofs.YtiepekfcegdkoaaGreatDoor
