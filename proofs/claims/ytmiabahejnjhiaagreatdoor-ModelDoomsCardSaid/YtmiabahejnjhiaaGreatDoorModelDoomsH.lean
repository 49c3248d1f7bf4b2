/- cofferlaw28.ModelDooms: a doomed snapshot is swept just when its time has come, wherever time and delay lie. Conditions: none; the listed package variables are tied to the program. -/
import Derived.Test.YtmiabahejnjhiaaGreatDoorModelDoomsG8
import Derived.LaidHandle
import Derived.LaidSub
import Derived.SevenTiedAt
import Derived.Test.YtmiabahejnjhiaaGreatDoorCards
import Derived.Test.YtmiabahejnjhiaaGreatDoorTie
namespace Go.Proofs.YtmiabahejnjhiaaGreatDoor
open Go Go.ChangeShapes Go.WideShapes Go.ChangeAt Go.RowKit Go.ChangeMaps
/-- the cells of a datum of numbers. -/
def datCells : DataW Unit → Array Value
  | .agg l => (l.map fun | .lit (.int k n) => Value.int k n | _ => .int .i64 0).toArray
  | _ => #[]
/-- a world that meets the condition: the settled one, the listed variables' cells laid. -/
def layOne (g : Nat) (d : DataW Unit) (h : Array Obj) : Array Obj := h.modify g fun
  | .cells _ t frozen => .cells (datCells d) t frozen
  | o => o
noncomputable def laidWorld (os : Os) : World :=
  let w := World.holding Tryz.prog os ⟨#[], #[], []⟩
  { w with heap := Rows.modelDoomsRow.laid.foldl (fun h x => layOne ((Tryz.prog.globalNamed x.1).getD 0) x.2 h) w.heap }
set_option maxRecDepth 100000 in
theorem laidWorld_met (os : Os) (args : Array Value) : laidMetH Tryz.prog Rows.modelDoomsRow.laid ((laidWorld os).forCall (fun _ _ => 0) ⟨#[], args, []⟩).memory :=
  laidMetH_of_parts (laidMet_of_run' 8 (by kernel_rfl) (by kernel_rfl)) (by kernel_rfl)
set_option maxRecDepth 100000 in
theorem tab_of_laid {W : World} (h : laidMetH Tryz.prog Rows.modelDoomsRow.laid W) : Tab W := by
  have h1 := h.filter (fun x => x.1 == "internal/strconv.uint64pow10")
  have e : Rows.modelDoomsRow.laid.filter (fun x => x.1 == "internal/strconv.uint64pow10") = [("internal/strconv.uint64pow10", Lib.tabData .u64 Lib.pow10Tab)] := by
    simp [Rows.modelDoomsRow, List.filter]; rfl
  rw [e] at h1
  have h2 : laidMet Tryz.prog [("internal/strconv.uint64pow10", Lib.tabData .u64 Lib.pow10Tab)] W := h1
  obtain ⟨ps, ⟨g, t, cs, fuel, p, q, hg, ht, hvar, hd, h5, h6⟩, h7⟩ := h2
  have hG : (Tryz.prog.globalNamed "internal/strconv.uint64pow10").bind (fun g => (Tryz.prog.globals[g]?).map (·.type)) = some 264 := by kernel_rfl
  rw [hg] at hG
  have ht2 : t = 264 := by rw [Option.bind_some, ht] at hG; exact Option.some.inj hG
  subst ht2
  unfold Tab Lib.TabIs
  rw [hvar, ← Lib.cells_of_tab Tryz.underlying264 Tryz.underlying25 (by kernel_rfl) (by kernel_rfl) hd]
set_option maxRecDepth 100000 in
theorem modelDooms_lifted (os : Os) (started : os.Started) (H : Type) (enc : TypeId × Value → H) :
    ReturnsInHanded {} Tryz.checked os 3 .any (fun w args => (Rows.modelDoomsSpec.pre enc Tryz.prog Tryz.f3 Rows.modelDoomsRow.domain false w args ∧ laidMetH Tryz.prog Rows.modelDoomsRow.laid w) ∧ sizedMet enc Tryz.prog Tryz.f3 (OpenSpec.ofChange Rows.modelDoomsSpec) false w args) (Rows.modelDoomsSpec.post enc Tryz.prog Tryz.f3 false true false false) := by
  refine returnsInHanded_of_change_and (C := Tryz.checked) (X := fun w _ => laidMetH Tryz.prog Rows.modelDoomsRow.laid w) (fun _ _ _ hh h => h.of_heap hh) Tryz.own started (by kernel_rfl) Tryz.func3
    (ChangeSpec.witness_at (enc := enc) (C := Tryz.checked) (os := os) (X := fun w _ => laidMetH Tryz.prog Rows.modelDoomsRow.laid w) false (laidWorld os) #[.int .i64 0, .int .i64 0, .int .i64 0, .bool false] 8 rfl (by kernel_rfl) (by kernel_rfl) (by kernel_rfl) (by kernel_rfl) (by kernel_rfl) (laidWorld_met os _)) ?_
  intro W base args ds gs before hval0 hW _ _ _ _
  have hval : ∀ (j : Nat) t v, Tryz.f3.params[j]? = some t → args[j]? = some v → Value.okWide Tryz.prog W .any base t v := hval0
  have hW0 : DataW.Whole enc Tryz.prog Tryz.f3.params.toList Rows.modelDoomsSpec.vars false W args.toList ds gs before := hW
  obtain ⟨p, q, hA0, _⟩ := id hW0
  have hA : DataW.TrodAll enc Tryz.prog W 0 (fun _ => true) true Tryz.f3.params.toList args.toList ds p := hA0
  rw [Tryz.params3] at hA hval
  obtain ⟨v0, v1, v2, v3, d0, d1, d2, d3, p0, p1, p2, p3, rfl, rfl, hps, h0, h1, h2, h3⟩ := trodAll_four hA
  obtain ⟨n0, rfl, rfl, _, wn0⟩ := open_int Tryz.underlying2 (hval 0 2 v0 rfl rfl) h0
  have wb0 := bounds_i64 wn0
  obtain ⟨n1, rfl, rfl, _, wn1⟩ := open_int Tryz.underlying2 (hval 1 2 v1 rfl rfl) h1
  have wb1 := bounds_i64 wn1
  obtain ⟨n2, rfl, rfl, _, wn2⟩ := open_int Tryz.underlying2 (hval 2 2 v2 rfl rfl) h2
  have wb2 := bounds_i64 wn2
  obtain ⟨b3, rfl, rfl, rfl⟩ := open_bool Tryz.underlying4 (hval 3 4 v3 rfl rfl) h3
  exact law_calls (tb := 4) Tryz.laidOut (tyOk_all (by kernel_rfl)) hW0 rfl rfl (by kernel_rfl) Tryz.underlying4 (modelDooms_ret W n0 wb0 n1 wb1 n2 wb2 b3 (tab_of_laid (by assumption)))
theorem modelDooms_holds : Rows.ModelDoomsSaid :=
  OpenClaim.holds_of_wide 3 Tryz.f3 rfl rfl rfl rfl rfl rfl rfl ⟨rfl, rfl, rfl, rfl, rfl⟩ rfl rfl rfl rfl rfl (by kernel_rfl) Tryz.func3 (joined_of Tryz.prog _ _ _ _ Tryz.laidOut Tryz.mapsRowed Tryz.stops Tryz.stopKnobs Tryz.stopsHeard Tryz.mayEnter Tryz.liftsFinal Tryz.make false Tryz.plainKeys (by kernel_rfl) (by kernel_rfl))
    (of_decide_eq_true (by kernel_rfl)) (by unfold Func.isWrapper; first | (rw [if_pos (by decide +kernel)]; kernel_rfl) | (rw [if_neg (by decide +kernel)]; exact ⟨rfl, rfl⟩))
    (fun os started H enc _ => modelDooms_lifted os started H enc)
theorem modelDooms_wants : ∀ (j : Nat) (t : TypeId), Tryz.f3.params[j]? = some t → Tryz.prog.wantsStandIn t = false := by
  intro j t ht
  rw [Tryz.params3] at ht
  have h : (#[2, 2, 2, 4] : Array TypeId).all (fun t => !Tryz.prog.wantsStandIn t) = true := by kernel_rfl
  have hm := (Array.all_eq_true_iff_forall_mem.1 h) t (Array.mem_of_getElem? ht)
  simpa using hm
set_option maxRecDepth 100000 in
theorem modelDooms_card : Rows.ModelDoomsCardSaid :=
  Claim7.holds_tied_plain_at .later [] [.data, .data, .data] true (true, "b31e34313f9f6f85038978f870731fccc4fe7b8d4740de5db0e1ea3d277dd279") false
    modelDooms_holds (fun _ h => by cases h) (by kernel_rfl) (fun _ h => by cases h) modelDooms_row_tie rfl ⟨rfl, rfl⟩ (by kernel_rfl) rfl
    (fun f fn hf hfn => by
      obtain rfl : f = 3 := Option.some.inj ((show Tryz.prog.funcNamed "coffer/cofferlaw28.ModelDooms" = some 3 by kernel_rfl).symm.trans hf) |>.symm
      obtain rfl : fn = Tryz.f3 := (Option.some.inj (Tryz.func3.symm.trans hfn)).symm
      exact ⟨by kernel_rfl, modelDooms_wants⟩)
    (by kernel_rfl)
end Go.Proofs.YtmiabahejnjhiaaGreatDoor
