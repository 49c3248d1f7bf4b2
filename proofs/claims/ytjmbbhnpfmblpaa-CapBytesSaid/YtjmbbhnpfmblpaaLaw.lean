import Derived.Test.YtjmbbhnpfmblpaaSha7
import Derived.Test.YtjmbbhnpfmblpaaRows
import Derived.ProofKit
import Derived.Deep.Slices
/- The frame of each statement: true is handed back, and nothing that was there has turned; arguments opened. -/
namespace Go.Proofs.Ytjmbbhnpfmblpaa
open Go Go.ChangeShapes Go.WideShapes Go.ChangeAt Go.RowKit
theorem Try.own : ownKnob Try.prog.godebug = none := by kernel_rfl
theorem Try.laidOut : laidOutB Try.prog = true := by kernel_rfl
section
variable {H : Type} {enc : TypeId × Value → H} {P : Program}
theorem trodAll_stays (hl : laidOutB P = true) {W W' : World} (hb : Below W.heap.size W W') :
    ∀ {ts : List TypeId} {vs : List Value} {ds : List (DataW H)} {ps : List MemPlace}, (∀ t ∈ ts, P.readableRec t = true ∧ t < P.types.size) → DataW.TrodAll enc P W 0 (fun _ => true) true ts vs ds ps → (∀ x ∈ ps, x.block < W.heap.size) →
      DataW.TrodAll enc P W' 0 (fun b => decide (b < W.heap.size)) true ts vs ds ps
  | [], _, _, _, _, h, _ => by
    obtain ⟨rfl, rfl, rfl⟩ := trodAll_nil h
    exact trodAll_mk0
  | t :: ts, _, _, _, ht, h, hlt => by
    obtain ⟨v, vs, d, ds, p, q, rfl, rfl, rfl, h1, h2⟩ := trodAll_cons h
    exact ⟨p, q, Below.trod hl (ht t (by simp)).1 (ht t (by simp)).2 h1 hb (fun x hx => hlt x (by simp [hx])), trodAll_stays hl hb (fun u hu => ht u (by simp [hu])) h2 (fun x hx => hlt x (by simp [hx])), rfl⟩
theorem trod_bool (tb : TypeId) (hb : P.underlying tb = some .bool) (w : World) (b : Bool) (base : Nat) (sp : Nat → Bool) (held : Bool) : DataW.Trod enc P w base sp held tb (.bool b) (.lit (.bool b)) [] := ⟨1, by simp [DataW.trod, hb, Value.cells]⟩
/-- what a law leaves: true, and all as it was. -/
theorem post_law {f : Func} {s : ChangeSpec} {apart fresh handsOn : Bool} {W W' : World} {args : Array Value} {ds gs : List (DataW H)} {before : List MemPlace} {tb : TypeId} (hl : laidOutB P = true)
    (hts : ∀ t ∈ f.params.toList, P.readableRec t = true ∧ t < P.types.size) (hW : DataW.Whole enc P f.params.toList s.vars apart W args.toList ds gs before) (hH : Hp W W' [] []) (hv : s.vars = [])
    (hs : s.fn H ds = { results := [.lit (.bool true)], args := ds }) (hr : f.resultTypes = #[tb]) (hb : P.underlying tb = some .bool) : s.post enc P f apart fresh handsOn false W args (.bool true) W' := by
  have hlt := hW.lt
  have hW' := hW
  obtain ⟨p, q, hA, hV, rfl, _, _⟩ := hW
  rw [hv] at hV
  cases gs with
  | cons g gs => simp [DataW.TrodVars] at hV
  | nil =>
    have hq : q = [] := by simpa [DataW.TrodVars] using hV
    subst hq
    have hbel := hH.below
    have hs' : s.fn H (ds ++ []) = { results := [.lit (.bool true)], args := ds } := by rw [List.append_nil]; exact hs
    have hvl : (Value.bool true).resultList f.resultTypes.size = [.bool true] := by rw [hr]; rfl
    refine ⟨ds, [], p ++ [], [], p, [], hW', ?_, ?_, ?_, hbel.frame _, fun h => by cases h⟩
    · rw [hs', hvl, hr]
      exact trodAll_mk1 (trod_bool tb hb W' true _ _ _)
    · rw [hs']
      exact trodAll_stays hl hbel hts hA (fun x hx => hlt x (by simp [hx]))
    · rw [hs', hv]; rfl
theorem law_calls {f : FuncId} {fn : Func} {s : ChangeSpec} {apart fresh handsOn : Bool} {W : World} {args : Array Value} {ds gs : List (DataW H)} {before : List MemPlace} {tb : TypeId} (hl : laidOutB P = true)
    (hts : ∀ t ∈ fn.params.toList, P.readableRec t = true ∧ t < P.types.size) (hW : DataW.Whole enc P fn.params.toList s.vars apart W args.toList ds gs before) (hv : s.vars = [])
    (hs : s.fn H ds = { results := [.lit (.bool true)], args := ds }) (hr : fn.resultTypes = #[tb]) (hb : P.underlying tb = some .bool)
    (h : Ret P f args.toList W fun v w' => v = .bool true ∧ Hp W w' [] []) : Calls P f args W fun e W' => ∃ v, e = .returned v ∧ s.post enc P fn apart fresh handsOn false W args v W' := by
  have h' : Calls P f args W fun e w' => ∃ v, e = .returned v ∧ v = .bool true ∧ Hp W w' [] [] := by simpa [Ret] using h
  exact Calls.mono h' fun e w' ⟨v, he, hv', hH⟩ => ⟨v, he, by subst hv'; exact post_law hl hts hW hH hv hs hr hb⟩
end
/-- the facts on the types of a law's parameters. -/
def tyOk (P : Program) (ts : List TypeId) : Bool := ts.all fun t => P.readableRec t && decide (t < P.types.size)
theorem tyOk_all {ts : List TypeId} (h : tyOk Try.prog ts = true) : ∀ t ∈ ts, Try.prog.readableRec t = true ∧ t < Try.prog.types.size := by
  intro t ht
  have := List.all_eq_true.1 h t ht
  simpa using this
theorem cut_of (P : Program) (cs : List Char) (h : P.initOrder = String.ofList cs) (hb : ((behindMainWord (wordsSigns cs)).head? == some "cut".toList) = true) : ∃ rest, behindMainWord (wordsSigns P.initOrder.toList) = "cut".toList :: rest := by
  rw [h, String.toList_ofList]
  generalize behindMainWord (wordsSigns cs) = l at hb
  cases l with
  | nil => simp at hb
  | cons c r => exact ⟨r, by simpa using hb⟩
set_option maxRecDepth 100000 in
theorem Try.cut : ∃ rest, behindMainWord (wordsSigns Try.prog.initOrder.toList) = "cut".toList :: rest := by
  refine cut_of Try.prog _ rfl ?_
  kernel_rfl
theorem strip_cut (rest : List (List Char)) : stripLifts liftWords ("cut".toList :: rest) = ([], "cut".toList :: rest) := by
  kernel_rfl
theorem headLifts_cut {P : Program} {rest : List (List Char)} (h : behindMainWord (wordsSigns P.initOrder.toList) = "cut".toList :: rest) : P.headLifts = [] := by
  unfold Program.headLifts
  rw [h, strip_cut]
  simp
theorem lifts_cut {P : Program} {rest : List (List Char)} (h : behindMainWord (wordsSigns P.initOrder.toList) = "cut".toList :: rest) : P.liftsFinal = false := by
  unfold Program.liftsFinal
  rw [h, headLifts_cut h]
  simp
theorem make_cut {P : Program} {rest : List (List Char)} (h : behindMainWord (wordsSigns P.initOrder.toList) = "cut".toList :: rest) : P.make = some .cut := by
  unfold Program.make
  rw [h]
  simp
theorem enter_cut {P : Program} {rest : List (List Char)} (h : behindMainWord (wordsSigns P.initOrder.toList) = "cut".toList :: rest) (h1 : P.laysLater = false) (h2 : P.bearsReflect = false) (h3 : P.doorFits [] = true) : P.mayEnter = true := by
  unfold Program.mayEnter
  rw [h]
  simp only [strip_cut, h1, h2, h3]
  simp
theorem joined_of (P : Program) (f : FuncId) (fn : Func) (s : ChangeSpec) (c : OpenClaim) (h1 : laidOutB P = true) (h2 : mapsRowed P = true) (h3 : P.stops = []) (h4 : P.stopKnobs = []) (h5 : P.stopsHeard = true) (h6 : P.mayEnter = true) (h7: P.liftsFinal = false) (h8 : P.make = some .cut) (pk : Bool) (h9 : P.plainKeys = pk)
    (r : (c.wf (OpenSpec.ofChange s) && fn.params.all (P.readableRec ·) && namedTie P c.named s.vars &&
  (c.stops == []) && (c.knobs == []) && 
  (c.inPlace == P.inPlace f) && (c.unfollowed == P.unfollowed f) && (c.recurses == P.recurses f) && (c.named == P.varsNamed f)) = true)
    (r2 : ((c.maps == (fn.params.toList ++ s.plain.varTypes P).any (P.mapsRec ·)) && (c.ifaces == (fn.params.toList ++ s.plain.varTypes P).any (P.ifacesRec ·)) && (c.mapsOut == P.mapsAmong fn.resultTypes.toList) &&
  (c.loops == (fn.params.toList ++ s.plain.varTypes P).any (P.loopsFrom ·)) && (c.wideKeys == (fn.params.toList ++ s.plain.varTypes P ++ fn.resultTypes.toList).any (P.wideKeysFrom ·)) &&
  s.vars.all (P.varReadable ·) && fn.resultTypes.all (fun t => P.readableRec t && decide (t < P.types.size)) && (c.ifacesOut == fn.resultTypes.toList.any (P.ifacesRec ·)) && (c.loopsOut == fn.resultTypes.toList.any (P.loopsFrom ·)) && (c.plainKeys == pk) && c.shortTexts.isNone && (c.lifted == false) && (some Make.cut == some c.make) && (c.kinds == (if c.domain.isEmpty then [] else fn.params.toList.map fun t => match P.underlying t with | some (.int k) => some k | _ => none)) && (c.pinned == c.pinnedBy) &&
  (c.veiled == (fn.params.toList ++ s.plain.varTypes P ++ fn.resultTypes.toList).any (P.veiledRec ·)) && c.veiledFits P fn.params.toList (fn.params.toList ++ s.plain.varTypes P ++ fn.resultTypes.toList)) = true) : joinedFacts P f fn s c = true := by
  simp only [Bool.and_eq_true] at r r2
  obtain ⟨⟨⟨⟨⟨⟨⟨⟨k1, k4⟩, k5⟩, k6⟩, k8⟩, k10⟩, k11⟩, k12⟩, k13⟩ := r
  obtain ⟨⟨⟨⟨⟨⟨⟨⟨⟨⟨⟨⟨⟨⟨⟨⟨m1, m2⟩, m3⟩, m4⟩, m5⟩, m6⟩, m7⟩, m8⟩, m9⟩, m10⟩, m11⟩, m12⟩, m13⟩, m14⟩, m15⟩, m16⟩, m17⟩ := r2
  unfold joinedFacts
  rw [h3, h4, h7, h8, h9]
  simp only [Bool.and_eq_true]
  exact ⟨⟨⟨⟨⟨⟨⟨⟨⟨⟨⟨⟨⟨⟨⟨⟨⟨⟨⟨⟨⟨⟨⟨⟨⟨⟨⟨⟨⟨⟨⟨k1, h1⟩, h2⟩, k4⟩, k5⟩, k6⟩, rfl⟩, k8⟩, rfl⟩, k10⟩, k11⟩, k12⟩, k13⟩, m1⟩, m2⟩, m3⟩, m4⟩, m5⟩, m6⟩, m7⟩, m8⟩, m9⟩, m10⟩, m11⟩, h5⟩, h6⟩, m12⟩, m13⟩, m14⟩, m15⟩, m16⟩, m17⟩
theorem Try.mapsRowed : mapsRowed Try.prog = true := by kernel_rfl
theorem Try.stops : Try.prog.stops = [] := by kernel_rfl
theorem Try.stopKnobs : Try.prog.stopKnobs = [] := by kernel_rfl
theorem Try.stopsHeard : Try.prog.stopsHeard = true := by kernel_rfl
theorem Try.laysLater : Try.prog.laysLater = false := by kernel_rfl
theorem Try.bearsReflect : Try.prog.bearsReflect = false := by kernel_rfl
theorem Try.doorFits : Try.prog.doorFits [] = true := by kernel_rfl
theorem Try.mayEnter : Try.prog.mayEnter = true := Try.cut.elim fun _ h => enter_cut h Try.laysLater Try.bearsReflect Try.doorFits
theorem Try.liftsFinal : Try.prog.liftsFinal = false := Try.cut.elim fun _ h => lifts_cut h
theorem Try.make : Try.prog.make = some .cut := Try.cut.elim fun _ h => make_cut h
theorem Try.plainKeys : Try.prog.plainKeys = true := by kernel_rfl
end Go.Proofs.Ytjmbbhnpfmblpaa
