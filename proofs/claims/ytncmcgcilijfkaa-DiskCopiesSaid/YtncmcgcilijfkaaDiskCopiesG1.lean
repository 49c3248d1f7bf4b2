/- Lemmas for the statement DiskCopies, part 1: rules of operations, walks through functions, plain laws. -/
import Derived.Below
import Derived.Calls
import Derived.ChangeKeysEq
import Derived.Deep.AppendSrc
import Derived.Deep.MidRow
import Derived.Deep.Slices
import Derived.DeepKeys3
import Derived.Ground.GgzProg
import Derived.Ground.SlgmProg
import Derived.Ground.SlmcProg
import Derived.IntWalk
import Derived.Laws.CopyRow
import Derived.Laws.Cover3
import Derived.Laws.IdiomRangeMap
import Derived.Laws.IdiomStrings
import Derived.Laws.MakeOwn
import Derived.Laws.NewBlocks
import Derived.Laws.StructEq
import Derived.Laws.Tables
import Derived.Maps.RangeRun
import Derived.OpenShut
import Derived.OrdersHeld
import Derived.ProofKit
import Derived.Shelf.SlIterI.Keys
import Derived.Shelf.SlIterI.Sorted
import Derived.Shelf.SlIterI.Stops
import Derived.Shelf.SlMaps.Clone
import Derived.Shelf.SortM.Plain
import Derived.Shelf.SortM.SortNone
import Derived.StillTail
import Derived.Test.YtncmcgcilijfkaaProg
import Derived.Test.YtncmcgcilijfkaaRows
import Derived.WalkKit
import Derived.WideKeyRuns
namespace Go.Proofs.Ytncmcgcilijfkaa
open Go
/-- A frame of n slots, as a function of the slot. -/
def mk (n : Nat) (σ : Nat → Value) : Act := ⟨Array.ofFn (n := n) (fun i => σ i.val), []⟩
def up (σ : Nat → Value) (d : Nat) (v : Value) : Nat → Value := fun t => bif Nat.beq t d then v else σ t
def ev (n : Nat) (σ : Nat → Value) : Operand → Value
  | .tmp t => bif Nat.blt t n then σ t else undef
  | .const v => v
  | .global g => .pointer (some ⟨g, 0, none⟩)
  | .func f => .func (.func f) #[] #[]
def evs (n : Nat) (σ : Nat → Value) : List Operand → List Value
  | [] => []
  | x :: l => ev n σ x :: evs n σ l
theorem evs_eq (n σ) : ∀ l : List Operand, evs n σ l = l.map (ev n σ)
  | [] => rfl
  | x :: l => by rw [evs, evs_eq n σ l, List.map_cons]
def pvs (n : Nat) (σ : Nat → Value) : List (Nat × Operand) → List (Nat × Value)
  | [] => []
  | x :: l => (x.1, ev n σ x.2) :: pvs n σ l
theorem pvs_eq (n σ) : ∀ l : List (Nat × Operand), pvs n σ l = l.map fun (i, x) => (i, ev n σ x)
  | [] => rfl
  | x :: l => by rw [pvs, pvs_eq n σ l, List.map_cons]
theorem mk_put (n σ d v) : (mk n σ).put (some d) v = mk n (up σ d v) := by
  simp only [Act.put, mk, Act.mk.injEq, and_true]
  apply Array.ext
  · simp
  · intro i h1 h2
    simp only [Array.getElem_ofFn, up]
    rw [Array.getElem_setIfInBounds]
    · by_cases h : d = i
      · subst h; simp
      · have : Nat.beq i d = false := by
          cases hb : Nat.beq i d
          · rfl
          · exact absurd (Nat.eq_of_beq_eq_true hb).symm h
        rw [if_neg h, this]
        exact Array.getElem_ofFn _
    · simpa using h2
theorem mk_eval (n σ) (x : Operand) : (mk n σ).eval x = ev n σ x := by
  cases x <;> simp only [Act.eval, ev, mk]
  rename_i t
  by_cases h : t < n
  · have : Nat.blt t n = true := by rw [Nat.blt_eq]; exact h
    simp [this, h]
  · have : Nat.blt t n = false := by
      cases hb : Nat.blt t n
      · rfl
      · exact absurd (by rw [Nat.blt_eq] at hb; exact hb) h
    simp [this, h]
theorem mk_evalf (n σ) : (mk n σ).eval = ev n σ := funext (mk_eval n σ)
theorem up_self (σ : Nat → Value) (d : Nat) : up σ d (σ d) = σ := by
  funext t
  simp only [up]
  cases hb : Nat.beq t d
  · rfl
  · rw [Nat.eq_of_beq_eq_true hb]; rfl
theorem up_of (σ : Nat → Value) (d : Nat) (v : Value) (h : σ d = v) : up σ d v = σ := by subst h; exact up_self σ d
/-- several slots at once. -/
def ups (σ : Nat → Value) : List (Nat × Value) → (Nat → Value)
  | [] => σ
  | p :: l => up (ups σ l) p.1 p.2
def fits (σ : Nat → Value) : List (Nat × Value) → Prop
  | [] => True
  | p :: l => σ p.1 = p.2 ∧ fits σ l
theorem ups_of_fits (σ : Nat → Value) : ∀ l, fits σ l → ups σ l = σ
  | [], _ => rfl
  | p :: l, h => by
    rw [ups, ups_of_fits σ l h.2]
    exact up_of _ _ _ h.1
/-- A function's frame at its beginning. -/
theorem enter_mk (args : List Value) (n : Nat) (h : args.length ≤ n) :
    (⟨args.toArray ++ Array.replicate (n - args.toArray.size) undef, []⟩ : Act) = mk n (fun t => args.getD t undef) := by
  simp only [mk, Act.mk.injEq, and_true]
  apply Array.ext
  · simp; omega
  · intro i h1 h2
    simp only [Array.getElem_ofFn]
    by_cases hi : i < args.length
    · rw [Array.getElem_append_left (by simpa using hi)]
      simp [List.getD, hi]
    · rw [Array.getElem_append_right (by simpa using hi)]
      simp [List.getD, List.getElem?_eq_none (Nat.le_of_not_lt hi)]
theorem calls_mk {P : Program} {f : FuncId} {fn : Func} {c : Code} {args : List Value} {w : World} {R : Ending → World → Prop} {n : Nat}
    (hf : P.funcs[f]? = some fn) (hb : fn.body = some c) (hn : fn.ntmps = n) (hle : args.length ≤ n)
    (h : c.wp P (bodyPost P fn R) (mk n (fun t => args.getD t undef)) w) : Calls P f args.toArray w R := by
  refine calls_of_wp hf hb ?_
  rw [hn, enter_mk args n hle]
  exact h
section
variable {P : Program} {Q : Exit → Act → World → Prop} {n : Nat} {σ : Nat → Value} {w : World} {K : Act → World → Prop}
  {ty : TypeId} {pos : String} {aft : Array Edge} {g : Option (Nat × Bool)} {d : Nat}
theorem c_region {id : Nat} {l : List Oper} {a : Act} (h : wpList P l.toArray Q l a w) : (Code.region id l.toArray false).wp P Q a w := wp_region_lit h
theorem c_seq {x y : Code} {a : Act} (h : x.wp P (Exit.then (y.wp P Q) Q) a w) : (Code.seq x y).wp P Q a w := wp_seq h
/-- one operation of a list, not guarded. -/
theorem l_op {ops : Array Oper} {rest : List Oper} {op : Op} {dst : Option Tmp} {a : Act}
    (h : Oper.wp P ⟨dst, op, ty, pos, aft, none⟩ a w (wpList P ops Q rest) Q) : wpList P ops Q (⟨dst, op, ty, pos, aft, none⟩ :: rest) a w := by
  unfold wpList
  rw [if_pos (by simp [Region.wanted])]
  exact .inl h
theorem yielded_mk (ops : Array Oper) (j d : Nat) (h : (ops[j]?).bind (·.dst) = some d) (b : Bool) (hd : Nat.blt d n = true) (hv : σ d = .bool b) :
    yielded ops (mk n σ).tmps j = some b := by
  have hd' : d < n := by rw [Nat.blt_eq] at hd; exact hd
  unfold yielded
  simp [h, mk, hd', hv]
/-- .. guarded, and wanted. -/
theorem l_yes {ops : Array Oper} {rest : List Oper} {op : Op} {dst : Option Tmp} {j e : Nat} {b : Bool}
    (he : (ops[j]?).bind (·.dst) = some e) (hb : Nat.blt e n = true) (hv : σ e = .bool b)
    (h : Oper.wp P ⟨dst, op, ty, pos, aft, some (j, b)⟩ (mk n σ) w (wpList P ops Q rest) Q) : wpList P ops Q (⟨dst, op, ty, pos, aft, some (j, b)⟩ :: rest) (mk n σ) w := by
  have hw := yielded_mk ops j e he b hb hv
  unfold wpList
  rw [if_pos (by simp [Region.wanted, hw])]
  exact .inl h
/-- .. guarded, and not wanted. -/
theorem l_no {ops : Array Oper} {rest : List Oper} {op : Op} {j e : Nat} {b c : Bool}
    (he : (ops[j]?).bind (·.dst) = some e) (hb : Nat.blt e n = true) (hv : σ e = .bool c) (hc : (c == b) = false)
    (h : wpList P ops Q rest (mk n (up σ d undef)) w) : wpList P ops Q (⟨some d, op, ty, pos, aft, some (j, b)⟩ :: rest) (mk n σ) w := by
  have hw := yielded_mk ops j e he c hb hv
  unfold wpList
  rw [if_neg (by simp [Region.wanted, hw]; intro h'; subst h'; simp at hc), mk_put]
  exact h
theorem l_end {ops : Array Oper} {y : Code} {a : Act} (h : y.wp P Q a w) : wpList P ops (Exit.then (y.wp P Q) Q) [] a w := h
theorem l_nil {ops : Array Oper} {a : Act} (h : Q .normal a w) : wpList P ops Q [] a w := h
theorem c_if {c : Operand} {x y : Code} {b : Bool} (hc : ev n σ c = .bool b) (ht : b = true → x.wp P Q (mk n σ) w) (hf : b = false → y.wp P Q (mk n σ) w) :
    (Code.cond c x y).wp P Q (mk n σ) w := wp_cond_split ((mk_eval n σ c).trans hc) ht hf
theorem c_ifD {c : Operand} {x y : Code} {p : Prop} [Decidable p] (hc : ev n σ c = .bool (decide p)) (ht : p → x.wp P Q (mk n σ) w) (hf : ¬ p → y.wp P Q (mk n σ) w) :
    (Code.cond c x y).wp P Q (mk n σ) w := c_if hc (fun h => ht (of_decide_eq_true h)) (fun h => hf (of_decide_eq_false h))
theorem c_yes {c : Operand} {x y : Code} (hc : ev n σ c = .bool true) (ht : x.wp P Q (mk n σ) w) : (Code.cond c x y).wp P Q (mk n σ) w :=
  wp_cond_true ((mk_eval n σ c).trans hc) ht
theorem c_no {c : Operand} {x y : Code} (hc : ev n σ c = .bool false) (ht : y.wp P Q (mk n σ) w) : (Code.cond c x y).wp P Q (mk n σ) w :=
  wp_cond_false ((mk_eval n σ c).trans hc) ht
theorem c_skip {a : Act} (h : Q .normal a w) : Code.skip.wp P Q a w := wp_skip h
theorem c_ret {a : Act} (h : Q .ret a w) : Code.ret.wp P Q a w := wp_ret h
theorem c_exit {id : Nat} {a : Act} (h : Q (.exit id) a w) : (Code.exit id).wp P Q a w := wp_exit h
theorem c_block {id : Nat} {c : Code} {a : Act} (h : c.wp P (Exit.inBlock id Q) a w) : (Code.block id c).wp P Q a w := wp_block h
/-- A cut: of the frame only the listed slots are kept. -/
theorem cut {c : Code} {ι : Type} (pat : ι → List (Nat × Value)) (A : ι → World → Prop) (i : ι) (hp : fits σ (pat i)) (hA : A i w)
    (h : ∀ i τ w, A i w → c.wp P Q (mk n (ups τ (pat i))) w) : c.wp P Q (mk n σ) w := by
  have := h i σ w hA
  rwa [ups_of_fits σ _ hp] at this
/-- a frame of which the listed slots are known, for some i. -/
def Mid {ι : Type} (n : Nat) (pat : ι → List (Nat × Value)) (A : ι → World → Prop) (a : Act) (w : World) : Prop := ∃ i τ, a = mk n (ups τ (pat i)) ∧ A i w
/-- .. and the measure has gone down. -/
def Rnd {ι : Type} (n : Nat) (pat : ι → List (Nat × Value)) (A : ι → World → Prop) (μ : ι → Nat) (m : Nat) (a : Act) (w : World) : Prop := ∃ j τ, a = mk n (ups τ (pat j)) ∧ A j w ∧ μ j < m
theorem least (p : Nat → Prop) : ∀ k, p k → ∃ m, p m ∧ ∀ j, p j → m ≤ j := by
  intro k
  induction k using Nat.strongRecOn with
  | _ k ih =>
    intro hk
    by_cases h : ∃ j, j < k ∧ p j
    · obtain ⟨j, hj, hp⟩ := h; exact ih j hj hp
    · exact ⟨k, hk, fun j hj => Nat.le_of_not_lt fun hlt => h ⟨j, hlt, hj⟩⟩
/-- A loop: what holds of the listed slots and of the world at every head; a measure. -/
theorem c_loop {c : Code} {ι : Type} (pat : ι → List (Nat × Value)) (A : ι → World → Prop) (μ : ι → Nat) (i : ι) (hp : fits σ (pat i)) (hA : A i w)
    (h : ∀ i τ w, A i w → c.wp P (Exit.then (Rnd n pat A μ (μ i)) Q) (mk n (ups τ (pat i))) w) :
    (Code.loop c).wp P Q (mk n σ) w := by
  classical
  let I : Act → World → Prop := fun a w => ∃ i τ, a = mk n (ups τ (pat i)) ∧ A i w
  let p : Act → World → Nat → Prop := fun a w k => ∃ i τ, a = mk n (ups τ (pat i)) ∧ A i w ∧ μ i = k
  have ex : ∀ a w, I a w → ∃ m, p a w m ∧ ∀ k, p a w k → m ≤ k := fun a w ⟨i, τ, h1, h2⟩ => least (p a w) (μ i) ⟨i, τ, h1, h2, rfl⟩
  let M : Act → World → Nat := fun a w => if h : I a w then Classical.choose (ex a w h) else 0
  have hM : ∀ a w, I a w → p a w (M a w) ∧ ∀ k, p a w k → M a w ≤ k := fun a w h => by
    have e : M a w = Classical.choose (ex a w h) := dif_pos h
    rw [e]
    exact Classical.choose_spec (ex a w h)
  refine wp_loop I M ⟨i, σ, by rw [ups_of_fits σ _ hp], hA⟩ ?_
  intro a w hI
  obtain ⟨⟨i, τ, rfl, hAi, hμ⟩, _⟩ := hM a w hI
  refine wp_mono (h i τ w hAi) fun e a' w' hq => ?_
  cases e <;> simp only [Exit.then] at hq ⊢
  case normal =>
    obtain ⟨j, τ', rfl, hAj, hlt⟩ := hq
    have hI' : I (mk n (ups τ' (pat j))) w' := ⟨j, τ', rfl, hAj⟩
    exact ⟨hI', Nat.lt_of_le_of_lt ((hM _ _ hI').2 _ ⟨j, τ', rfl, hAj, rfl⟩) (hμ ▸ hlt)⟩
  all_goals exact hq
theorem round_end {ι : Type} {pat : ι → List (Nat × Value)} {A : ι → World → Prop} {μ : ι → Nat} {m : Nat} (j : ι) (hp : fits σ (pat j)) (hA : A j w) (hμ : μ j < m) :
    Rnd n pat A μ m (mk n σ) w := ⟨j, σ, by rw [ups_of_fits σ _ hp], hA, hμ⟩
theorem e_ret0 {fn : Func} {R : Ending → World → Prop} (h : fn.results = #[]) (hR : R (.returned (.tuple #[])) w) : bodyPost P fn R .ret (mk n σ) w :=
  ⟨rfl, _, results_none h _ _ _, hR⟩
theorem e_ret1 {fn : Func} {R : Ending → World → Prop} {t : Tmp} {v : Value} (h : fn.results = #[.tmp t]) (hv : ev n σ (.tmp t) = v) (hR : R (.returned v) w) : bodyPost P fn R .ret (mk n σ) w :=
  ⟨rfl, _, results_tmp h _ _ _, by rw [← hv, ← mk_eval] at hR; exact hR⟩
theorem e_norm {fn : Func} {R : Ending → World → Prop} {a : Act} (h : bodyPost P fn R .ret a w) : bodyPost P fn R .normal a w := h
theorem o_val {op : Op} {v : Value} {w' : World} (hrun : (execOp (ev n σ) ⟨some d, op, ty, pos, aft, g⟩).run P w = .ok (.value v) w')
    (h : K (mk n (up σ d v)) w') : Oper.wp P ⟨some d, op, ty, pos, aft, g⟩ (mk n σ) w K Q := by
  unfold Oper.wp
  rw [mk_evalf, hrun, Oper.upon_value]
  show K ((mk n σ).put (some d) v) w'
  rw [mk_put]
  exact h
theorem o_skip {op : Op} {w' : World} (hrun : (execOp (ev n σ) ⟨none, op, ty, pos, aft, g⟩).run P w = .ok .skip w')
    (h : K (mk n σ) w') : Oper.wp P ⟨none, op, ty, pos, aft, g⟩ (mk n σ) w K Q := by
  unfold Oper.wp
  rw [mk_evalf, hrun, Oper.upon_skip]
  exact h
theorem o_mv {x : Operand} (h : K (mk n (up σ d (ev n σ x))) w) : Oper.wp P ⟨some d, .move x, ty, pos, aft, g⟩ (mk n σ) w K Q :=
  o_val (by simp [execOp]) h
theorem o_as {x : Operand} (h : K (mk n (up σ d (ev n σ x))) w) : Oper.wp P ⟨some d, .assign x, ty, pos, aft, g⟩ (mk n σ) w K Q :=
  o_val (by simp [execOp]) h
/-- A call of a Go function, by its contract. -/
theorem o_call {f : FuncId} {fn : Func} {args : Array Operand} {ats : Array TypeId} {vs : Array Value} (hf : P.funcs[f]? = some fn) (hb : fn.body.isSome = true) (hname : (fn.name == "runtime.NumGoroutine") = false)
    (ha : args.map (ev n σ) = vs)
    (h : Calls P f vs w fun e w' => match e with | .returned v => K (mk n (up σ d v)) w' | _ => False) :
    Oper.wp P ⟨some d, .call ⟨.value (.func f), args, ats⟩, ty, pos, aft, g⟩ (mk n σ) w K Q := by
  unfold Oper.wp
  rw [mk_evalf]
  have hn : fn.body ≠ none := by cases hh : fn.body <;> simp_all
  have hnm : fn.name ≠ "runtime.NumGoroutine" := by intro e; simp [e] at hname
  have : (execOp (ev n σ) ⟨some d, .call ⟨.value (.func f), args, ats⟩, ty, pos, aft, g⟩).run P w = .ok (.enter f vs) w := by
    simp [execOp, resolve, ev, Deferred.ofValue, invoke, callFunc, hf, hnm, hn, ha]
  rw [this, Oper.upon_enter]
  refine h.mono fun e w' he => ?_
  cases e <;> simp only at he ⊢
  rw [mk_put]; exact he
end
theorem mk_defers (n : Nat) (σ : Nat → Value) : (mk n σ).defers = [] := rfl
theorem mk_tmp (n : Nat) (σ : Nat → Value) (t : Nat) : (mk n σ).tmps.getD t undef = ev n σ (.tmp t) := mk_eval n σ (.tmp t)
attribute [irreducible] mk Mid Rnd
end Go.Proofs.Ytncmcgcilijfkaa
namespace Go.Proofs.Ytncmcgcilijfkaa
open Go
abbrev VI (a : Int) : Value := .int .i64 a
abbrev V8 (x : UInt8) : Value := .int .u8 (x.toNat : Int)
theorem wrap_i64 {n : Int} (h1 : -9223372036854775808 ≤ n) (h2 : n ≤ 9223372036854775807) : IntKind.i64.wrap n = n := by
  exact IntWalk.i64_in n ⟨h1, h2⟩
theorem run_equal_bool {P : Program} {t : TypeId} (hu : P.underlying t = some .bool) (a b : Bool) (w : World) : (Op.equal t (.bool a) (.bool b)).run P w = .ok (a == b) w := by
  unfold Op.equal Op.maxDepth Op.equalIn
  rw [Sem.run_bind, run_underlying hu]
  simp
section
variable {P : Program} {Q : Exit → Act → World → Prop} {n : Nat} {σ : Nat → Value} {w : World} {K : Act → World → Prop}
  {ty : TypeId} {pos : String} {aft : Array Edge} {g : Option (Nat × Bool)} {d : Nat} {t yt : TypeId} {x y : Operand} {op : BinOp}
theorem o_bin {k : IntKind} {a b : Int} {v : Value} (hx : ev n σ x = .int k a) (hy : ev n σ y = .int k b)
    (hr : ∀ w : World, (binOp op t (.int k a) (.int k b)).run P w = .ok v w) (h : K (mk n (up σ d v)) w) :
    Oper.wp P ⟨some d, .binOp op t x y yt, ty, pos, aft, g⟩ (mk n σ) w K Q :=
  o_val (by
    have he : (eqGuard op t x y (.int k a) (.int k b)).run P w = .ok () w := by
      unfold eqGuard
      cases op <;> simp
    simp [execOp, hx, hy, he, hr]) h
end
section
variable {P : Program} {w : World} {t : TypeId}
theorem b_seql (a b : ByteArray) : (Op.stringOp .eql a b).run P w = .ok (.bool (a.toList == b.toList)) w := by simp [Op.stringOp]
theorem b_sneq (a b : ByteArray) : (Op.stringOp .neq a b).run P w = .ok (.bool (!(a.toList == b.toList))) w := by simp [Op.stringOp]
theorem b_add {a b : Int} (h1 : -9223372036854775808 ≤ a + b) (h2 : a + b ≤ 9223372036854775807) : (binOp .add t (VI a) (VI b)).run P w = .ok (VI (a + b)) w := by
  simp [binOp, Op.intArith, wrap_i64 h1 h2]
theorem b_sub {a b : Int} (h1 : -9223372036854775808 ≤ a - b) (h2 : a - b ≤ 9223372036854775807) : (binOp .sub t (VI a) (VI b)).run P w = .ok (VI (a - b)) w := by
  simp [binOp, Op.intArith, wrap_i64 h1 h2]
theorem b_lss {k : IntKind} {a b : Int} : (binOp .lss t (.int k a) (.int k b)).run P w = .ok (.bool (decide (a < b))) w := by simp [binOp, Op.intCmp]
theorem b_gtr {k : IntKind} {a b : Int} : (binOp .gtr t (.int k a) (.int k b)).run P w = .ok (.bool (decide (b < a))) w := by simp [binOp, Op.intCmp]
theorem b_geq {k : IntKind} {a b : Int} : (binOp .geq t (.int k a) (.int k b)).run P w = .ok (.bool (decide (b ≤ a))) w := by simp [binOp, Op.intCmp]
theorem b_eql {k : IntKind} {a b : Int} : (binOp .eql t (.int k a) (.int k b)).run P w = .ok (.bool (decide (a = b))) w := by
  simp [binOp, Op.intCmp]; rfl
theorem b_neq {k : IntKind} {a b : Int} : (binOp .neq t (.int k a) (.int k b)).run P w = .ok (.bool (decide (a ≠ b))) w := by
  simp [binOp, Op.intCmp, bne]; rfl
end
section
variable {n : Nat} {σ : Nat → Value}
theorem c8 (k : Nat) (h : k < 256) : ev n σ (.const (.int .u8 (k : Int))) = V8 (UInt8.ofNat k) := by
  simp only [ev, V8, UInt8.toNat_ofNat']
  congr 1; omega
end
end Go.Proofs.Ytncmcgcilijfkaa
namespace Go.Proofs.Ytncmcgcilijfkaa
open Go
/-- What is known of one block: all its cells; or a slice of the call's own from the block's head on; or another object. -/
inductive Ch where
  | blk (b : Nat) (C : List Value) (T : TypeId)
  | own (a : Option Nat) (len cap : Nat) (xs : List Value) (T : TypeId) (sz : Nat)
  | obj (b : Nat) (o : Obj)
def Ch.key : Ch → Option Nat
  | .blk b _ _ => some b
  | .own a _ _ _ _ _ => a
  | .obj b _ => some b
def Ch.ok (w : World) : Ch → Prop
  | .blk b C T => w.heap[b]? = some (.cells C.toArray T (0, 0))
  | .own none len cap xs _ _ => len = 0 ∧ cap = 0 ∧ xs = []
  | .own (some b) len cap xs T sz => xs.length = len * sz ∧ len ≤ cap ∧ cap ≤ maxLen ∧ ∃ rest, w.heap[b]? = some (.cells (xs ++ rest).toArray T (0, 0)) ∧ (xs ++ rest).length = cap * sz
  | .obj b o => w.heap[b]? = some o
def hd (a : Option Nat) : Option Addr := a.map fun b => ⟨b, 0, none⟩
theorem Ch.ok_of {w w' : World} {c : Ch} (h : c.ok w) (he : ∀ b, c.key = some b → w'.heap[b]? = w.heap[b]?) : c.ok w' := by
  cases c with
  | blk b C T => simp only [Ch.ok] at *; rw [he b rfl]; exact h
  | obj b o => simp only [Ch.ok] at *; rw [he b rfl]; exact h
  | own a len cap xs T sz => cases a with
    | none => exact h
    | some b => simp only [Ch.ok] at *; rw [he b rfl]; exact h
theorem Ch.lt {w : World} {c : Ch} (h : c.ok w) {b : Nat} (hb : c.key = some b) : b < w.heap.size := by
  have aux : ∀ o, w.heap[b]? = some o → b < w.heap.size := fun o ho => (Array.getElem?_eq_some_iff.1 ho).1
  cases c with
  | blk b' C T => cases hb; exact aux _ h
  | obj b' o => cases hb; exact aux _ h
  | own a len cap xs T sz => cases a with
    | none => cases hb
    | some b' => cases hb; obtain ⟨_, _, _, r, h, _⟩ := h; exact aux _ h
/-- w came of w0: of w0's blocks only those of S may have turned; the chunks of L stand. -/
structure Hp (w0 w : World) (S : List Nat) (L : List Ch) : Prop where
  os : w.os = w0.os
  tape : w.tape = w0.tape
  output : w.output = w0.output
  size : w0.heap.size ≤ w.heap.size
  frame : ∀ b, b < w0.heap.size → b ∉ S → w.heap[b]? = w0.heap[b]?
  has : ∀ c ∈ L, c.ok w
  fresh : ∀ c ∈ L, ∀ b, c.key = some b → b ∈ S ∨ w0.heap.size ≤ b
  nd : L.Pairwise fun c e => ∀ b, c.key = some b → e.key ≠ some b
theorem Hp.refl (w : World) (S : List Nat) : Hp w w S [] := ⟨rfl, rfl, rfl, Nat.le_refl _, fun _ _ _ => rfl, (by simp), (by simp), .nil⟩
theorem Hp.start (w : World) (c : Ch) (b : Nat) (h : c.ok w) (hk : c.key = some b) : Hp w w [b] [c] :=
  ⟨rfl, rfl, rfl, Nat.le_refl _, fun _ _ _ => rfl, (by simpa using h), (by simp [hk]), by simp⟩
theorem Hp.drew {w0 w : World} {S L} (h : Hp w0 w S L) : Hp w0 w.drew S L :=
  ⟨h.os, h.tape, h.output, h.size, h.frame, fun c hc => Ch.ok_of (h.has c hc) (fun _ _ => rfl), h.fresh, h.nd⟩
theorem Hp.sub {w0 w : World} {S L L'} (h : Hp w0 w S L) (hs : L'.Sublist L) : Hp w0 w S L' :=
  ⟨h.os, h.tape, h.output, h.size, h.frame, fun c hc => h.has c (hs.subset hc), fun c hc => h.fresh c (hs.subset hc), h.nd.sublist hs⟩
theorem Hp.below {w0 w : World} {L} (h : Hp w0 w [] L) : RowKit.Below w0.heap.size w0 w := ⟨h.os, h.tape, h.output, h.size, fun k hk => h.frame k hk (by simp)⟩
theorem Hp.mono {w0 w : World} {S S' L} (h : Hp w0 w S L) (hs : ∀ b ∈ S, b ∈ S') : Hp w0 w S' L :=
  ⟨h.os, h.tape, h.output, h.size, fun b hb hn => h.frame b hb (fun hm => hn (hs b hm)), h.has, fun c hc b hk => (h.fresh c hc b hk).imp (hs b) id, h.nd⟩
theorem heap_alloc_new' (w : World) (o : Obj) : (w.alloc o).heap[w.heap.size]? = some o := heap_alloc_new w o
theorem heap_alloc_old' (w : World) (o : Obj) (k : Nat) (h : k ≠ w.heap.size) : (w.alloc o).heap[k]? = w.heap[k]? := by
  show (w.heap.push o)[k]? = _
  rw [Array.getElem?_push, if_neg h]
/-- a new block. -/
theorem Hp.new {w0 w : World} {S L} (h : Hp w0 w S L) (o : Obj) (c : Ch) (hk : c.key = some w.heap.size) (hc : c.ok (w.alloc o)) : Hp w0 (w.alloc o) S (L ++ [c]) := by
  refine ⟨h.os, h.tape, h.output, ?_, ?_, ?_, ?_, ?_⟩
  · have := h.size; simp; omega
  · intro b hb hn
    rw [heap_alloc_old' _ _ _ (by have := h.size; omega)]
    exact h.frame b hb hn
  · intro e he
    rcases List.mem_append.1 he with he | he
    · exact Ch.ok_of (h.has e he) fun b hb => heap_alloc_old' _ _ _ (by have := Ch.lt (h.has e he) hb; omega)
    · simp at he; subst he; exact hc
  · intro e he b hb
    rcases List.mem_append.1 he with he | he
    · exact h.fresh e he b hb
    · simp at he; subst he; rw [hk] at hb; cases hb; exact .inr h.size
  · rw [List.pairwise_append]
    refine ⟨h.nd, by simp, fun e he f hf b hb => ?_⟩
    simp at hf; subst hf
    rw [hk]; intro e'; cases e'
    have := Ch.lt (h.has e he) hb; omega
theorem Hp.alloc {w0 w : World} {S L} (h : Hp w0 w S L) (C : List Value) (T : TypeId) : Hp w0 (w.alloc (.cells C.toArray T)) S (L ++ [.blk w.heap.size C T]) :=
  h.new _ _ rfl (heap_alloc_new' w _)
theorem mem_set_cases {α : Type} {L : List α} {i : Nat} {c e : α} (h : e ∈ L.set i c) : e = c ∨ ∃ j, j ≠ i ∧ L[j]? = some e := by
  obtain ⟨j, hj⟩ := List.getElem?_of_mem h
  by_cases hij : i = j
  · subst hij
    rw [List.getElem?_set] at hj
    simp at hj
    exact .inl hj.2.symm
  · rw [List.getElem?_set_ne hij] at hj
    exact .inr ⟨j, Ne.symm hij, hj⟩
theorem pw_ne {L : List Ch} (h : L.Pairwise fun c e => ∀ b, c.key = some b → e.key ≠ some b) {i j : Nat} {c e : Ch} (hi : L[i]? = some c) (hj : L[j]? = some e) (hij : i ≠ j) {b : Nat} (hb : c.key = some b) : e.key ≠ some b := by
  rw [List.pairwise_iff_getElem] at h
  obtain ⟨hi', rfl⟩ := List.getElem?_eq_some_iff.1 hi
  obtain ⟨hj', rfl⟩ := List.getElem?_eq_some_iff.1 hj
  rcases Nat.lt_or_gt_of_ne hij with hlt | hlt
  · exact h i j hi' hj' hlt b hb
  · intro he
    exact h j i hj' hi' hlt b he hb
/-- chunk i turns: the new chunk lies in the old one's block, or in a new one; no other known block turns. -/
theorem Hp.turn {w0 w w' : World} {S L} (h : Hp w0 w S L) {i : Nat} {c c' : Ch} (hi : L[i]? = some c) (hok : c'.ok w') (hk : ∀ b, c'.key = some b → c.key = some b ∨ w.heap.size ≤ b)
    (hos : w'.os = w.os) (htape : w'.tape = w.tape) (hout : w'.output = w.output) (hsize : w.heap.size ≤ w'.heap.size)
    (hother : ∀ b, b < w.heap.size → c.key ≠ some b → w'.heap[b]? = w.heap[b]?) : Hp w0 w' S (L.set i c') := by
  have hmem := List.mem_of_getElem? hi
  refine ⟨hos.trans h.os, htape.trans h.tape, hout.trans h.output, Nat.le_trans h.size hsize, ?_, ?_, ?_, ?_⟩
  · intro b hb hn
    rw [hother b (Nat.lt_of_lt_of_le hb h.size) ?_, h.frame b hb hn]
    intro hc
    rcases h.fresh c hmem b hc with h1 | h1
    · exact hn h1
    · omega
  · intro e he
    rcases mem_set_cases he with rfl | ⟨j, hj, hje⟩
    · exact hok
    · have hm := List.mem_of_getElem? hje
      refine Ch.ok_of (h.has e hm) fun b hb => hother b (Ch.lt (h.has e hm) hb) fun hc => ?_
      exact pw_ne h.nd hi hje (Ne.symm hj) hc hb
  · intro e he b hb
    rcases mem_set_cases he with rfl | ⟨j, hj, hje⟩
    · rcases hk b hb with h1 | h1
      · exact h.fresh c hmem b h1
      · exact .inr (Nat.le_trans h.size h1)
    · exact h.fresh e (List.mem_of_getElem? hje) b hb
  · rw [List.pairwise_iff_getElem]
    intro j k hj hk' hlt b hb
    simp only [List.length_set] at hj hk'
    have key : ∀ m (hm : m < L.length), m ≠ i → (L[m]).key = some b → c'.key ≠ some b := fun m hm hne hb' hc' => by
      have hmok := h.has _ (List.getElem_mem hm)
      rcases hk b hc' with h1 | h1
      · exact pw_ne h.nd hi (List.getElem?_eq_getElem hm) (Ne.symm hne) h1 hb'
      · have := Ch.lt hmok hb'; omega
    rw [List.getElem_set] at hb ⊢
    by_cases h1 : i = j
    · rw [if_pos h1] at hb
      rw [if_neg (by omega)]
      intro he
      exact key k hk' (by omega) he hb
    · rw [if_neg h1] at hb
      by_cases h2 : i = k
      · rw [if_pos h2]; exact key j hj (Ne.symm h1) hb
      · rw [if_neg h2]
        exact (List.pairwise_iff_getElem.1 h.nd) j k hj hk' hlt b hb
/-- a row is laid anew. -/
theorem Hp.row {w0 w : World} {S L} (h : Hp w0 w S L) {i b : Nat} {c c' : Ch} {C C' : List Value} {T : TypeId} (hi : L[i]? = some c) (hk : c.key = some b) (hk' : c'.key = some b)
    (hw : w.heap[b]? = some (.cells C.toArray T (0, 0))) (hok : ∀ w' : World, w'.heap[b]? = some (.cells C'.toArray T (0, 0)) → c'.ok w') : Hp w0 (w.setRow b C'.toArray) S (L.set i c') :=
  h.turn hi (hok _ (setRow_heap w b _ _ T (0, 0) hw)) (fun b' hb' => .inl (by rw [hk] ; rw [hk'] at hb'; exact hb')) rfl rfl rfl (by simp)
    (fun b' _ hne => setRow_other w b b' _ (fun e => hne (by rw [hk, e])))
/-- a call that turns nothing that was there. -/
theorem Hp.call {w0 w w' : World} {S L L'} (h : Hp w0 w S L) (hc : Hp w w' [] L') : Hp w0 w' S (L ++ L') := by
  refine ⟨hc.os.trans h.os, hc.tape.trans h.tape, hc.output.trans h.output, Nat.le_trans h.size hc.size, ?_, ?_, ?_, ?_⟩
  · intro b hb hn
    rw [hc.frame b (Nat.lt_of_lt_of_le hb h.size) (by simp), h.frame b hb hn]
  · intro e he
    rcases List.mem_append.1 he with he | he
    · exact Ch.ok_of (h.has e he) fun b hb => hc.frame b (Ch.lt (h.has e he) hb) (by simp)
    · exact hc.has e he
  · intro e he b hb
    rcases List.mem_append.1 he with he | he
    · exact h.fresh e he b hb
    · rcases hc.fresh e he b hb with h1 | h1
      · simp at h1
      · exact .inr (Nat.le_trans h.size h1)
  · rw [List.pairwise_append]
    refine ⟨h.nd, hc.nd, fun e he f hf b hb hb' => ?_⟩
    rcases hc.fresh f hf b hb' with h1 | h1
    · simp at h1
    · have := Ch.lt (h.has e he) hb; omega
/-- a call that turns chunk i. -/
theorem Hp.callAt {w0 w w' : World} {S L L'} (h : Hp w0 w S L) {i b : Nat} {c c' : Ch} (hi : L[i]? = some c) (hk : c.key = some b) (hk' : c'.key = some b) (hc : Hp w w' [b] (c' :: L')) : Hp w0 w' S (L.set i c' ++ L') := by
  have h1 : Hp w0 w' S (L.set i c') := h.turn hi (hc.has c' (by simp)) (fun b' hb' => .inl (by rw [hk]; rw [hk'] at hb'; exact hb')) hc.os hc.tape hc.output hc.size
    (fun b' hb' hne => hc.frame b' hb' (by simp; intro e; exact hne (by rw [hk, e])))
  have hnd := List.pairwise_cons.1 hc.nd
  refine ⟨h1.os, h1.tape, h1.output, h1.size, h1.frame, ?_, ?_, ?_⟩
  · intro e he
    rcases List.mem_append.1 he with he | he
    · exact h1.has e he
    · exact hc.has e (by simp [he])
  · intro e he b' hb
    rcases List.mem_append.1 he with he | he
    · exact h1.fresh e he b' hb
    · rcases hc.fresh e (by simp [he]) b' hb with h2 | h2
      · simp at h2; subst h2; exact absurd hb (hnd.1 e he _ hk')
      · exact .inr (Nat.le_trans h.size h2)
  · rw [List.pairwise_append]
    refine ⟨h1.nd, hnd.2, fun e he f hf b' hb hb' => ?_⟩
    rcases hc.fresh f (by simp [hf]) b' hb' with h2 | h2
    · simp at h2; subst h2; exact hnd.1 f hf _ hk' hb'
    · rcases mem_set_cases he with rfl | ⟨j, hj, hje⟩
      · rw [hk'] at hb; cases hb; exact hnd.1 f hf _ hk' hb'
      · have := Ch.lt (h.has e (List.mem_of_getElem? hje)) hb; omega
/-- from the slice's beginning on the cells are vs. -/
def RdS (w : World) (a : Option Addr) (vs : List Value) : Prop :=
  vs = [] ∨ ∃ b o C T fr, a = some ⟨b, o, none⟩ ∧ w.heap[b]? = some (.cells C T fr) ∧ ∀ i v, vs[i]? = some v → C[o + i]? = some v
def Apart (a : Option Addr) (S : List Nat) : Prop := ∀ x, a = some x → x.block ∉ S
theorem apart_nil (a : Option Addr) : Apart a [] := fun _ _ => by simp
theorem RdS.nil (w : World) (a : Option Addr) : RdS w a [] := .inl rfl
theorem RdS.of_heap {w w' : World} {a : Option Addr} {vs : List Value} (h : RdS w a vs) (he : ∀ x, a = some x → x.block < w.heap.size → w'.heap[x.block]? = w.heap[x.block]?) : RdS w' a vs := by
  rcases h with h | ⟨b, o, C, T, fr, ha, hb, hc⟩
  · exact .inl h
  · exact .inr ⟨b, o, C, T, fr, ha, by rw [he _ ha (Array.getElem?_eq_some_iff.1 hb).1]; exact hb, hc⟩
theorem Hp.rd {w0 w : World} {S L} (h : Hp w0 w S L) {a : Option Addr} {vs : List Value} (hr : RdS w0 a vs) (hap : Apart a S) : RdS w a vs :=
  hr.of_heap fun x hx hlt => h.frame _ hlt (hap x hx)
theorem RdS.cell {w : World} {a : Option Addr} {vs : List Value} (h : RdS w a vs) {i : Nat} {v : Value} (hv : vs[i]? = some v) : ∃ b o, a = some ⟨b, o, none⟩ ∧ w.cell? ⟨b, o + i, none⟩ = some v := by
  rcases h with rfl | ⟨b, o, C, T, fr, ha, hb, hc⟩
  · simp at hv
  · exact ⟨b, o, ha, by simp [World.cell?, hb, hc i v hv]⟩
theorem RdS.drop {w : World} {a : Option Addr} {vs : List Value} (h : RdS w a vs) (k : Nat) : RdS w (a.map (·.add k)) (vs.drop k) := by
  rcases h with rfl | ⟨b, o, C, T, fr, rfl, hb, hc⟩
  · exact .inl (by simp)
  · refine .inr ⟨b, o + k, C, T, fr, ?_, hb, fun i v hv => ?_⟩
    · simp only [Option.map_some, Addr.add]
      by_cases hk : k = 0
      · subst hk; simp
      · rw [if_neg hk]
    · rw [List.getElem?_drop] at hv
      have := hc (k + i) v hv
      rwa [← Nat.add_assoc] at this
theorem RdS.take {w : World} {a : Option Addr} {vs : List Value} (h : RdS w a vs) (k : Nat) : RdS w a (vs.take k) := by
  rcases h with rfl | ⟨b, o, C, T, fr, rfl, hb, hc⟩
  · exact .inl (by simp)
  · refine .inr ⟨b, o, C, T, fr, rfl, hb, fun i v hv => hc i v ?_⟩
    rw [List.getElem?_take] at hv
    split at hv
    · exact hv
    · cases hv
theorem Ch.rd_own {w : World} {a : Option Nat} {len cap : Nat} {xs : List Value} {T sz} (h : (Ch.own a len cap xs T sz).ok w) : RdS w (hd a) xs := by
  cases a with
  | none => exact .inl h.2.2
  | some b =>
    obtain ⟨_, _, _, rest, hb, _⟩ := h
    refine .inr ⟨b, 0, _, T, (0, 0), rfl, hb, fun i v hv => ?_⟩
    have hi : i < xs.length := (List.getElem?_eq_some_iff.1 hv).1
    simp [List.getElem?_append_left hi, hv]
theorem Ch.rd_blk {w : World} {b : Nat} {C : List Value} {T} (h : (Ch.blk b C T).ok w) (o : Nat) : RdS w (some ⟨b, o, none⟩) (C.drop o) :=
  .inr ⟨b, o, _, T, (0, 0), rfl, h, fun i v hv => by simpa [List.getElem?_drop] using hv⟩
theorem Ch.rd_all {w : World} {b : Nat} {C : List Value} {T} (h : (Ch.blk b C T).ok w) : RdS w (some ⟨b, 0, none⟩) C := by simpa using Ch.rd_blk h 0
theorem Hp.own {w0 w : World} {S L} (h : Hp w0 w S L) {i : Nat} {a : Option Nat} {len cap : Nat} {xs : List Value} {T sz} (hi : L[i]? = some (.own a len cap xs T sz)) : RdS w (hd a) xs :=
  Ch.rd_own (h.has _ (List.mem_of_getElem? hi))
theorem Hp.blk {w0 w : World} {S L} (h : Hp w0 w S L) {i b : Nat} {C : List Value} {T} (hi : L[i]? = some (.blk b C T)) : w.heap[b]? = some (.cells C.toArray T (0, 0)) :=
  h.has _ (List.mem_of_getElem? hi)
def cellTy (P : Program) (t : TypeId) : Bool := match P.underlying t with | some (.struct _) | some (.array _ _) => false | some _ => true | none => false
def rowTy (P : Program) (t : TypeId) : Option Nat := match P.underlying t with | some (.struct _) | some (.array _ _) => (P.info? t).map (·.size) | _ => none
def cellSz (P : Program) (t : TypeId) : Option Nat := (P.info? t).map (·.size)
theorem run_isAgg_cell {P : Program} {t : TypeId} (h : cellTy P t = true) (w : World) : (isAgg t).run P w = .ok false w := by
  unfold cellTy at h
  cases hu : P.underlying t with
  | none => simp [hu] at h
  | some d => cases d <;> simp_all [isAgg, run_underlying hu]
theorem run_isAgg_row {P : Program} {t : TypeId} {k : Nat} (h : rowTy P t = some k) (w : World) : (isAgg t).run P w = .ok true w := by
  unfold rowTy at h
  cases hu : P.underlying t with
  | none => simp [hu] at h
  | some d => cases d <;> simp_all [isAgg, run_underlying hu]
theorem sz_of_row {P : Program} {t : TypeId} {k : Nat} (h : rowTy P t = some k) : cellSz P t = some k := by
  unfold rowTy at h
  cases hu : P.underlying t with
  | none => simp [hu] at h
  | some d => cases d <;> simp_all [cellSz]
theorem run_sizeOf_sz {P : Program} {t : TypeId} {k : Nat} (h : cellSz P t = some k) (w : World) : (sizeOf t).run P w = .ok k w := by
  unfold cellSz at h
  cases hi : P.info? t with
  | none => simp [hi] at h
  | some i => simp [hi] at h; simp [sizeOf, typeInfo, hi, h]
theorem run_loadCells_row {P : Program} {w : World} {b o : Nat} {C : List Value} {T : TypeId} {fr : Nat × Nat} (hb : w.heap[b]? = some (.cells C.toArray T fr)) (k : Nat) (hk : o + k ≤ C.length) :
    ∀ i acc, (loadCellsFrom ⟨b, o, none⟩ i k acc).run P w = .ok (acc ++ ((C.drop (o + i)).take k).toArray) w ∨ k + i + o > C.length := by
  induction k with
  | zero => intro i acc; left; simp [loadCellsFrom]
  | succ k ih =>
    intro i acc
    by_cases hlt : k + 1 + i + o > C.length
    · exact .inr hlt
    · left
      have hcell : w.cell? ((⟨b, o, none⟩ : Addr).add i) = some (C[o + i]'(by omega)) := by
        rw [Addr.add_mid]; simp [World.cell?, hb]
        try rw [List.getElem?_eq_getElem (by omega)]
      rcases ih (by omega) (i + 1) (acc.push (C[o + i]'(by omega))) with h | h
      · simp only [loadCellsFrom, Sem.run_bind, run_load, hcell, Result.andThen_ok, h]
        congr 1
        have e1 : C.drop (o + i) = C[o + i]'(by omega) :: C.drop (o + i + 1) := List.drop_eq_getElem_cons (by omega)
        rw [e1, List.take_succ_cons]
        apply Array.ext'
        simp [Nat.add_assoc]
      · omega
theorem run_loadAt_row {P : Program} {w : World} {b o : Nat} {C : List Value} {T : TypeId} {fr : Nat × Nat} {t : TypeId} {k : Nat} (hb : w.heap[b]? = some (.cells C.toArray T fr)) (ht : rowTy P t = some k) (hk : o + k ≤ C.length) :
    (Instr.loadAt t (.pointer (some ⟨b, o, none⟩))).run P w = .ok (.agg ((C.drop o).take k).toArray) w := by
  have h1 := run_isAgg_row ht w
  have h2 := run_sizeOf_sz (sz_of_row ht) w
  rcases run_loadCells_row (P := P) hb k hk 0 #[] with h | h
  · simp [Instr.loadAt, Instr.sureAddr, loadVar, h1, h2, loadCells, h]
  · omega
theorem run_loadAt_cell {P : Program} {w : World} {a : Addr} {t : TypeId} {v : Value} (ht : cellTy P t = true) (hv : w.cell? a = some v) :
    (Instr.loadAt t (.pointer (some a))).run P w = .ok v w := by
  simp [Instr.loadAt, Instr.sureAddr, loadVar, run_isAgg_cell ht w, hv]
theorem run_storeAt_row {P : Program} {w : World} {b o : Nat} {C : List Value} {T : TypeId} {t : TypeId} {v : Value} (hb : w.heap[b]? = some (.cells C.toArray T (0, 0)))
    (hs : cellSz P t = some v.cells.size) (hk : o + v.cells.size ≤ C.length) (h1 : v.cells.all (·.oneCell') = true) :
    (Instr.storeAt t (.pointer (some ⟨b, o, none⟩)) v).run P w = .ok () (w.setRow b (C.take o ++ v.cells.toList ++ C.drop (o + v.cells.size)).toArray) := by
  have h2 := run_sizeOf_sz hs w
  have h3 := run_storeCells_at (P := P) b o T v.cells.toList 0 C.toArray w hb (by simpa using hk) (fun x hx => by
    rw [Array.mem_toList_iff] at hx
    obtain ⟨i, hi, rfl⟩ := Array.getElem_of_mem hx
    exact (Array.all_eq_true.1 h1) i hi)
  simp only [Nat.add_zero, Array.length_toList] at h3
  simp only [List.append_assoc] at h3 ⊢
  simp [Instr.storeAt, Instr.sureAddr, storeVar, h2, h3]
section
variable {P : Program} {Q : Exit → Act → World → Prop} {n : Nat} {σ : Nat → Value} {w w0 : World} {K : Act → World → Prop}
  {ty : TypeId} {pos : String} {aft : Array Edge} {g : Option (Nat × Bool)} {d : Nat} {t yt : TypeId} {x y : Operand} {S : List Nat} {L : List Ch}
def zeroCells (P : Program) (t : TypeId) : Option (List Value) := (P.info? t).bind fun i => i.zero.map fun v => v.cells.toList
theorem run_zero {C : List Value} (h : zeroCells P t = some C) (w : World) : ∃ z, (zeroValue t).run P w = .ok z w ∧ z.cells = C.toArray := by
  unfold zeroCells at h
  cases hi : P.info? t with
  | none => simp [hi] at h
  | some i =>
    cases hz : i.zero with
    | none => simp [hi, hz] at h
    | some z => simp [hi, hz] at h; exact ⟨z, by simp [zeroValue, typeInfo, hi, hz], by rw [← h]⟩
theorem o_alloc {C : List Value} (H : Hp w0 w S L) (hz : zeroCells P t = some C)
    (h : ∀ b w', Hp w0 w' S (L ++ [.blk b C t]) → w0.heap.size ≤ b → K (mk n (up σ d (.pointer (some ⟨b, 0, none⟩)))) w') :
    Oper.wp P ⟨some d, .alloc t, ty, pos, aft, g⟩ (mk n σ) w K Q := by
  obtain ⟨z, hz1, hz2⟩ := run_zero hz w
  refine o_val (v := .pointer (some ⟨w.heap.size, 0, none⟩)) (w' := w.alloc (.cells C.toArray t)) ?_ (h _ _ (H.alloc C t) H.size)
  simp [execOp, Instr.alloc, hz1, newVar, newRow, hz2]
theorem o_box {v : Value} (H : Hp w0 w S L) (hx : ev n σ x = v)
    (h : ∀ b w', Hp w0 w' S (L ++ [.blk b v.cells.toList t]) → w0.heap.size ≤ b → K (mk n (up σ d (.pointer (some ⟨b, 0, none⟩)))) w') :
    Oper.wp P ⟨some d, .box t x, ty, pos, aft, g⟩ (mk n σ) w K Q := by
  refine o_val (v := .pointer (some ⟨w.heap.size, 0, none⟩)) (w' := w.alloc (.cells v.cells t)) ?_ (h _ _ (by simpa using H.alloc v.cells.toList t) H.size)
  simp [execOp, Instr.box, hx, newVar, newRow]
def fieldOff (P : Program) (t : TypeId) (i : Nat) : Option Nat :=
  match P.underlying t with
  | some (.struct fs) => (fs[i]?).bind fun f => (P.info? f.type).bind fun j => if j.size = 0 then none else some f.offset
  | _ => none
def eltOf (P : Program) (t : TypeId) : Option Nat :=
  match P.underlying t with
  | some (.slice e) => (P.info? e).map fun i => i.size
  | _ => none
/-- .. of a slice. -/
theorem o_is {a : Option Addr} {len cap sz : Nat} {k : IntKind} {i : Int} {vs : List Value} (hx : ev n σ x = .slice a len cap) (hy : ev n σ y = .int k i) (ha : eltOf P t = some sz) (h0 : 0 ≤ i) (h1 : i < len)
    (hs : 0 < sz) (hr : RdS w a vs) (hl : len * sz ≤ vs.length)
    (h : ∀ b o, a = some ⟨b, o, none⟩ → K (mk n (up σ d (.pointer (some ⟨b, o + i.toNat * sz, none⟩)))) w) : Oper.wp P ⟨some d, .indexAddr t x y, ty, pos, aft, g⟩ (mk n σ) w K Q := by
  rcases hr with rfl | ⟨b, o, C, T, fr, rfl, hb, hc⟩
  · simp only [List.length_nil, Nat.le_zero, Nat.mul_eq_zero] at hl; omega
  refine o_val ?_ (h b o rfl)
  unfold eltOf at ha
  cases hu : P.underlying t with
  | none => simp [hu] at ha
  | some ds =>
    cases ds <;> simp only [hu] at ha <;> try (cases ha)
    rename_i e
    cases hj : P.info? e with
    | none => simp [hj] at ha
    | some j =>
      simp only [hj, Option.map_some, Option.some.injEq] at ha
      subst ha
      simp [execOp, hx, hy, Instr.indexAt, run_underlying hu, asIntOf, h0, h1, sizeOf, typeInfo, hj, Addr.add_mid]
end
end Go.Proofs.Ytncmcgcilijfkaa
namespace Go.Proofs.Ytncmcgcilijfkaa
open Go
section
variable {P : Program} {Q : Exit → Act → World → Prop} {n : Nat} {σ : Nat → Value} {w w0 : World} {K : Act → World → Prop}
  {ty : TypeId} {pos : String} {aft : Array Edge} {g : Option (Nat × Bool)} {d : Nat} {t yt : TypeId} {x y z : Operand} {S : List Nat} {L : List Ch}
theorem splice_one (C : List Value) (o : Nat) (v : Value) (h : o < C.length) : C.take o ++ [v] ++ C.drop (o + 1) = C.set o v := by
  apply List.ext_getElem?
  intro i
  rw [List.append_assoc, List.getElem?_set]
  by_cases h1 : i < o
  · rw [List.getElem?_append_left (by simp; omega), List.getElem?_take_of_lt h1, if_neg (by omega)]
  · rw [List.getElem?_append_right (by simp; omega)]
    by_cases h2 : o = i
    · subst h2; simp [h, Nat.min_eq_left (Nat.le_of_lt h)]
    · rw [if_neg h2, List.getElem?_append_right (by simp; omega)]
      simp only [List.length_take, Nat.min_eq_left (Nat.le_of_lt h), List.length_singleton, List.getElem?_drop]
      congr 1; omega
/-- a store of one cell into a known block. -/
theorem o_st {b o i : Nat} {C : List Value} {T : TypeId} {v : Value} (H : Hp w0 w S L) (hi : L[i]? = some (.blk b C T)) (hx : ev n σ x = .pointer (some ⟨b, o, none⟩)) (hy : ev n σ y = v)
    (hs : cellSz P t = some 1) (h1 : v.oneCell' = true) (ho : o < C.length)
    (h : ∀ w', Hp w0 w' S (L.set i (.blk b (C.set o v) T)) → K (mk n σ) w') : Oper.wp P ⟨none, .store t x y, ty, pos, aft, g⟩ (mk n σ) w K Q := by
  have hc : v.cells = #[v] := by cases v <;> simp_all [Value.cells, Value.oneCell']
  have hr := run_storeAt_row (P := P) (t := t) (v := v) (H.blk hi) (o := o) (by rw [hc]; exact hs) (by rw [hc]; simp; omega) (by rw [hc]; simpa using h1)
  rw [hc] at hr
  have e : C.take o ++ (#[v] : Array Value).toList ++ C.drop (o + (#[v] : Array Value).size) = C.set o v := splice_one C o v ho
  rw [e] at hr
  refine o_skip (w' := w.setRow b (C.set o v).toArray) (by simp [execOp, hx, hy, hr]) (h _ ?_)
  exact H.row hi rfl rfl (H.blk hi) fun w' hw => hw
/-- a store of a row of cells. -/
theorem o_sr {b o i : Nat} {C : List Value} {T : TypeId} {vs : Array Value} (H : Hp w0 w S L) (hi : L[i]? = some (.blk b C T)) (hx : ev n σ x = .pointer (some ⟨b, o, none⟩)) (hy : ev n σ y = .agg vs)
    (hs : cellSz P t = some vs.size) (h1 : vs.all (·.oneCell') = true) (ho : o + vs.size ≤ C.length)
    (h : ∀ w', Hp w0 w' S (L.set i (.blk b (C.take o ++ vs.toList ++ C.drop (o + vs.size)) T)) → K (mk n σ) w') : Oper.wp P ⟨none, .store t x y, ty, pos, aft, g⟩ (mk n σ) w K Q := by
  have hr := run_storeAt_row (P := P) (t := t) (v := .agg vs) (H.blk hi) (o := o) hs ho h1
  refine o_skip (w' := w.setRow b (C.take o ++ vs.toList ++ C.drop (o + vs.size)).toArray) (by simp only [execOp, hx, hy, Sem.run_bind, hr]; simp [Value.cells]) (h _ ?_)
  exact H.row hi rfl rfl (H.blk hi) fun w' hw => hw
/-- a store of a whole row. -/
theorem o_stw {b i : Nat} {C : List Value} {T : TypeId} {vs : Array Value} (H : Hp w0 w S L) (hi : L[i]? = some (.blk b C T)) (hx : ev n σ x = .pointer (some ⟨b, 0, none⟩)) (hy : ev n σ y = .agg vs)
    (hs : cellSz P t = some vs.size) (h1 : vs.all (·.oneCell') = true) (ho : vs.size = C.length)
    (h : ∀ w', Hp w0 w' S (L.set i (.blk b vs.toList T)) → K (mk n σ) w') : Oper.wp P ⟨none, .store t x y, ty, pos, aft, g⟩ (mk n σ) w K Q := by
  refine o_sr H hi hx hy hs h1 (by omega) fun w' H' => h w' ?_
  simpa [ho] using H'
theorem Hp.conv {i : Nat} {c c' : Ch} (H : Hp w0 w S L) (hi : L[i]? = some c) (hk : c'.key = c.key) (hok : c.ok w → c'.ok w) : Hp w0 w S (L.set i c') :=
  H.turn hi (hok (H.has _ (List.mem_of_getElem? hi))) (fun b hb => .inl (by rw [← hk]; exact hb)) rfl rfl rfl (Nat.le_refl _) (fun _ _ _ => rfl)
/-- a block as a slice of its first elements. -/
theorem Hp.toOwn {i b len cap sz : Nat} {C : List Value} {T : TypeId} (H : Hp w0 w S L) (hi : L[i]? = some (.blk b C T)) (hl : len ≤ cap) (hm : cap ≤ maxLen) (hc : C.length = cap * sz) :
    Hp w0 w S (L.set i (.own (some b) len cap (C.take (len * sz)) T sz)) :=
  H.conv hi rfl fun hok => ⟨by rw [List.length_take, hc]; exact Nat.min_eq_left (Nat.mul_le_mul_right sz hl), hl, hm, C.drop (len * sz), by rw [List.take_append_drop]; exact hok, by rw [List.take_append_drop]; exact hc⟩
def sa (a : Option Addr) (l cap sz : Nat) : Option Addr := if cap = l then a else a.map (·.add (l * sz))
theorem RdS.sa {a : Option Addr} {vs : List Value} (h : RdS w a vs) (l cap sz : Nat) (hl : vs.length ≤ cap * sz) : RdS w (sa a l cap sz) (vs.drop (l * sz)) := by
  unfold Go.Proofs.Ytncmcgcilijfkaa.sa
  split
  · rename_i e; subst e
    rw [List.drop_eq_nil_of_le hl]; exact .nil _ _
  · exact h.drop _
theorem sa_zero (a : Option Addr) (cap sz : Nat) : sa a 0 cap sz = a := by
  unfold sa
  split
  · rfl
  · cases a <;> simp [Addr.add]
theorem Apart.sa {a : Option Addr} {S : List Nat} (h : Apart a S) (l cap sz : Nat) : Apart (sa a l cap sz) S := by
  unfold Go.Proofs.Ytncmcgcilijfkaa.sa
  split
  · exact h
  · intro x hx
    cases a with
    | none => cases hx
    | some a =>
      simp only [Option.map_some, Option.some.injEq] at hx
      subst hx
      have := h a rfl
      unfold Addr.add; split <;> exact this
theorem sb_l {s : Bool} {len cap : Nat} {k : IntKind} {l : Int} (h0 : 0 ≤ l) (h1 : l ≤ len) (w : World) : (Instr.sliceBounds s len cap (some (.int k l)) none none).run P w = .ok (l.toNat, len, cap) w := by
  simp [Instr.sliceBounds, run_sliceBound, h0, h1]
theorem sb_h {s : Bool} {len cap : Nat} {k : IntKind} {h : Int} (h0 : 0 ≤ h) (h1 : h ≤ cap) (w : World) : (Instr.sliceBounds s len cap none (some (.int k h)) none).run P w = .ok (0, h.toNat, cap) w := by
  simp [Instr.sliceBounds, run_sliceBound, h0, h1]
/-- a slice cut. -/
theorem o_sl {lo hi mx : Option Operand} {a : Option Addr} {len cap sz l h m : Nat} {lv hv mv : Option Value} (hx : ev n σ x = .slice a len cap) (ht : eltOf P t = some sz)
    (hl : lo.map (ev n σ) = lv) (hh : hi.map (ev n σ) = hv) (hm : mx.map (ev n σ) = mv) (hb : ∀ w, (Instr.sliceBounds true len cap lv hv mv).run P w = .ok (l, h, m) w)
    (hk : K (mk n (up σ d (.slice (sa a l m sz) (h - l) (m - l)))) w) : Oper.wp P ⟨some d, .slice t x lo hi mx, ty, pos, aft, g⟩ (mk n σ) w K Q := by
  refine o_val ?_ hk
  unfold eltOf at ht
  cases hu : P.underlying t with
  | none => simp [hu] at ht
  | some ds =>
    cases ds <;> simp only [hu] at ht <;> try (cases ht)
    rename_i e
    cases hj : P.info? e with
    | none => simp [hj] at ht
    | some j =>
      simp only [hj, Option.map_some, Option.some.injEq] at ht
      subst ht
      simp [execOp, hx, hl, hh, hm, Instr.sliceAt, Instr.slice, run_underlying hu, hb, sizeOf, typeInfo, hj, sa]
theorem run_builtin {b : Builtin} {args : Array Operand} {ats : Array TypeId} {s : Sem Value} {v : Value} {w' : World} {dst : Option Tmp} {vs : Array Value}
    (ha : args.map (ev n σ) = vs)
    (hb : ∀ cs, builtin b ats ty cs vs = (do pure (.value (← s)))) (hs : s.run P w = .ok v w') :
    (execOp (ev n σ) ⟨dst, .call ⟨.builtin b, args, ats⟩, ty, pos, aft, g⟩).run P w = .ok (.value v) w' := by
  simp [execOp, resolve, invoke, ha, hb, hs]
theorem o_lens {a : Option Addr} {len cap : Nat} {sz : Nat} (ht : eltOf P t = some sz) (hx : ev n σ x = .slice a len cap) (h : K (mk n (up σ d (VI len))) w) :
    Oper.wp P ⟨some d, .call ⟨.builtin .len, #[x], #[t]⟩, ty, pos, aft, g⟩ (mk n σ) w K Q :=
  o_val (run_builtin (s := Builtin.len_ #[t] ty #[.slice a len cap]) (vs := #[.slice a len cap]) (by simp [hx]) (fun _ => rfl) (by
    unfold eltOf at ht
    cases hu : P.underlying t with
    | none => simp [hu] at ht
    | some ds =>
      cases ds <;> simp only [hu] at ht <;> try (cases ht)
      simp [Builtin.len_, run_underlying hu, goInt])) h
theorem o_caps {a : Option Addr} {len cap : Nat} {sz : Nat} (ht : eltOf P t = some sz) (hx : ev n σ x = .slice a len cap) (h : K (mk n (up σ d (VI cap))) w) :
    Oper.wp P ⟨some d, .call ⟨.builtin .cap, #[x], #[t]⟩, ty, pos, aft, g⟩ (mk n σ) w K Q :=
  o_val (run_builtin (s := Builtin.cap_ #[t] ty #[.slice a len cap]) (vs := #[.slice a len cap]) (by simp [hx]) (fun _ => rfl) (by
    unfold eltOf at ht
    cases hu : P.underlying t with
    | none => simp [hu] at ht
    | some ds =>
      cases ds <;> simp only [hu] at ht <;> try (cases ht)
      simp [Builtin.cap_, run_underlying hu, goInt])) h
theorem run_max_int2' {ts : Array TypeId} {t : TypeId} {k : IntKind} {x y : Int} : (Builtin.max_ ts t #[.int k x, .int k y]).run P w = .ok (.int k (if y > x then y else x)) w := by
  simp [Builtin.max_, Builtin.max2]
structure SlTy (P : Program) (t e : TypeId) (sz bytes : Nat) : Prop where
  und : P.underlying t = some (.slice e)
  row : ∃ i z, P.info? e = some i ∧ i.zero = some z ∧ i.size = sz ∧ i.bytes = bytes ∧ z.cells.size = sz
theorem SlTy.mk' {t e sz bytes : Nat} (h1 : P.underlying t = some (.slice e)) (h2 : ((P.info? e).bind fun i => i.zero.map fun z => (i.size, i.bytes, z.cells.size)) = some (sz, bytes, sz)) : SlTy P t e sz bytes := by
  refine ⟨h1, ?_⟩
  cases hi : P.info? e with
  | none => simp [hi] at h2
  | some i =>
    cases hz : i.zero with
    | none => simp [hi, hz] at h2
    | some z => simp [hi, hz] at h2; exact ⟨i, z, rfl, hz, h2.1, h2.2.1, h2.2.2⟩
theorem RdS.src {sz : Nat} {tx e' : TypeId} {a : Option Addr} {len cap : Nat} {vs : List Value} (hk : P.underlying tx = some (.slice e')) (hr : RdS w a vs) (hl : vs.length = len * sz) (hs : 0 < sz) (h1 : ∀ u ∈ vs, u.oneCell' = true) :
    Src P sz tx (.slice a len cap) len vs w := by
  by_cases h0 : vs = []
  · subst h0
    have : len = 0 := by rcases Nat.mul_eq_zero.1 hl.symm with h | h <;> omega
    subst this
    cases a with
    | none => exact Src.ofNil w hk cap
    | some a => exact Src.ofSlice w hk a 0 cap [] (by simp) (by simp) (by simp)
  · rcases hr with h | ⟨b, o, C, T, fr, rfl, hb, hc⟩
    · exact absurd h h0
    · exact Src.ofSlice w hk _ len cap vs hl (fun j u hj => by rw [Addr.add_mid]; simp [World.cell?, hb, hc j u hj]) h1
theorem slicecap_le {a b by_ : Nat} (h : a * by_ ≤ 140737488355328) (hb : b < a) : Builtin.nextslicecap a b * by_ ≤ 281474976710656 :=
  Nat.le_trans (Nat.mul_le_mul_right _ (nextslicecap_le hb)) (by rw [Nat.mul_assoc]; omega)
/-- append to a slice of the call's own. -/
theorem o_app {i : Nat} {a : Option Nat} {len cap : Nat} {xs : List Value} {e : TypeId} {sz bytes m : Nat} {tx : TypeId} {v : Value} {news : List Value} (H : Hp w0 w S L) (hi : L[i]? = some (.own a len cap xs e sz))
    (hT : SlTy P t e sz bytes) (hx : ev n σ x = .slice (hd a) len cap) (hy : ev n σ y = v) (hsrc : Src P sz tx v m news w) (_hsz : 0 < sz)
    (hlen : len + m ≤ 4611686018427387903) (hbytes : (len + m) * bytes ≤ 140737488355328)
    (h : ∀ a' cap' w', Hp w0 w' S (L.set i (.own a' (len + m) cap' (xs ++ news) e sz)) → K (mk n (up σ d (.slice (hd a') (len + m) cap'))) w') :
    Oper.wp P ⟨some d, .call ⟨.builtin .append, #[x, y], #[t, tx]⟩, ty, pos, aft, g⟩ (mk n σ) w K Q := by
  obtain ⟨inf, zv, hinf, hzv, hsize, hby, hzs⟩ := hT.row
  have hok := H.has _ (List.mem_of_getElem? hi)
  have hargs : (#[x, y] : Array Operand).map (ev n σ) = #[.slice (hd a) len cap, v] := by simp [hx, hy]
  have hxl : xs.length = len * sz := by
    cases a with
    | none => obtain ⟨rfl, rfl, rfl⟩ := hok; simp
    | some b => exact hok.1
  by_cases hroom : len + m ≤ cap
  · cases a with
    | none =>
      obtain ⟨rfl, rfl, rfl⟩ := hok
      have hm : m = 0 := by omega
      subst hm
      have hnews : news = [] := List.length_eq_zero_iff.1 (by rw [hsrc.newsLen]; simp)
      subst hnews
      refine o_val (run_builtin (s := Builtin.append_ #[t, tx] ty #[.slice none 0 0, v]) (vs := #[.slice none 0 0, v]) (v := .slice none 0 0) hargs (fun _ => rfl) ?_) (h none 0 w ?_)
      · rcases hsrc.kind with ⟨e', hk⟩ | hk <;> simp [Builtin.append_, run_underlying hT.und, run_underlying hk, sizeOf, typeInfo, hinf, hsrc.len, hsize, hsrc.cells]
      · have : L.set i (.own none (0 + 0) 0 ([] ++ []) e sz) = L := by
          apply List.ext_getElem?
          intro j
          by_cases hij : i = j
          · subst hij
            have hlt := (List.getElem?_eq_some_iff.1 hi).1
            rw [List.getElem?_set_self hlt, hi]; rfl
          · rw [List.getElem?_set_ne hij]
        rw [this]; exact H
    | some b =>
      obtain ⟨_, hle, hmx, rest, hw, hcap⟩ := hok
      have hrow := run_append_room_src (P := P) w t tx ty e inf hT.und hinf b 0 len cap v m news (by rw [hsize]; exact hsrc) hroom
        (fun j hj => by
          have : 0 + len * inf.size + j < (xs ++ rest).length := by
            rw [hcap, hsize, Nat.zero_add]
            have := hsrc.newsLen
            have h2 : (len + m) * sz ≤ cap * sz := Nat.mul_le_mul_right _ hroom
            rw [Nat.add_mul] at h2; omega
          simp only [World.cell?, hw]
          rw [List.getElem?_toArray, List.getElem?_eq_getElem this]; simp)
        (fun j hj => by simp [World.frozen?, hw])
      have hnl := hsrc.newsLen
      have hfit : len * sz + news.length ≤ (xs ++ rest).length := by
        rw [hcap, hnl, ← Nat.add_mul]; exact Nat.mul_le_mul_right _ hroom
      have hset : w.setCells b (0 + len * inf.size) news = w.setRow b (xs ++ news ++ rest.drop news.length).toArray := by
        have h1 := run_storeCells_at (P := P) b (0 + len * inf.size) e news 0 (xs ++ rest).toArray w hw (by simp only [List.size_toArray]; rw [hsize]; omega) hsrc.one
        have h2 := run_storeCells_cells (P := P) b (0 + len * inf.size) news 0 w
          (fun j hj => by
            have : 0 + len * inf.size + 0 + j < (xs ++ rest).length := by rw [hsize]; omega
            simp only [World.cell?, hw]
            rw [List.getElem?_toArray, List.getElem?_eq_getElem this]; simp)
          (fun j hj => by simp [World.frozen?, hw]) hsrc.one
        rw [h1] at h2
        simp only [Result.ok.injEq, true_and, Nat.add_zero, Nat.zero_add] at h2
        rw [Nat.zero_add, ← h2, hsize]
        congr 2
        rw [show len * sz = xs.length from hxl.symm]
        simp [List.drop_append]
      rw [hset] at hrow
      refine o_val (run_builtin (s := Builtin.append_ #[t, tx] ty #[.slice (some ⟨b, 0, none⟩) len cap, v]) (vs := #[.slice (some ⟨b, 0, none⟩) len cap, v]) hargs (fun _ => rfl) hrow) (h (some b) cap _ ?_)
      refine H.row hi rfl rfl hw fun w' hw' => ⟨by rw [List.length_append, hxl, hnl, Nat.add_mul], hroom, hmx, rest.drop news.length, hw', ?_⟩
      rw [← hcap]; simp only [List.length_append, List.length_drop]
      simp only [List.length_append] at hfit hcap
      rw [hxl] at *; omega
  · have hfc : (Builtin.firstCells inf.size len (.slice (hd a) len cap)).run P w.drew = .ok xs.toArray w.drew := by
      cases a with
      | none => obtain ⟨rfl, rfl, rfl⟩ := hok; exact run_firstCells_none w.drew inf.size 0 0 0
      | some b =>
        obtain ⟨h1, _, _, rest, hw, _⟩ := hok
        refine run_firstCells_some w.drew inf.size len ⟨b, 0, none⟩ len cap xs (by rw [h1, hsize]) fun j u hj => ?_
        rw [Addr.add_mid, World.cell?_drew]
        have hlt : j < xs.length := (List.getElem?_eq_some_iff.1 hj).1
        simp [World.cell?, hw, List.getElem?_append_left hlt, hj]
    have hrow := run_append_grow_src (P := P) w t tx ty e inf zv hT.und hinf hzv (hd a) len cap xs hfc v m news (by rw [hsize]; exact hsrc) (by omega) (by omega)
      (by rw [hby]; exact slicecap_le hbytes (by omega))
    have hgc := grownCap_ge w (len + m) cap e
    have hgm := grownCap_le_maxLen w (len + m) cap e (by simp [maxLen]; omega)
    generalize hcc : grownCap w (len + m) cap e = cc at *
    refine o_val (run_builtin (s := Builtin.append_ #[t, tx] ty #[.slice (hd a) len cap, v]) (vs := #[.slice (hd a) len cap, v]) hargs (fun _ => rfl) hrow) (h (some w.heap.size) cc _ ?_)
    have hL : (xs ++ news ++ (Builtin.zeroCells zv.cells (cc - (len + m))).toList).length = cc * sz := by
      simp only [List.length_append, Array.length_toList, size_zeroCells, hzs, hxl, hsrc.newsLen]
      rw [← Nat.add_mul, ← Nat.add_mul]; congr 1; omega
    refine H.drew.turn hi (c' := .own (some w.heap.size) (len + m) cc (xs ++ news) e sz) ⟨by rw [List.length_append, hxl, hsrc.newsLen, Nat.add_mul], hgc, hgm, (Builtin.zeroCells zv.cells (cc - (len + m))).toList, ?_, hL⟩
      (fun b hb => .inr (by cases hb; exact Nat.le_refl _)) rfl rfl rfl (by simp) (fun b hb _ => heap_alloc_old' _ _ _ (by simp at hb ⊢; omega))
    have := heap_alloc_new' w.drew (.cells ((xs ++ news).toArray ++ Builtin.zeroCells zv.cells (cc - (len + m))) e)
    simp only [World.size_drew] at this
    rw [this]
    congr 2
    apply Array.ext'
    simp
end
end Go.Proofs.Ytncmcgcilijfkaa
namespace Go.Proofs.Ytncmcgcilijfkaa
open Go
section
variable {P : Program} {Q : Exit → Act → World → Prop} {n : Nat} {σ : Nat → Value} {w w0 : World} {K : Act → World → Prop}
  {ty : TypeId} {pos : String} {aft : Array Edge} {g : Option (Nat × Bool)} {d : Nat} {t yt : TypeId} {x y z : Operand} {S : List Nat} {L : List Ch}
/-- 'make([]T, l, c)', elements of one cell. -/
theorem o_make {e : TypeId} {bytes l c : Nat} {k k' : IntKind} {li ci : Int} {zv : Value} (H : Hp w0 w S L) (hT : SlTy P t e 1 bytes) (hz : zeroCells P e = some [zv]) (hx : ev n σ x = .int k li) (hy : ev n σ y = .int k' ci)
    (hl : li = (l : Int)) (hc : ci = (c : Int)) (hlc : l ≤ c) (hb : bytes * c ≤ 281474976710656) (h63 : c ≤ maxLen)
    (h : ∀ b w', Hp w0 w' S (L ++ [.blk b (List.replicate c zv) e]) → w0.heap.size ≤ b → K (mk n (up σ d (.slice (some ⟨b, 0, none⟩) l c))) w') :
    Oper.wp P ⟨some d, .makeSlice t x y, ty, pos, aft, g⟩ (mk n σ) w K Q := by
  obtain ⟨i, z0, hi, hz0, hs, hby, hzs⟩ := hT.row
  subst hl hc
  have hzc : z0.cells.toList = [zv] := by simpa [zeroCells, hi, hz0] using hz
  have hzc' : z0.cells = #[zv] := by apply Array.ext'; simpa using hzc
  have h63' : (c : Int) ≤ 9223372036854775807 := Int.ofNat_le.2 h63
  have hr := run_make (P := P) (w := w) t e i z0 hT.und hi hz0 k k' (l : Int) (c : Int) (by omega) (by omega) (by rw [hby]; exact Int.ofNat_le.2 hb) h63'
  have e1 : madeCells z0.cells ((c : Int).toNat * i.size) = (List.replicate c zv).toArray := by
    rw [hzc', hs, Nat.mul_one, Int.toNat_natCast]
    apply Array.ext'
    exact toList_madeCells_one zv c
  rw [e1] at hr
  refine o_val (by simp only [execOp, hx, hy, Sem.run_bind, hr, Result.andThen_ok, Int.toNat_natCast]; rfl) (h w.heap.size _ (H.alloc _ e) H.size)
theorem run_bsl {e : TypeId} {sz bytes len : Nat} {zs : List Value} {cells : Array Value} (hT : SlTy P t e sz bytes) (hz : zeroCells P e = some zs) (_hs : 0 < sz) (hlen : len * sz ≤ 16777216) (parts : Array (Nat × Value))
    (hf : Instr.fill (fun i => some (i * sz, sz)) ((Array.range (len * sz)).map (zs.toArray[· % zs.toArray.size]!)) parts.toList = some cells) :
    (Instr.buildSlice t len parts).run P w = .ok (.slice (some ⟨w.heap.size, 0, none⟩) len len) (w.alloc (.cells cells e)) := by
  obtain ⟨i, z0, hi, hz0, hsz, hby, hzs⟩ := hT.row
  have hzc : z0.cells = zs.toArray := by
    have : z0.cells.toList = zs := by simpa [zeroCells, hi, hz0] using hz
    apply Array.ext'; simpa using this
  have h1 : (sizeOf e).run P w = .ok sz w := run_sizeOf_sz (by simp [cellSz, hi, hsz]) w
  have h2 : (zeroValue e).run P w = .ok z0 w := by simp [zeroValue, typeInfo, hi, hz0]
  have hn : ¬ (len * sz > 2 ^ 24) := by omega
  have fin : ∀ zz : Array Value, Instr.fill (fun i => some (i * sz, sz)) ((Array.range (len * sz)).map (zz[· % zz.size]!)) parts.toList = some cells →
      (match Instr.fill (fun i => some (i * sz, sz)) ((Array.range (len * sz)).map (zz[· % zz.size]!)) parts.toList with
        | some cells => (do pure (.slice (some (← newRow e cells)) len len) : Sem Value)
        | _ => stuck "buildSlice: a part of the wrong size").run P w = .ok (.slice (some ⟨w.heap.size, 0, none⟩) len len) (w.alloc (.cells cells e)) := by
    intro zz hzz
    rw [hzz]
    simp [newRow]
  unfold Instr.buildSlice
  rw [Sem.run_bind, run_underlying hT.und]
  simp only [Result.andThen_ok]
  rw [Sem.run_bind, h1]
  simp only [Result.andThen_ok]
  rw [if_neg hn]
  by_cases h0 : len * sz = 0
  · have e1 : ∀ zz : Array Value, (Array.range (len * sz)).map (zz[· % zz.size]!) = #[] := fun zz => by
      rw [h0]; apply Array.ext'; simp
    rw [if_pos h0, Sem.run_bind, Sem.run_pure]
    simp only [Result.andThen_ok]
    exact fin #[] (by rw [e1, ← e1 zs.toArray]; exact hf)
  · rw [if_neg h0, Sem.run_bind, h2]
    simp only [Result.andThen_ok]
    rw [Sem.run_bind, Sem.run_pure]
    simp only [Result.andThen_ok]
    exact fin z0.cells (by rw [hzc]; exact hf)
/-- a slice literal. -/
theorem o_bsl {e : TypeId} {sz bytes len : Nat} {parts : Array (Nat × Operand)} {zs : List Value} {pv : List (Nat × Value)} {cells : Array Value} (H : Hp w0 w S L) (hT : SlTy P t e sz bytes) (hz : zeroCells P e = some zs) (hs : 0 < sz)
    (hp0 : pvs n σ parts.toList = pv) (hlen : len * sz ≤ 16777216)
    (hf : Instr.fill (fun i => some (i * sz, sz)) ((Array.range (len * sz)).map (zs.toArray[· % zs.toArray.size]!)) pv = some cells)
    (h : ∀ b w', Hp w0 w' S (L ++ [.blk b cells.toList e]) → w0.heap.size ≤ b → K (mk n (up σ d (.slice (some ⟨b, 0, none⟩) len len))) w') :
    Oper.wp P ⟨some d, .buildSlice t len parts, ty, pos, aft, g⟩ (mk n σ) w K Q := by
  have hp : (parts.map fun (i, x) => (i, ev n σ x)).toList = pv := by rw [← hp0, pvs_eq, Array.toList_map]
  refine o_val (v := .slice (some ⟨w.heap.size, 0, none⟩) len len) (w' := w.alloc (.cells cells e)) ?_ (h _ _ (by simpa using H.alloc cells.toList e) H.size)
  have hr := run_bsl (P := P) (w := w) hT hz hs hlen (parts.map fun (i, x) => (i, ev n σ x)) (by rw [hp]; exact hf)
  simp only [execOp, Sem.run_bind, hr, Result.andThen_ok]
  rfl
/-- how a type is built: its zero, and where its parts lie. -/
structure Bld (P : Program) (t : TypeId) (zs : Array Value) (places : Nat → Option (Nat × Nat)) : Prop where
  eq : ∀ parts, P.built t parts = Instr.fill places zs parts
def placesOf (P : Program) (t : TypeId) : Option (Array (Nat × Nat)) :=
  match P.underlying t with
  | some (.struct fs) => (fs.toList.mapM fun f => (P.info? f.type).map fun i => (f.offset, i.size)).map (·.toArray)
  | _ => none
theorem Bld.str {t : TypeId} {pl : Array (Nat × Nat)} {zs : List Value} (h1 : placesOf P t = some pl) (h2 : zeroCells P t = some zs) : Bld P t zs.toArray fun i => pl[i]? := by
  constructor
  intro parts
  unfold placesOf at h1
  cases hu : P.underlying t with
  | none => simp [hu] at h1
  | some ds =>
    cases ds <;> simp only [hu] at h1 <;> try (cases h1)
    rename_i fs
    cases hm : fs.toList.mapM (fun f => (P.info? f.type).map fun i => (f.offset, i.size)) with
    | none => simp [hm] at h1
    | some places =>
      simp only [hm, Option.map_some, Option.some.injEq] at h1
      subst h1
      unfold zeroCells at h2
      cases hi : P.info? t with
      | none => simp [hi] at h2
      | some i =>
        cases hz : i.zero with
        | none => simp [hi, hz] at h2
        | some z =>
          simp [hi, hz] at h2
          have : z.cells = zs.toArray := by apply Array.ext'; simpa using h2
          simp only [Program.built, hi, hu, hz, hm, this]
def en : Nat → List Value → List (Nat × Value)
  | _, [] => []
  | i, v :: l => (i, v) :: en (i + 1) l
theorem fill_en_aux : ∀ (vs A : List Value) (B : List Value), (∀ v ∈ vs, v.oneCell' = true) → vs.length = B.length → Instr.fill (fun i => some (i * 1, 1)) (A ++ B).toArray (en A.length vs) = some (A ++ vs).toArray
  | [], A, B, _, hl => by
    have : B = [] := List.length_eq_zero_iff.1 (by simpa using hl.symm)
    subst this; simp [en, Instr.fill]
  | v :: vs, A, [], _, hl => by simp at hl
  | v :: vs, A, b :: B, h1, hl => by
    have hv := h1 v (by simp)
    have hc : v.cells = #[v] := by cases v <;> simp_all [Value.cells, Value.oneCell']
    have ih := fill_en_aux vs (A ++ [v]) B (fun u hu => h1 u (by simp [hu])) (by simpa using hl)
    simp only [List.length_append, List.length_singleton, List.append_assoc, List.singleton_append] at ih
    simp only [en, Instr.fill, hc, Nat.mul_one]
    rw [if_neg (by simp)]
    have e : (#[v] : Array Value).zipIdx = #[(v, 0)] := by simp [Array.zipIdx]
    rw [← ih]
    congr 1
    · funext i; rw [Nat.mul_one]
    · rw [e]
      apply Array.ext'
      simp []
theorem fill_en {zs : List Value} (vs : List Value) (h1 : vs.toArray.all (·.oneCell') = true) (hl : vs.length = zs.length) : Instr.fill (fun i => some (i * 1, 1)) zs.toArray (en 0 vs) = some vs.toArray := by
  have := fill_en_aux vs [] zs (by rw [List.all_toArray] at h1; simpa using h1) hl
  simpa using this
/-- 'copy' onto cells of a known block. -/
theorem o_copy {b o i : Nat} {C : List Value} {T e e' : TypeId} {sz dLen dCap sLen sCap : Nat} {a : Option Addr} {vs : List Value} {tx : TypeId} (H : Hp w0 w S L) (hi : L[i]? = some (.blk b C T)) (hu : P.underlying t = some (.slice e)) (hu' : P.underlying tx = some (.slice e')) (hs : cellSz P e = some sz) (hsz : 0 < sz)
    (hx : ev n σ x = .slice (some ⟨b, o, none⟩) dLen dCap) (hy : ev n σ y = .slice a sLen sCap) (hr : RdS w a vs) (hl : vs.length = sLen * sz) (h1 : ∀ u ∈ vs, u.oneCell' = true) (hfit : o + dLen * sz ≤ C.length)
    (h : ∀ w', Hp w0 w' S (L.set i (.blk b (C.take o ++ vs.take (min sLen dLen * sz) ++ C.drop (o + min sLen dLen * sz)) T)) → K (mk n (up σ d (VI ((min sLen dLen : Nat) : Int)))) w') :
    Oper.wp P ⟨some d, .call ⟨.builtin .copy, #[x, y], #[t, tx]⟩, ty, pos, aft, g⟩ (mk n σ) w K Q := by
  have hmin : min sLen dLen * sz ≤ vs.length := by rw [hl]; exact Nat.mul_le_mul_right _ (Nat.min_le_left _ _)
  have hmin2 : min sLen dLen * sz ≤ dLen * sz := Nat.mul_le_mul_right _ (Nat.min_le_right _ _)
  have hlen : (vs.take (min sLen dLen * sz)).length = min sLen dLen * sz := by rw [List.length_take]; omega
  have hst := run_storeCells_at (P := P) b o T (vs.take (min sLen dLen * sz)) 0 C.toArray w (H.blk hi) (by rw [hlen]; simp; omega) (fun v hv => h1 v (List.mem_of_mem_take hv))
  rw [hlen] at hst
  simp only [Nat.add_zero] at hst
  have hfc : (Builtin.firstCells sz (min sLen dLen) (.slice a sLen sCap)).run P w = .ok (vs.take (min sLen dLen * sz)).toArray w := by
    have hsrc : Src P sz tx (.slice a (min sLen dLen) sCap) (min sLen dLen) (vs.take (min sLen dLen * sz)) w :=
      (hr.take _).src hu' hlen hsz (fun v hv => h1 v (List.mem_of_mem_take hv))
    have := hsrc.cells
    cases a <;> exact this
  have hsz' := run_sizeOf_sz hs w
  refine o_val (run_builtin (s := Builtin.copy_ #[t, tx] ty #[.slice (some ⟨b, o, none⟩) dLen dCap, .slice a sLen sCap]) (vs := #[.slice (some ⟨b, o, none⟩) dLen dCap, .slice a sLen sCap]) (v := VI ((min sLen dLen : Nat) : Int))
    (w' := w.setRow b (C.take o ++ vs.take (min sLen dLen * sz) ++ C.drop (o + min sLen dLen * sz)).toArray) (by simp [hx, hy]) (fun _ => rfl) ?_) (h _ (H.row hi rfl rfl (H.blk hi) fun w' hw => hw))
  have hnat : Nat.min sLen dLen = min sLen dLen := rfl
  simp only [List.append_assoc] at hst ⊢
  simp [Builtin.copy_, run_underlying hu, Builtin.lenOf, hsz', hnat, hfc, hst, goInt]
theorem wp_held {id : Nat} {l : List Oper} {a : Act} (S' : World → Prop) (hm : P.follows .mixedOrders = true)
    (h : wpAnyH P .any l.toArray Q S' l.length (Array.replicate l.length false) a w.drew) : (Code.region id l.toArray true).wp P Q a w :=
  wp_region_held hm (by simpa using h)
end
end Go.Proofs.Ytncmcgcilijfkaa
namespace Go.Proofs.Ytncmcgcilijfkaa
open Go
section
variable {P : Program} {Q : Exit → Act → World → Prop} {n : Nat} {σ : Nat → Value} {w w0 : World} {K : Act → World → Prop}
  {ty : TypeId} {pos : String} {aft : Array Edge} {g : Option (Nat × Bool)} {d : Nat} {t yt : TypeId} {x y z : Operand} {S : List Nat} {L : List Ch} {op : BinOp}
theorem r_mv {x : Operand}  :
    (execOp (ev n σ) ⟨some d, .move x, ty, pos, aft, g⟩).run P w = .ok (.value ((ev n σ x))) w :=
  (by simp [execOp])
theorem r_as {x : Operand}  :
    (execOp (ev n σ) ⟨some d, .assign x, ty, pos, aft, g⟩).run P w = .ok (.value ((ev n σ x))) w :=
  (by simp [execOp])
theorem r_pick {c x y : Operand} {b : Bool} (hc : ev n σ c = .bool b)  :
    (execOp (ev n σ) ⟨some d, .pick c x y, ty, pos, aft, g⟩).run P w = .ok (.value ((bif b then ev n σ x else ev n σ y))) w :=
  (by cases b <;> simp [execOp, hc, asBool])
theorem r_ext {x : Operand} {i : Nat} {vs : Array Value} {v : Value} (hx : ev n σ x = .tuple vs) (hv : vs[i]? = some v)  :
    (execOp (ev n σ) ⟨some d, .extract x i, ty, pos, aft, g⟩).run P w = .ok (.value (v)) w :=
  (by simp [execOp, hx, Instr.extract, hv])
theorem r_nilc {x : Operand} {a : Addr} (hx : ev n σ x = .pointer (some a))  :
    (execOp (ev n σ) ⟨some d, .nilCheck x, ty, pos, aft, g⟩).run P w = .ok (.value ((.pointer (some a)))) w :=
  (by simp [execOp, hx])
theorem r_not {x : Operand} {b : Bool} {t : TypeId} (hx : ev n σ x = .bool b)  :
    (execOp (ev n σ) ⟨some d, .unOp .not t x, ty, pos, aft, g⟩).run P w = .ok (.value ((.bool (!b)))) w :=
  (by simp [execOp, hx, Op.unary])
theorem r_bin {k : IntKind} {a b : Int} {v : Value} (hx : ev n σ x = .int k a) (hy : ev n σ y = .int k b)
    (hr : ∀ w : World, (binOp op t (.int k a) (.int k b)).run P w = .ok v w)  :
    (execOp (ev n σ) ⟨some d, .binOp op t x y yt, ty, pos, aft, g⟩).run P w = .ok (.value (v)) w :=
  (by
    have he : (eqGuard op t x y (.int k a) (.int k b)).run P w = .ok () w := by
      unfold eqGuard
      cases op <;> simp
    simp [execOp, hx, hy, he, hr])
theorem r_bne {a b : Bool} (hu : P.underlying t = some .bool) (hx : ev n σ x = .bool a) (hy : ev n σ y = .bool b)  :
    (execOp (ev n σ) ⟨some d, .binOp .neq t x y yt, ty, pos, aft, g⟩).run P w = .ok (.value ((.bool (!(a == b))))) w :=
  (by
    have e1 : (Op.equal t (.bool a) (.bool b)).run P w = .ok (a == b) w := run_equal_bool hu a b w
    have e2 : binOp .neq t (.bool a) (.bool b) = (do pure (.bool (!(← Op.equal t (.bool a) (.bool b))))) := rfl
    simp [execOp, hx, hy, eqGuard, e2, e1])
theorem r_str {a b : ByteArray} {v : Value} (hx : ev n σ x = .string a) (hy : ev n σ y = .string b)
    (hr : ∀ w : World, (Op.stringOp op a b).run P w = .ok v w) (ho : op ≠ .shl ∧ op ≠ .shr)  :
    (execOp (ev n σ) ⟨some d, .binOp op t x y yt, ty, pos, aft, g⟩).run P w = .ok (.value (v)) w :=
  (by
    have he : (eqGuard op t x y (.string a) (.string b)).run P w = .ok () w := by
      unfold eqGuard
      cases op <;> simp
    cases op <;> simp_all [execOp, binOp])
theorem r_fa {b o i k : Nat} (hx : ev n σ x = .pointer (some ⟨b, o, none⟩)) (hf : fieldOff P t i = some k)  :
    (execOp (ev n σ) ⟨some d, .fieldAddr t x i, ty, pos, aft, g⟩).run P w = .ok (.value ((.pointer (some ⟨b, o + k, none⟩)))) w := by
  unfold fieldOff at hf
  cases hu : P.underlying t with
  | none => simp [hu] at hf
  | some ds =>
    cases ds <;> simp only [hu] at hf <;> try (cases hf)
    rename_i fs
    cases hfs : fs[i]? with
    | none => simp [hfs] at hf
    | some f =>
      cases hj : P.info? f.type with
      | none => simp [hfs, hj] at hf
      | some j =>
        simp only [hfs, hj, Option.bind_some] at hf
        split at hf
        · cases hf
        · cases hf
          rename_i hsz
          simp [execOp, hx, Instr.fieldAt, run_underlying hu, hfs, Instr.sureAddr, fieldPlace, sizeOf, typeInfo, hj, hsz, Addr.add_mid]
theorem r_ld {b o i : Nat} {C : List Value} {T : TypeId} {v : Value} (H : Hp w0 w S L) (hi : L[i]? = some (.blk b C T)) (hx : ev n σ x = .pointer (some ⟨b, o, none⟩)) (ht : cellTy P t = true) (hv : C[o]? = some v)  :
    (execOp (ev n σ) ⟨some d, .load t x, ty, pos, aft, g⟩).run P w = .ok (.value (v)) w :=
  (by
    have hc : w.cell? ⟨b, o, none⟩ = some v := by simp [World.cell?, H.blk hi, hv]
    simp [execOp, hx, run_loadAt_cell ht hc])
theorem r_ldr {b o i k : Nat} {C : List Value} {T : TypeId} (H : Hp w0 w S L) (hi : L[i]? = some (.blk b C T)) (hx : ev n σ x = .pointer (some ⟨b, o, none⟩)) (ht : rowTy P t = some k) (hk : o + k ≤ C.length)  :
    (execOp (ev n σ) ⟨some d, .load t x, ty, pos, aft, g⟩).run P w = .ok (.value ((.agg ((C.drop o).take k).toArray))) w :=
  (by simp [execOp, hx, run_loadAt_row (H.blk hi) ht hk])
theorem r_lds {b o i : Nat} {a : Option Addr} {vs : List Value} {v : Value} (hr : RdS w a vs) (ha : a = some ⟨b, o, none⟩) (hx : ev n σ x = .pointer (some ⟨b, o + i, none⟩)) (ht : cellTy P t = true) (hv : vs[i]? = some v)  :
    (execOp (ev n σ) ⟨some d, .load t x, ty, pos, aft, g⟩).run P w = .ok (.value (v)) w :=
  (by
    obtain ⟨b', o', ha', hc⟩ := hr.cell hv
    rw [ha] at ha'; cases ha'
    simp [execOp, hx, run_loadAt_cell ht hc])
theorem r_ldsr {b o i k : Nat} {a : Option Addr} {vs : List Value} (hr : RdS w a vs) (ha : a = some ⟨b, o, none⟩) (hx : ev n σ x = .pointer (some ⟨b, o + i, none⟩)) (ht : rowTy P t = some k) (hk0 : 0 < k) (hk : i + k ≤ vs.length)  :
    (execOp (ev n σ) ⟨some d, .load t x, ty, pos, aft, g⟩).run P w = .ok (.value ((.agg ((vs.drop i).take k).toArray))) w := by
  rcases hr with rfl | ⟨b', o', C, T, fr, ha', hb, hc⟩
  · simp at hk; omega
  · rw [ha] at ha'; cases ha'
    have hlen : o + vs.length ≤ C.size := by
      have := hc (vs.length - 1) (vs[vs.length - 1]'(by omega)) (List.getElem?_eq_getElem (by omega))
      have := (Array.getElem?_eq_some_iff.1 this).1
      omega
    have e := run_loadAt_row (P := P) (t := t) (k := k) (b := b) (o := o + i) (C := C.toList) (T := T) (fr := fr) (w := w) (by simpa using hb) ht (by simp; omega)
    have e2 : (C.toList.drop (o + i)).take k = (vs.drop i).take k := by
      apply List.ext_getElem?
      intro j
      by_cases hj : j < k
      · rw [List.getElem?_take_of_lt hj, List.getElem?_take_of_lt hj, List.getElem?_drop, List.getElem?_drop, List.getElem?_eq_getElem (l := vs) (by omega)]
        have := hc (i + j) _ (List.getElem?_eq_getElem (by omega))
        simpa [Nat.add_assoc] using this
      · simp [List.getElem?_take, hj]
    rw [e2] at e
    simp [execOp, hx, e]
theorem r_sl {lo hi mx : Option Operand} {a : Option Addr} {len cap sz l h m : Nat} {lv hv mv : Option Value} (hx : ev n σ x = .slice a len cap) (ht : eltOf P t = some sz)
    (hl : lo.map (ev n σ) = lv) (hh : hi.map (ev n σ) = hv) (hm : mx.map (ev n σ) = mv) (hb : ∀ w, (Instr.sliceBounds true len cap lv hv mv).run P w = .ok (l, h, m) w)  :
    (execOp (ev n σ) ⟨some d, .slice t x lo hi mx, ty, pos, aft, g⟩).run P w = .ok (.value ((.slice (sa a l m sz) (h - l) (m - l)))) w := by
  unfold eltOf at ht
  cases hu : P.underlying t with
  | none => simp [hu] at ht
  | some ds =>
    cases ds <;> simp only [hu] at ht <;> try (cases ht)
    rename_i e
    cases hj : P.info? e with
    | none => simp [hj] at ht
    | some j =>
      simp only [hj, Option.map_some, Option.some.injEq] at ht
      subst ht
      simp [execOp, hx, hl, hh, hm, Instr.sliceAt, Instr.slice, run_underlying hu, hb, sizeOf, typeInfo, hj, sa]
theorem r_sls {lo hi : Option Operand} {s : ByteArray} {l h m : Nat} {lv hv : Option Value} (hu : P.underlying t = some .string) (hx : ev n σ x = .string s)
    (hl : lo.map (ev n σ) = lv) (hh : hi.map (ev n σ) = hv) (hb : ∀ w, (Instr.sliceBounds false s.size s.size lv hv none).run P w = .ok (l, h, m) w)  :
    (execOp (ev n σ) ⟨some d, .slice t x lo hi none, ty, pos, aft, g⟩).run P w = .ok (.value ((.string (s.extract l h)))) w :=
  (by simp [execOp, hx, hl, hh, Instr.sliceAt, Instr.slice, run_underlying hu, hb])
theorem r_lens {a : Option Addr} {len cap : Nat} {sz : Nat} (ht : eltOf P t = some sz) (hx : ev n σ x = .slice a len cap)  :
    (execOp (ev n σ) ⟨some d, .call ⟨.builtin .len, #[x], #[t]⟩, ty, pos, aft, g⟩).run P w = .ok (.value ((VI len))) w :=
  (run_builtin (s := Builtin.len_ #[t] ty #[.slice a len cap]) (vs := #[.slice a len cap]) (by simp [hx]) (fun _ => rfl) (by
    unfold eltOf at ht
    cases hu : P.underlying t with
    | none => simp [hu] at ht
    | some ds =>
      cases ds <;> simp only [hu] at ht <;> try (cases ht)
      simp [Builtin.len_, run_underlying hu, goInt]))
theorem r_caps {a : Option Addr} {len cap : Nat} {sz : Nat} (ht : eltOf P t = some sz) (hx : ev n σ x = .slice a len cap)  :
    (execOp (ev n σ) ⟨some d, .call ⟨.builtin .cap, #[x], #[t]⟩, ty, pos, aft, g⟩).run P w = .ok (.value ((VI cap))) w :=
  (run_builtin (s := Builtin.cap_ #[t] ty #[.slice a len cap]) (vs := #[.slice a len cap]) (by simp [hx]) (fun _ => rfl) (by
    unfold eltOf at ht
    cases hu : P.underlying t with
    | none => simp [hu] at ht
    | some ds =>
      cases ds <;> simp only [hu] at ht <;> try (cases ht)
      simp [Builtin.cap_, run_underlying hu, goInt]))
theorem r_lenstr {s : ByteArray} (hu : P.underlying t = some .string) (hx : ev n σ x = .string s)  :
    (execOp (ev n σ) ⟨some d, .call ⟨.builtin .len, #[x], #[t]⟩, ty, pos, aft, g⟩).run P w = .ok (.value ((VI s.size))) w :=
  (run_builtin (s := Builtin.len_ #[t] ty #[.string s]) (vs := #[.string s]) (by simp [hx]) (fun _ => rfl) (by
      simp [Builtin.len_, run_underlying hu, goInt]))
theorem r_min {k : IntKind} {a b : Int} {ats : Array TypeId} (hx : ev n σ x = .int k a) (hy : ev n σ y = .int k b)  :
    (execOp (ev n σ) ⟨some d, .call ⟨.builtin .min, #[x, y], ats⟩, ty, pos, aft, g⟩).run P w = .ok (.value ((.int k (if b < a then b else a)))) w :=
  (run_builtin (s := Builtin.min_ ats ty #[.int k a, .int k b]) (vs := #[.int k a, .int k b]) (by simp [hx, hy]) (fun _ => rfl) (run_min_int2 _ ats ty k k a b))
theorem r_max {k : IntKind} {a b : Int} {ats : Array TypeId} (hx : ev n σ x = .int k a) (hy : ev n σ y = .int k b)  :
    (execOp (ev n σ) ⟨some d, .call ⟨.builtin .max, #[x, y], ats⟩, ty, pos, aft, g⟩).run P w = .ok (.value ((.int k (if a < b then b else a)))) w :=
  (run_builtin (s := Builtin.max_ ats ty #[.int k a, .int k b]) (vs := #[.int k a, .int k b]) (by simp [hx, hy]) (fun _ => rfl) run_max_int2')
theorem r_b2s {e : TypeId} {a : Option Addr} {len cap : Nat} {l : List UInt8} (hs : P.underlying t = some (.slice e)) (he : P.underlying e = some (.int .u8)) (hd : P.underlying yt = some .string)
    (hx : ev n σ x = .slice a len cap) (hr : RdS w a (l.map V8)) (hl : l.length = len)  :
    (execOp (ev n σ) ⟨some d, .convert t yt x, ty, pos, aft, g⟩).run P w = .ok (.value ((.string ⟨l.toArray⟩))) w := by
  subst hl
  exact (by
    simp only [execOp, Sem.run_bind, hx]
    cases a with
    | none =>
      have : l = [] := by rcases hr with h | ⟨_, _, _, _, _, h, _⟩ <;> simp_all
      subst this
      rw [run_convert_bytes_string w t yt e none _ cap hs he hd]
      simp [Conv.bytesToString]
      rfl
    | some ad =>
      rw [run_convert_bytes_back w t yt e ad cap l hs he hd (fun j hj => by
        obtain ⟨b, o, ha, hc⟩ := hr.cell (i := j) (v := V8 l[j]) (by simp [hj])
        cases ha
        rw [Addr.add_mid]; exact hc)]
      simp)
theorem r_is {a : Option Addr} {b o len cap sz : Nat} {k : IntKind} {i : Int} (hx : ev n σ x = .slice a len cap) (hy : ev n σ y = .int k i) (ha : eltOf P t = some sz) (hb : a = some ⟨b, o, none⟩) (h0 : 0 ≤ i) (h1 : i < len) :
    (execOp (ev n σ) ⟨some d, .indexAddr t x y, ty, pos, aft, g⟩).run P w = .ok (.value (.pointer (some ⟨b, o + i.toNat * sz, none⟩))) w := by
  subst hb
  unfold eltOf at ha
  cases hu : P.underlying t with
  | none => simp [hu] at ha
  | some ds =>
    cases ds <;> simp only [hu] at ha <;> try (cases ha)
    rename_i e
    cases hj : P.info? e with
    | none => simp [hj] at ha
    | some j =>
      simp only [hj, Option.map_some, Option.some.injEq] at ha
      subst ha
      simp [execOp, hx, hy, Instr.indexAt, run_underlying hu, asIntOf, h0, h1, sizeOf, typeInfo, hj, Addr.add_mid]
variable {ops : Array Oper} {S' : World → Prop} {fuel : Nat} {listed : Array Bool} {dst : Option Tmp} {oo : Op}
/-- operation i only looks, and may be taken first. -/
theorem t_take (i : Nat) {v : Value} (hi : ops[i]? = some ⟨some d, oo, ty, pos, aft, none⟩) (hs : Region.noSelect ops = true) (hf : Region.free .any ops listed i = true) (hr : (Region.ready .any ops listed).contains i = true)
    (hQ : ∀ c a w, Q (.panic c) (a.put (some d) v) w → Q (.panic c) a w)
    (hy : ∀ w, S' w → (execOp (ev n σ) ⟨some d, oo, ty, pos, aft, none⟩).run P w = .ok (.value v) w) (hS : S' w)
    (h : wpAnyH P .any ops Q S' fuel (listed.setIfInBounds i true) (mk n (up σ d v)) w) : wpAnyH P .any ops Q S' (fuel + 1) listed (mk n σ) w :=
  wpAnyH_take (v := v) hi hs hf hr hQ (.inl ⟨rfl, fun w hw => by rw [mk_evalf]; exact hy w hw⟩) hS (by show wpAnyH P .any ops Q S' fuel _ ((mk n σ).put (some d) v) w; rw [mk_put]; exact h)
/-- .. guarded, and wanted. -/
theorem t_takeg (i : Nat) {v : Value} {j : Nat} {b : Bool} (hi : ops[i]? = some ⟨some d, oo, ty, pos, aft, some (j, b)⟩) (hs : Region.noSelect ops = true) (hf : Region.free .any ops listed i = true) (hr : (Region.ready .any ops listed).contains i = true)
    (hQ : ∀ c a w, Q (.panic c) (a.put (some d) v) w → Q (.panic c) a w) (hg : yielded ops (mk n σ).tmps j = some b)
    (hy : ∀ w, S' w → (execOp (ev n σ) ⟨some d, oo, ty, pos, aft, some (j, b)⟩).run P w = .ok (.value v) w) (hS : S' w)
    (h : wpAnyH P .any ops Q S' fuel (listed.setIfInBounds i true) (mk n (up σ d v)) w) : wpAnyH P .any ops Q S' (fuel + 1) listed (mk n σ) w :=
  wpAnyH_take (v := v) hi hs hf hr hQ (.inl ⟨by simp [Region.wanted, hg], fun w hw => by rw [mk_evalf]; exact hy w hw⟩) hS (by show wpAnyH P .any ops Q S' fuel _ ((mk n σ).put (some d) v) w; rw [mk_put]; exact h)
/-- the one operation that may come up is carried out. -/
theorem t_step (i : Nat) {a : Act} (hi : ops[i]? = some ⟨dst, oo, ty, pos, aft, none⟩) (hr : Region.ready .any ops listed = [i])
    (h : Oper.wp P ⟨dst, oo, ty, pos, aft, none⟩ a w (fun a' w' => S' w' ∧ wpAnyH P .any ops Q S' fuel (listed.setIfInBounds i true) a' w') Q) : wpAnyH P .any ops Q S' (fuel + 1) listed a w :=
  wpAnyH_all hr (by simp) (by
    simp only [List.mem_singleton, forall_eq]
    unfold wpOp
    simp only [hi]
    rw [if_pos (by simp [Region.wanted])]
    exact .inl h)
theorem t_stepg (i : Nat) {a : Act} {j : Nat} {b : Bool} (hi : ops[i]? = some ⟨dst, oo, ty, pos, aft, some (j, b)⟩) (hr : Region.ready .any ops listed = [i]) (hg : yielded ops a.tmps j = some b)
    (h : Oper.wp P ⟨dst, oo, ty, pos, aft, some (j, b)⟩ a w (fun a' w' => S' w' ∧ wpAnyH P .any ops Q S' fuel (listed.setIfInBounds i true) a' w') Q) : wpAnyH P .any ops Q S' (fuel + 1) listed a w :=
  wpAnyH_all hr (by simp) (by
    simp only [List.mem_singleton, forall_eq]
    unfold wpOp
    simp only [hi]
    rw [if_pos (by simp [Region.wanted, hg])]
    exact .inl h)
theorem t_done {a : Act} (hr : Region.ready .any ops listed = []) (h : Q .normal a w) : wpAnyH P .any ops Q S' fuel listed a w := wpAnyH_done hr h fuel
/-- whichever of the ready ones comes up. -/
theorem t_all {a : Act} (rs : List Nat) (hr : Region.ready .any ops listed = rs) (hne : rs ≠ [])
    (h : ∀ i ∈ rs, wpOp P ops Q i (fun a' w' => S' w' ∧ wpAnyH P .any ops Q S' fuel (listed.setIfInBounds i true) a' w') a w) : wpAnyH P .any ops Q S' (fuel + 1) listed a w := wpAnyH_all hr hne h
theorem all_nil {p : Nat → Prop} : ∀ i ∈ ([] : List Nat), p i := fun _ h => by cases h
theorem all_cons {p : Nat → Prop} {i : Nat} {l : List Nat} (h1 : p i) (h2 : ∀ i ∈ l, p i) : ∀ j ∈ i :: l, p j := fun j hj => by
  rcases List.mem_cons.1 hj with rfl | h
  · exact h1
  · exact h2 j h
theorem w_op (i : Nat) {a : Act} (hi : ops[i]? = some ⟨dst, oo, ty, pos, aft, none⟩) (h : Oper.wp P ⟨dst, oo, ty, pos, aft, none⟩ a w K Q) : wpOp P ops Q i K a w := by
  unfold wpOp
  simp only [hi]
  rw [if_pos (by simp [Region.wanted])]
  exact .inl h
theorem Hp.perm {L' : List Ch} (h : Hp w0 w S L) (hp : L.Perm L') : Hp w0 w S L' :=
  ⟨h.os, h.tape, h.output, h.size, h.frame, fun c hc => h.has c (hp.mem_iff.2 hc), fun c hc => h.fresh c (hp.mem_iff.2 hc),
    (hp.pairwise_iff (fun {_x _y} hxy b hb hx => hxy b hx hb)).1 h.nd⟩
theorem c_still {id : Nat} {a : Act} {l : List Oper} (hm : P.follows .mixedOrders = true) (hB : Region.lexB .any l.toArray = true)
    (h : wpStill P l.toArray w.drew (fun a' => Q .normal a' w.drew) l a) : (Code.region id l.toArray true).wp P Q a w := wp_region_still_lit hm hB h
variable {Qs : Act → Prop} {rest : List Oper}
theorem s_op {v : Value} (hy : (execOp (ev n σ) ⟨some d, oo, ty, pos, aft, none⟩).run P w = .ok (.value v) w) (h : wpStill P ops w Qs rest (mk n (up σ d v))) :
    wpStill P ops w Qs (⟨some d, oo, ty, pos, aft, none⟩ :: rest) (mk n σ) := by
  unfold wpStill
  rw [if_pos (by simp [Region.wanted])]
  unfold Oper.still
  rw [mk_evalf, hy]
  exact ⟨rfl, by show wpStill P ops w Qs rest ((mk n σ).put (some d) v); rw [mk_put]; exact h⟩
theorem s_nil {a : Act} (h : Qs a) : wpStill P ops w Qs [] a := h
/-- what a call hands back, always by returning. -/
def Ret (P : Program) (f : FuncId) (vs : List Value) (w : World) (R : Value → World → Prop) : Prop := Calls P f vs.toArray w fun e w' => ∃ v, e = .returned v ∧ R v w'
theorem Ret.mono {f : FuncId} {vs : List Value} {R R' : Value → World → Prop} (h : Ret P f vs w R) (hr : ∀ v w', R v w' → R' v w') : Ret P f vs w R' :=
  Calls.mono h fun _e w' ⟨v, he, hv⟩ => ⟨v, he, hr v w' hv⟩
theorem o_callR {f : FuncId} {fn : Func} {args : Array Operand} {ats : Array TypeId} {vs : List Value} {R : Value → World → Prop} (hf : P.funcs[f]? = some fn) (hb : fn.body.isSome = true) (hname : (fn.name == "runtime.NumGoroutine") = false)
    (ha : evs n σ args.toList = vs) (hc : Ret P f vs w R) (h : ∀ v w', R v w' → K (mk n (up σ d v)) w') :
    Oper.wp P ⟨some d, .call ⟨.value (.func f), args, ats⟩, ty, pos, aft, g⟩ (mk n σ) w K Q :=
  o_call hf hb hname (vs := vs.toArray) (by apply Array.ext'; rw [← ha, evs_eq]; simp) (Calls.mono hc fun e w' ⟨v, he, hv⟩ => by subst he; exact h v w' hv)
theorem ret_mk {f : FuncId} {fn : Func} {c : Code} {args : List Value} {R : Value → World → Prop} {n : Nat}
    (hf : P.funcs[f]? = some fn) (hb : fn.body = some c) (hn : fn.ntmps = n) (hle : args.length ≤ n)
    (h : c.wp P (bodyPost P fn fun e w' => ∃ v, e = .returned v ∧ R v w') (mk n (fun t => args.getD t undef)) w) : Ret P f args w R :=
  calls_mk hf hb hn hle h
end
end Go.Proofs.Ytncmcgcilijfkaa
namespace Go.Proofs.Ytncmcgcilijfkaa
open Go
section
variable {P : Program} {Q : Exit → Act → World → Prop} {n : Nat} {σ : Nat → Value} {w : World} {K : Act → World → Prop}
  {ty : TypeId} {pos : String} {aft : Array Edge} {g : Option (Nat × Bool)} {d : Nat} {t yt : TypeId} {x y : Operand}
theorem b_lssB {k : IntKind} {a b : Int} (v : Bool) (h : decide (a < b) = v) : (binOp .lss t (.int k a) (.int k b)).run P w = .ok (.bool v) w := by rw [← h]; exact b_lss
theorem b_gtrB {k : IntKind} {a b : Int} (v : Bool) (h : decide (b < a) = v) : (binOp .gtr t (.int k a) (.int k b)).run P w = .ok (.bool v) w := by rw [← h]; exact b_gtr
theorem b_eqlB {k : IntKind} {a b : Int} (v : Bool) (h : decide (a = b) = v) : (binOp .eql t (.int k a) (.int k b)).run P w = .ok (.bool v) w := by rw [← h]; exact b_eql
theorem b_neqB {k : IntKind} {a b : Int} (v : Bool) (h : decide (a ≠ b) = v) : (binOp .neq t (.int k a) (.int k b)).run P w = .ok (.bool v) w := by rw [← h]; exact b_neq
end
end Go.Proofs.Ytncmcgcilijfkaa
namespace Go.Proofs.Ytncmcgcilijfkaa
open Go
set_option maxRecDepth 100000
section
variable {P : Program} {Q : Exit → Act → World → Prop} {n : Nat} {σ : Nat → Value} {w w0 : World} {K : Act → World → Prop}
  {ty : TypeId} {pos : String} {aft : Array Edge} {g : Option (Nat × Bool)} {d : Nat} {t : TypeId} {x : Operand} {S : List Nat} {L : List Ch}
end
/-- a slice of bytes as a world has it. -/
structure Sl where
  a : Option Addr
  len : Nat
  cap : Nat
  l : List UInt8
def Sl.v (s : Sl) : Value := .slice s.a s.len s.cap
structure Sl.ok (s : Sl) (w : World) : Prop where
  rd : RdS w s.a (s.l.map V8)
  ln : s.l.length = s.len
  le : s.len ≤ s.cap
  mx : s.len ≤ 9223372036854775807
theorem Hp.rd' {w0 w : World} {S : List Nat} {L : List Ch} (h : Hp w0 w S L) {a : Option Addr} {vs : List Value} (hr : RdS w0 a vs) (hap : vs ≠ [] → Apart a S) : RdS w a vs := by
  by_cases hv : vs = []
  · exact .inl hv
  · exact h.rd hr (hap hv)
theorem Sl.ok.up {x : Sl} {w0 w : World} {S : List Nat} {L : List Ch} (hx : x.ok w0) (H : Hp w0 w S L) (hap : x.l ≠ [] → Apart x.a S) : x.ok w :=
  ⟨H.rd' hx.rd (fun h => hap (by simpa using h)), hx.ln, hx.le, hx.mx⟩
theorem Sl.ok.apart {x : Sl} {w0 : World} (hx : x.ok w0) {b : Nat} (hb : w0.heap.size ≤ b) : x.l ≠ [] → Apart x.a [b] := by
  intro hne y hy
  rcases hx.rd with h | ⟨b', o, C, T, fr, ha, hh, _⟩
  · exact absurd (by simpa using h) hne
  · rw [ha] at hy
    cases hy
    have := (Array.getElem?_eq_some_iff.1 hh).1
    simp only [List.mem_singleton]; omega
theorem fills (z : Value) (vs : List Value) (len : Nat) (h1 : ∀ v ∈ vs, v.oneCell' = true) (hl : vs.length = len) : Instr.fill (fun i => some (i * 1, 1)) ((Array.range (len * 1)).map (([z].toArray)[· % ([z].toArray).size]!)) (en 0 vs) = some vs.toArray := by
  have := fill_en (zs := ((Array.range (len * 1)).map (([z].toArray)[· % ([z].toArray).size]!)).toList) vs (by rw [List.all_toArray, List.all_eq_true]; exact h1) (by simp [hl])
  rwa [Array.toArray_toList] at this
theorem Hp.apart {w0 w : World} {S : List Nat} {L : List Ch} (H : Hp w0 w S L) {i j b b' o : Nat} {c c' : Ch} (hi : L[i]? = some c) (hj : L[j]? = some c') (hij : i ≠ j) (hk : c.key = some b) (hk' : c'.key = some b') : Apart (some ⟨b, o, none⟩) [b'] := by
  intro x hx
  cases hx
  simp only [List.mem_singleton]
  intro e
  have := pw_ne H.nd hi hj hij hk
  exact this (by rw [hk', e])
def tw (l : List UInt8) (j : Nat) : List Value := l.map V8 ++ (List.replicate j (V8 229) ++ List.replicate (3 - j) (V8 0))
theorem tw_length (l : List UInt8) (j : Nat) (h : j ≤ 3) : (tw l j).length = l.length + 3 := by simp [tw]; omega
theorem tw_set (l : List UInt8) (j : Nat) (h : j < 3) : (tw l j).set (l.length + j) (V8 229) = tw l (j + 1) := by
  have e : 3 - j = (3 - (j + 1)) + 1 := by omega
  unfold tw
  rw [List.set_append_right _ _ (by simp), List.length_map, Nat.add_sub_cancel_left, List.set_append_right _ _ (by simp), List.length_replicate, Nat.sub_self, e, List.replicate_succ, List.set_cons_zero]
  have : (3 - (j + 1) + 1 - 1) = 3 - (j + 1) := by omega
  rw [List.replicate_succ' (n := j)]
  simp
theorem b_remT {P : Program} {t : TypeId} {w : World} {a b : Int} (h2 : 0 < b) : (binOp .rem t (VI a) (VI b)).run P w = .ok (VI (a.tmod b)) w := by
  simp [binOp, Op.intDiv, Int.ne_of_gt h2]
theorem tmod_lt (a b : Int) (h : 0 < b) : -b < a.tmod b ∧ a.tmod b < b := by
  have h1 := Int.tmod_lt_of_pos a h
  have h2 := Int.lt_tmod_of_pos a h
  exact ⟨h2, h1⟩
theorem Hp.nilOwn {w0 w : World} {S : List Nat} {L : List Ch} (H : Hp w0 w S L) (T : TypeId) (sz : Nat) : Hp w0 w S (.own none 0 0 [] T sz :: L) :=
  ⟨H.os, H.tape, H.output, H.size, H.frame, fun c hc => by
    rcases List.mem_cons.1 hc with rfl | h
    · exact ⟨rfl, rfl, rfl⟩
    · exact H.has c h, fun c hc b hk => by
    rcases List.mem_cons.1 hc with rfl | h
    · cases hk
    · exact H.fresh c h b hk, List.pairwise_cons.2 ⟨fun _ _ _ h => (by cases h), H.nd⟩⟩
theorem Sl.ok.take {s : Sl} {w : World} (h : s.ok w) (n : Nat) (hn : n ≤ s.len) : (⟨s.a, n, s.cap, s.l.take n⟩ : Sl).ok w :=
  ⟨by have := h.rd.take n; rwa [← List.map_take] at this, by simp only [List.length_take]; have := h.ln; omega, Nat.le_trans hn h.le, Nat.le_trans hn h.mx⟩
theorem Sl.ok.drop {s : Sl} {w : World} (h : s.ok w) (n : Nat) (hn : n ≤ s.len) : (⟨sa s.a n s.cap 1, s.len - n, s.cap - n, s.l.drop n⟩ : Sl).ok w :=
  ⟨by have := h.rd.sa n s.cap 1 (by have := h.ln; have := h.le; simp; omega); rwa [Nat.mul_one, ← List.map_drop] at this, by simp only [List.length_drop]; have := h.ln; omega, by have := h.le; simp only; omega, by have := h.mx; simp only; omega⟩
end Go.Proofs.Ytncmcgcilijfkaa
namespace Go.Proofs.Ytncmcgcilijfkaa
open Go Go.ChangeShapes Go.WideShapes Go.ChangeAt Go.RowKit
theorem Try.own : ownKnob Try.prog.godebug = none := by kernel_rfl
theorem Try.laidOut : laidOutB Try.prog = true := by kernel_rfl
section
variable {H : Type} {enc : TypeId × Value → H} {P : Program}
theorem trodAll_stays (hl : laidOutB P = true) {W W' : World} (hb : Below W.heap.size W W') :
    ∀ {ts : List TypeId} {vs : List Value} {ds : List (DataW H)} {ps : List MemPlace}, (∀ t ∈ ts, P.readableRec t = true ∧ t < P.types.size) → DataW.TrodAll enc P W 0 (fun _ => true) true ts vs ds ps → (∀ x ∈ ps, x.block < W.heap.size) →
      DataW.TrodAll enc P W' 0 (fun b => decide (b < W.heap.size)) true ts vs ds ps
  | [], _, _, _, _, h, _ => by
    obtain ⟨rfl, rfl, rfl⟩ := trodAll_nil h
    exact trodAll_mk0
  | t :: ts, _, _, _, ht, h, hlt => by
    obtain ⟨v, vs, d, ds, p, q, rfl, rfl, rfl, h1, h2⟩ := trodAll_cons h
    exact ⟨p, q, Below.trod hl (ht t (by simp)).1 (ht t (by simp)).2 h1 hb (fun x hx => hlt x (by simp [hx])), trodAll_stays hl hb (fun u hu => ht u (by simp [hu])) h2 (fun x hx => hlt x (by simp [hx])), rfl⟩
theorem trod_bool (tb : TypeId) (hb : P.underlying tb = some .bool) (w : World) (b : Bool) (base : Nat) (sp : Nat → Bool) (held : Bool) : DataW.Trod enc P w base sp held tb (.bool b) (.lit (.bool b)) [] := ⟨1, by simp [DataW.trod, hb, Value.cells]⟩
/-- what a law leaves: true, and all as it was. -/
theorem post_law {f : Func} {s : ChangeSpec} {apart fresh handsOn : Bool} {W W' : World} {args : Array Value} {ds gs : List (DataW H)} {before : List MemPlace} {tb : TypeId} (hl : laidOutB P = true)
    (hts : ∀ t ∈ f.params.toList, P.readableRec t = true ∧ t < P.types.size) (hW : DataW.Whole enc P f.params.toList s.vars apart W args.toList ds gs before) (hH : Hp W W' [] []) (hv : s.vars = [])
    (hs : s.fn H ds = { results := [.lit (.bool true)], args := ds }) (hr : f.resultTypes = #[tb]) (hb : P.underlying tb = some .bool) : s.post enc P f apart fresh handsOn false W args (.bool true) W' := by
  have hlt := hW.lt
  have hW' := hW
  obtain ⟨p, q, hA, hV, rfl, _, _⟩ := hW
  rw [hv] at hV
  cases gs with
  | cons g gs => simp [DataW.TrodVars] at hV
  | nil =>
    have hq : q = [] := by simpa [DataW.TrodVars] using hV
    subst hq
    have hbel := hH.below
    have hs' : s.fn H (ds ++ []) = { results := [.lit (.bool true)], args := ds } := by rw [List.append_nil]; exact hs
    have hvl : (Value.bool true).resultList f.resultTypes.size = [.bool true] := by rw [hr]; rfl
    refine ⟨ds, [], p ++ [], [], p, [], hW', ?_, ?_, ?_, hbel.frame _, fun h => by cases h⟩
    · rw [hs', hvl, hr]
      exact trodAll_mk1 (trod_bool tb hb W' true _ _ _)
    · rw [hs']
      exact trodAll_stays hl hbel hts hA (fun x hx => hlt x (by simp [hx]))
    · rw [hs', hv]; rfl
theorem law_calls {f : FuncId} {fn : Func} {s : ChangeSpec} {apart fresh handsOn : Bool} {W : World} {args : Array Value} {ds gs : List (DataW H)} {before : List MemPlace} {tb : TypeId} (hl : laidOutB P = true)
    (hts : ∀ t ∈ fn.params.toList, P.readableRec t = true ∧ t < P.types.size) (hW : DataW.Whole enc P fn.params.toList s.vars apart W args.toList ds gs before) (hv : s.vars = [])
    (hs : s.fn H ds = { results := [.lit (.bool true)], args := ds }) (hr : fn.resultTypes = #[tb]) (hb : P.underlying tb = some .bool)
    (h : Ret P f args.toList W fun v w' => v = .bool true ∧ Hp W w' [] []) : Calls P f args W fun e W' => ∃ v, e = .returned v ∧ s.post enc P fn apart fresh handsOn false W args v W' := by
  have h' : Calls P f args W fun e w' => ∃ v, e = .returned v ∧ v = .bool true ∧ Hp W w' [] [] := by simpa [Ret] using h
  exact Calls.mono h' fun e w' ⟨v, he, hv', hH⟩ => ⟨v, he, by subst hv'; exact post_law hl hts hW hH hv hs hr hb⟩
end
/-- the facts on the types of a law's parameters. -/
def tyOk (P : Program) (ts : List TypeId) : Bool := ts.all fun t => P.readableRec t && decide (t < P.types.size)
theorem tyOk_all {ts : List TypeId} (h : tyOk Try.prog ts = true) : ∀ t ∈ ts, Try.prog.readableRec t = true ∧ t < Try.prog.types.size := by
  intro t ht
  have := List.all_eq_true.1 h t ht
  simpa using this
theorem cut_of (P : Program) (cs : List Char) (h : P.initOrder = String.ofList cs) (hb : ((behindMainWord (wordsSigns cs)).head? == some "cut".toList) = true) : ∃ rest, behindMainWord (wordsSigns P.initOrder.toList) = "cut".toList :: rest := by
  rw [h, String.toList_ofList]
  generalize behindMainWord (wordsSigns cs) = l at hb
  cases l with
  | nil => simp at hb
  | cons c r => exact ⟨r, by simpa using hb⟩
set_option maxRecDepth 100000 in
theorem Try.cut : ∃ rest, behindMainWord (wordsSigns Try.prog.initOrder.toList) = "cut".toList :: rest := by
  refine cut_of Try.prog _ rfl ?_
  kernel_rfl
theorem strip_cut (rest : List (List Char)) : stripLifts liftWords ("cut".toList :: rest) = ([], "cut".toList :: rest) := by
  kernel_rfl
theorem headLifts_cut {P : Program} {rest : List (List Char)} (h : behindMainWord (wordsSigns P.initOrder.toList) = "cut".toList :: rest) : P.headLifts = [] := by
  unfold Program.headLifts
  rw [h, strip_cut]
  simp
theorem lifts_cut {P : Program} {rest : List (List Char)} (h : behindMainWord (wordsSigns P.initOrder.toList) = "cut".toList :: rest) : P.liftsFinal = false := by
  unfold Program.liftsFinal
  rw [h, headLifts_cut h]
  simp
theorem make_cut {P : Program} {rest : List (List Char)} (h : behindMainWord (wordsSigns P.initOrder.toList) = "cut".toList :: rest) : P.make = some .cut := by
  unfold Program.make
  rw [h]
  simp
theorem enter_cut {P : Program} {rest : List (List Char)} (h : behindMainWord (wordsSigns P.initOrder.toList) = "cut".toList :: rest) (h1 : P.laysLater = false) (h2 : P.bearsReflect = false) (h3 : P.doorFits [] = true) : P.mayEnter = true := by
  unfold Program.mayEnter
  rw [h]
  simp only [strip_cut, h1, h2, h3]
  simp
theorem joined_of (P : Program) (f : FuncId) (fn : Func) (s : ChangeSpec) (c : OpenClaim) (h1 : laidOutB P = true) (h2 : mapsRowed P = true) (h3 : P.stops = []) (h4 : P.stopKnobs = []) (h5 : P.stopsHeard = true) (h6 : P.mayEnter = true) (h7: P.liftsFinal = false) (h8 : P.make = some .cut) (pk : Bool) (h9 : P.plainKeys = pk)
    (r : (c.wf (OpenSpec.ofChange s) && fn.params.all (P.readableRec ·) && namedTie P c.named s.vars &&
  (c.stops == []) && (c.knobs == []) && 
  (c.inPlace == P.inPlace f) && (c.unfollowed == P.unfollowed f) && (c.recurses == P.recurses f) && (c.named == P.varsNamed f)) = true)
    (r2 : ((c.maps == (fn.params.toList ++ s.plain.varTypes P).any (P.mapsRec ·)) && (c.ifaces == (fn.params.toList ++ s.plain.varTypes P).any (P.ifacesRec ·)) && (c.mapsOut == P.mapsAmong fn.resultTypes.toList) &&
  (c.loops == (fn.params.toList ++ s.plain.varTypes P).any (P.loopsFrom ·)) && (c.wideKeys == (fn.params.toList ++ s.plain.varTypes P ++ fn.resultTypes.toList).any (P.wideKeysFrom ·)) &&
  s.vars.all (P.varReadable ·) && fn.resultTypes.all (fun t => P.readableRec t && decide (t < P.types.size)) && (c.ifacesOut == fn.resultTypes.toList.any (P.ifacesRec ·)) && (c.loopsOut == fn.resultTypes.toList.any (P.loopsFrom ·)) && (c.plainKeys == pk) && c.shortTexts.isNone && (c.lifted == false) && (some Make.cut == some c.make) && (c.kinds == (if c.domain.isEmpty then [] else fn.params.toList.map fun t => match P.underlying t with | some (.int k) => some k | _ => none)) && (c.pinned == c.pinnedBy) &&
  (c.veiled == (fn.params.toList ++ s.plain.varTypes P ++ fn.resultTypes.toList).any (P.veiledRec ·)) && c.veiledFits P fn.params.toList (fn.params.toList ++ s.plain.varTypes P ++ fn.resultTypes.toList)) = true) : joinedFacts P f fn s c = true := by
  simp only [Bool.and_eq_true] at r r2
  obtain ⟨⟨⟨⟨⟨⟨⟨⟨k1, k4⟩, k5⟩, k6⟩, k8⟩, k10⟩, k11⟩, k12⟩, k13⟩ := r
  obtain ⟨⟨⟨⟨⟨⟨⟨⟨⟨⟨⟨⟨⟨⟨⟨⟨m1, m2⟩, m3⟩, m4⟩, m5⟩, m6⟩, m7⟩, m8⟩, m9⟩, m10⟩, m11⟩, m12⟩, m13⟩, m14⟩, m15⟩, m16⟩, m17⟩ := r2
  unfold joinedFacts
  rw [h3, h4, h7, h8, h9]
  simp only [Bool.and_eq_true]
  exact ⟨⟨⟨⟨⟨⟨⟨⟨⟨⟨⟨⟨⟨⟨⟨⟨⟨⟨⟨⟨⟨⟨⟨⟨⟨⟨⟨⟨⟨⟨⟨k1, h1⟩, h2⟩, k4⟩, k5⟩, k6⟩, rfl⟩, k8⟩, rfl⟩, k10⟩, k11⟩, k12⟩, k13⟩, m1⟩, m2⟩, m3⟩, m4⟩, m5⟩, m6⟩, m7⟩, m8⟩, m9⟩, m10⟩, m11⟩, h5⟩, h6⟩, m12⟩, m13⟩, m14⟩, m15⟩, m16⟩, m17⟩
theorem Try.mapsRowed : mapsRowed Try.prog = true := by kernel_rfl
theorem Try.stops : Try.prog.stops = [] := by kernel_rfl
theorem Try.stopKnobs : Try.prog.stopKnobs = [] := by kernel_rfl
theorem Try.stopsHeard : Try.prog.stopsHeard = true := by kernel_rfl
theorem Try.laysLater : Try.prog.laysLater = false := by kernel_rfl
theorem Try.bearsReflect : Try.prog.bearsReflect = false := by kernel_rfl
theorem Try.doorFits : Try.prog.doorFits [] = true := by kernel_rfl
theorem Try.mayEnter : Try.prog.mayEnter = true := Try.cut.elim fun _ h => enter_cut h Try.laysLater Try.bearsReflect Try.doorFits
theorem Try.liftsFinal : Try.prog.liftsFinal = false := Try.cut.elim fun _ h => lifts_cut h
theorem Try.make : Try.prog.make = some .cut := Try.cut.elim fun _ h => make_cut h
theorem Try.plainKeys : Try.prog.plainKeys = false := by kernel_rfl
end Go.Proofs.Ytncmcgcilijfkaa
namespace Go.Proofs.Ytncmcgcilijfkaa
open Go Go.ChangeShapes Go.WideShapes Go.ChangeAt Go.RowKit Go.Deep
set_option maxRecDepth 100000
section
variable {H : Type} {enc : TypeId × Value → H} {W : World}
theorem rd_of_cells {a : Addr} {vs : List Value} (h : ∀ i v, vs[i]? = some v → W.cell? (a.add i) = some v) : RdS W (some a) vs := by
  cases vs with
  | nil => exact .inl rfl
  | cons v0 vs =>
    obtain ⟨b, o, spot⟩ := a
    have h0 := h 0 v0 rfl
    have hspot : spot = none := by simpa [Addr.add] using World.cell?_spot h0
    subst hspot
    have ha : ∀ i, (⟨b, o, none⟩ : Addr).add i = ⟨b, o + i, none⟩ := fun i => Addr.add_mid ..
    rw [ha] at h0
    cases hb : W.heap[b]? with
    | none => simp [World.cell?, hb] at h0
    | some ob =>
      cases ob with
      | cells C T fr =>
        refine .inr ⟨b, o, C, T, fr, rfl, hb, fun i v hv => ?_⟩
        have := h i v hv
        rw [ha] at this
        simpa [World.cell?, hb] using this
      | _ => simp [World.cell?, hb] at h0
theorem sl_of_ints {a : Addr} {len cap : Nat} {zs : List Int} (hl : len ≤ cap) (hm : cap ≤ maxLen) (hz : zs.length = cap) (hcell : ∀ i, i < zs.length → W.cell? (a.add i) = some (.int .u8 (zs.getD i 0))) (hwz : ∀ n ∈ zs, (Lit.int .u8 n).wf = true) :
    (⟨some a, len, cap, (zs.take len).map fun n => UInt8.ofNat n.toNat⟩ : Sl).ok W := by
  refine ⟨rd_of_cells fun i v hv => ?_, by simp; omega, hl, Nat.le_trans hl hm⟩
  simp only [List.getElem?_map, Option.map_map] at hv
  obtain ⟨n, hn, rfl⟩ := Option.map_eq_some_iff.1 hv
  have hi : i < zs.length := by
    have := (List.getElem?_eq_some_iff.1 hn).1
    simp at this; omega
  have hn' : zs[i]? = some n := by
    rw [List.getElem?_take] at hn
    split at hn
    · exact hn
    · cases hn
  have hmem : n ∈ zs := List.mem_of_getElem? hn'
  have hr := range_u8 hwz i
  rw [hn'] at hr
  simp only [Option.getD_some] at hr
  rw [hcell i hi]
  have e : zs.getD i 0 = n := by rw [List.getD_eq_getElem?_getD, hn']; rfl
  rw [e]
  simp only [Function.comp, V8, UInt8.toNat_ofNat']
  congr 2
  omega
theorem cells5 : Try.prog.cellsOf 5 = 1 := by kernel_rfl
theorem open_sl {base : Nat} {spare : Nat → Bool} {held : Bool} {fuel : Nat} {v : Value} {x : DataW H × List MemPlace} (hsp : spare = fun _ => true) (h : DataW.trod enc Try.prog W base spare held fuel 57 [v] = some x) : ∃ s : Sl, v = s.v ∧ s.ok W := by
  subst hsp
  rcases open_ints Try.underlying57 Try.underlying5 cells5 h with ⟨hcs, _⟩ | ⟨a, len, cap, zs, hcs, _, hl, hm, hz, _, hcell, hwz⟩
  · simp only [List.cons.injEq, and_true] at hcs
    exact ⟨⟨none, 0, 0, []⟩, hcs, .inl rfl, rfl, Nat.le_refl _, by decide⟩
  · simp only [List.cons.injEq, and_true] at hcs
    simp only [if_true] at hz
    exact ⟨⟨some a, len, cap, _⟩, hcs, sl_of_ints hl hm hz hcell hwz⟩
instance : Inhabited Sl := ⟨⟨none, 0, 0, []⟩⟩
end
end Go.Proofs.Ytncmcgcilijfkaa
namespace Go.Proofs.Ytncmcgcilijfkaa
open Go
section
variable {P : Program} {Q : Exit → Act → World → Prop} {n : Nat} {σ : Nat → Value} {w w0 : World} {K : Act → World → Prop}
  {ty : TypeId} {pos : String} {aft : Array Edge} {g : Option (Nat × Bool)} {d : Nat} {t yt : TypeId} {x y z : Operand} {S : List Nat} {L : List Ch}
theorem Sl.ok.addr {s : Sl} (h : s.ok w) (hp : 0 < s.len) : ∃ b o, s.a = some ⟨b, o, none⟩ := by
  rcases h.rd with h' | ⟨b, o, C, T, fr, ha, hb, hc⟩
  · have := h.ln
    rw [List.map_eq_nil_iff.1 h'] at this
    simp at this; omega
  · exact ⟨b, o, ha⟩
theorem Sl.get (s : List UInt8) (k : Nat) (h : k < s.length) : (s.map V8)[k]? = some (V8 (s.getD k 0)) := by
  simp [List.getD_eq_getElem?_getD, h]
theorem RdS.addr {a : Option Addr} {vs : List Value} (h : RdS w a vs) (hp : 0 < vs.length) : ∃ b o, a = some ⟨b, o, none⟩ := by
  rcases h with rfl | ⟨b, o, C, T, fr, ha, hb, hc⟩
  · simp at hp
  · exact ⟨b, o, ha⟩
/-- an element's address. -/
theorem r_isN {a : Option Addr} {b o len cap sz : Nat} {kk : IntKind} {i : Int} (k : Nat) (hx : ev n σ x = .slice a len cap) (hy : ev n σ y = .int kk i) (ha : eltOf P t = some sz) (hb : a = some ⟨b, o, none⟩) (hi : i = (k : Int)) (h1 : k < len) :
    (execOp (ev n σ) ⟨some d, .indexAddr t x y, ty, pos, aft, g⟩).run P w = .ok (.value (.pointer (some ⟨b, o + k * sz, none⟩))) w := by
  subst hi
  exact r_is hx hy ha hb (by omega) (by omega)
/-- a byte of a slice. -/
theorem r_ldB {s : Sl} {b o k : Nat} (hs : s.ok w) (ha : s.a = some ⟨b, o, none⟩) (hx : ev n σ x = .pointer (some ⟨b, o + k * 1, none⟩)) (ht : cellTy P t = true) (hk : k < s.len) :
    (execOp (ev n σ) ⟨some d, .load t x, ty, pos, aft, g⟩).run P w = .ok (.value (V8 (s.l.getD k 0))) w :=
  r_lds (i := k * 1) hs.rd ha hx ht (by rw [Nat.mul_one]; exact Sl.get _ _ (by rw [hs.ln]; exact hk))
/-- a whole array. -/
theorem r_ldA {b i k : Nat} {C : List Value} {T : TypeId} (H : Hp w0 w S L) (hi : L[i]? = some (.blk b C T)) (hx : ev n σ x = .pointer (some ⟨b, 0, none⟩)) (ht : rowTy P t = some k) (hk : C.length = k) :
    (execOp (ev n σ) ⟨some d, .load t x, ty, pos, aft, g⟩).run P w = .ok (.value (.agg C.toArray)) w := by
  have h := r_ldr (P := P) (t := t) (d := d) (ty := ty) (pos := pos) (aft := aft) (g := g) H hi hx ht (by omega)
  rw [h, List.drop_zero, List.take_of_length_le (Nat.le_of_eq hk)]
/-- an array or struct literal. -/
theorem r_bld' {parts : Array (Nat × Operand)} {zs : Array Value} {places : Nat → Option (Nat × Nat)} {pv : List (Nat × Value)} {cells : Array Value} (hB : Bld P t zs places)
    (hp0 : pvs n σ parts.toList = pv) (hf : Instr.fill places zs pv = some cells) :
    (execOp (ev n σ) ⟨some d, .build t parts, ty, pos, aft, g⟩).run P w = .ok (.value (.agg cells)) w := by
  have hp : (parts.map fun (i, x) => (i, ev n σ x)).toList = pv := by rw [← hp0, pvs_eq, Array.toList_map]
  have := run_build (P := P) w t (parts.map fun (i, x) => (i, ev n σ x)) cells (by rw [hp, hB.eq]; exact hf)
  simp only [execOp, Sem.run_bind, this]
  simp
/-- a slice of a slice, from its head on. -/
theorem r_slH {lo hi mx : Option Operand} {a : Option Addr} {len cap sz h m : Nat} {lv hv mv : Option Value} (hx : ev n σ x = .slice a len cap) (ht : eltOf P t = some sz)
    (hl : lo.map (ev n σ) = lv) (hh : hi.map (ev n σ) = hv) (hm : mx.map (ev n σ) = mv) (hb : ∀ w, (Instr.sliceBounds true len cap lv hv mv).run P w = .ok (0, h, m) w) :
    (execOp (ev n σ) ⟨some d, .slice t x lo hi mx, ty, pos, aft, g⟩).run P w = .ok (.value (.slice a h m)) w := by
  have := r_sl (P := P) (w := w) (d := d) (ty := ty) (pos := pos) (aft := aft) (g := g) hx ht hl hh hm hb
  rwa [sa_zero, Nat.sub_zero, Nat.sub_zero] at this
def Sl.cut (s : Sl) (l h m : Nat) : Sl := ⟨sa s.a l m 1, h - l, m - l, (s.l.drop l).take (h - l)⟩
theorem Sl.ok.cut {s : Sl} (hs : s.ok w) {l h m : Nat} (h1 : l ≤ h) (h2 : h ≤ s.len) (h3 : h ≤ m) (_h4 : m ≤ s.cap) : (s.cut l h m).ok w := by
  refine ⟨?_, ?_, by simp only [Sl.cut]; omega, by have := hs.mx; simp only [Sl.cut]; omega⟩
  · unfold Sl.cut
    simp only
    by_cases hml : m = l
    · have : (s.l.drop l).take (h - l) = [] := by rw [show h - l = 0 by omega, List.take_zero]
      rw [this]; exact .inl rfl
    · have e : sa s.a l m 1 = s.a.map (·.add (l * 1)) := by unfold sa; rw [if_neg hml]
      rw [e, Nat.mul_one, List.map_take, List.map_drop]
      exact (hs.rd.drop l).take _
  · have := hs.ln
    simp only [Sl.cut, List.length_take, List.length_drop]; omega
theorem r_slS {lo hi mx : Option Operand} {s : Sl} (l h m : Nat) {lv hv mv : Option Value} (hx : ev n σ x = s.v) (ht : eltOf P t = some 1)
    (hl : lo.map (ev n σ) = lv) (hh : hi.map (ev n σ) = hv) (hm : mx.map (ev n σ) = mv) (hb : ∀ w, (Instr.sliceBounds true s.len s.cap lv hv mv).run P w = .ok (l, h, m) w) :
    (execOp (ev n σ) ⟨some d, .slice t x lo hi mx, ty, pos, aft, g⟩).run P w = .ok (.value (s.cut l h m).v) w :=
  r_sl (P := P) (w := w) (d := d) (ty := ty) (pos := pos) (aft := aft) (g := g) hx ht hl hh hm hb
theorem sbl {s : Bool} {len cap : Nat} {k : IntKind} {i : Int} (l : Nat) (e : i = (l : Int)) (h1 : l ≤ len) (w : World) : (Instr.sliceBounds s len cap (some (.int k i)) none none).run P w = .ok (l, len, cap) w := by
  subst e; exact sb_l (by omega) (by omega) w
theorem sbh {s : Bool} {len cap : Nat} {k : IntKind} {i : Int} (h : Nat) (e : i = (h : Int)) (h1 : h ≤ cap) (w : World) : (Instr.sliceBounds s len cap none (some (.int k i)) none).run P w = .ok (0, h, cap) w := by
  subst e; exact sb_h (by omega) (by omega) w
theorem Hp.slOwn (H : Hp w0 w S L) {i : Nat} {a : Option Nat} {len cap : Nat} {l : List UInt8} {T : TypeId} (hi : L[i]? = some (.own a len cap (l.map V8) T 1)) : (⟨hd a, len, cap, l⟩ : Sl).ok w := by
  have h := H.has _ (List.mem_of_getElem? hi)
  refine ⟨Ch.rd_own h, ?_, ?_, ?_⟩
  · cases a with
    | none => obtain ⟨h1, h2, h3⟩ := h; simp only [List.map_eq_nil_iff] at h3; rw [h3, h1]; rfl
    | some b => obtain ⟨h1, _⟩ := h; simpa using h1
  · cases a with
    | none => obtain ⟨h1, h2, h3⟩ := h; simp only; omega
    | some b => exact h.2.1
  · cases a with
    | none => obtain ⟨h1, h2, h3⟩ := h; simp only; omega
    | some b => have := h.2.1; have := h.2.2.1; simp only [maxLen] at *; omega
theorem Hp.ownLen (H : Hp w0 w S L) {i : Nat} {a : Option Nat} {len cap : Nat} {xs : List Value} {T : TypeId} {sz : Nat} (hi : L[i]? = some (.own a len cap xs T sz)) : xs.length = len * sz ∧ len ≤ cap ∧ cap ≤ maxLen := by
  have h := H.has _ (List.mem_of_getElem? hi)
  cases a with
  | none => obtain ⟨rfl, rfl, rfl⟩ := h; simp [maxLen]
  | some b => exact ⟨h.1, h.2.1, h.2.2.1⟩
theorem Hp.ownAddr (H : Hp w0 w S L) {i : Nat} {a : Option Nat} {len cap : Nat} {xs : List Value} {T : TypeId} {sz : Nat} (hi : L[i]? = some (.own a len cap xs T sz)) (h0 : 0 < len) : ∃ b, hd a = some ⟨b, 0, none⟩ := by
  have h := H.has _ (List.mem_of_getElem? hi)
  cases a with
  | none => obtain ⟨h1, _⟩ := h; omega
  | some b => exact ⟨b, rfl⟩
theorem Hp.rot {c : Ch} (H : Hp w0 w S (L ++ [c])) : Hp w0 w S (c :: L) := H.perm (List.perm_append_singleton _ _)
theorem Hp.nilEnd (H : Hp w0 w S L) (T : TypeId) (sz : Nat) : Hp w0 w S (L ++ [.own none 0 0 [] T sz]) :=
  (H.nilOwn T sz).perm (List.perm_append_singleton _ _).symm
/-- 'make' of bytes. -/
theorem o_makeB {e : TypeId} {kx ky : IntKind} {li ci : Int} (l : Nat) (H : Hp w0 w S L) (hT : SlTy P t e 1 1) (hz : zeroCells P e = some [V8 0]) (hx : ev n σ x = .int kx li) (hy : ev n σ y = .int ky ci)
    (hl : li = (l : Int)) (hc : ci = (l : Int)) (hm : l ≤ 281474976710656)
    (h : ∀ b w', Hp w0 w' S (L ++ [.own (some b) l l ((List.replicate l (0 : UInt8)).map V8) e 1]) → w0.heap.size ≤ b → K (mk n (up σ d (.slice (hd (some b)) l l))) w') :
    Oper.wp P ⟨some d, .makeSlice t x y, ty, pos, aft, g⟩ (mk n σ) w K Q := by
  have hmx : l ≤ maxLen := Nat.le_trans hm (by decide)
  refine o_make (l := l) (c := l) H hT hz hx hy hl hc (Nat.le_refl _) (by omega) hmx fun b w' H' hb => h b w' ?_ hb
  have := H'.toOwn (i := L.length) (len := l) (cap := l) (sz := 1) (b := b) (C := List.replicate l (V8 0)) (T := e) (by simp) (Nat.le_refl _) hmx (by simp)
  rw [List.set_append_right _ _ (Nat.le_refl _), Nat.sub_self] at this
  simpa using this
/-- a literal of bytes. -/
theorem o_bslB {e : TypeId} {len : Nat} {parts : Array (Nat × Operand)} (l : List UInt8) (H : Hp w0 w S L) (hT : SlTy P t e 1 1) (hz : zeroCells P e = some [V8 0])
    (hp : pvs n σ parts.toList = en 0 (l.map V8)) (hlen : l.length = len) (hm : len ≤ 16777216)
    (h : ∀ b w', Hp w0 w' S (L ++ [.own (some b) len len (l.map V8) e 1]) → w0.heap.size ≤ b → K (mk n (up σ d (.slice (hd (some b)) len len))) w') :
    Oper.wp P ⟨some d, .buildSlice t len parts, ty, pos, aft, g⟩ (mk n σ) w K Q := by
  refine o_bsl H hT hz (by decide) hp (by omega) (fills _ (l.map V8) len (by simp [Value.oneCell']) (by simpa using hlen)) fun b w' H' hb => h b w' ?_ hb
  have := H'.toOwn (i := L.length) (len := len) (cap := len) (sz := 1) (b := b) (C := l.map V8) (T := e) (by simp) (Nat.le_refl _) (Nat.le_trans hm (by decide)) (by simpa using hlen)
  rw [List.set_append_right _ _ (Nat.le_refl _), Nat.sub_self, List.take_of_length_le (by simp; omega)] at this
  simpa using this
/-- a literal of values of one cell. -/
theorem o_bslV {e : TypeId} {len bytes : Nat} {parts : Array (Nat × Operand)} {zv : Value} (vs : List Value) (H : Hp w0 w S L) (hT : SlTy P t e 1 bytes) (hz : zeroCells P e = some [zv])
    (hp : pvs n σ parts.toList = en 0 vs) (h1 : vs.all (·.oneCell') = true) (hlen : vs.length = len) (hm : len ≤ 16777216)
    (h : ∀ b w', Hp w0 w' S (L ++ [.own (some b) len len vs e 1]) → w0.heap.size ≤ b → K (mk n (up σ d (.slice (hd (some b)) len len))) w') :
    Oper.wp P ⟨some d, .buildSlice t len parts, ty, pos, aft, g⟩ (mk n σ) w K Q := by
  refine o_bsl H hT hz (by decide) hp (by omega) (fills _ vs len (by simpa using h1) hlen) fun b w' H' hb => h b w' ?_ hb
  have := H'.toOwn (i := L.length) (len := len) (cap := len) (sz := 1) (b := b) (C := vs) (T := e) (by simp) (Nat.le_refl _) (Nat.le_trans hm (by decide)) (by simpa using hlen)
  rw [List.set_append_right _ _ (Nat.le_refl _), Nat.sub_self, List.take_of_length_le (by omega)] at this
  simpa using this
/-- bytes behind bytes of one's own. -/
theorem o_appB {i : Nat} {a : Option Nat} {len cap len' : Nat} {l l' : List UInt8} {e e' : TypeId} {tx : TypeId} {s : Sl} (el : l ++ s.l = l') (en : len + s.len = len') (H : Hp w0 w S L) (hi : L[i]? = some (.own a len cap (l.map V8) e 1)) (hT : SlTy P t e 1 1) (hu : P.underlying tx = some (.slice e'))
    (hx : ev n σ x = .slice (hd a) len cap) (hy : ev n σ y = s.v) (hs : s.ok w) (hm : len' ≤ 140737488355328)
    (h : ∀ a' cap' w', Hp w0 w' S (L.set i (.own a' len' cap' (l'.map V8) e 1)) → K (mk n (up σ d (.slice (hd a') len' cap'))) w') :
    Oper.wp P ⟨some d, .call ⟨.builtin .append, #[x, y], #[t, tx]⟩, ty, pos, aft, g⟩ (mk n σ) w K Q := by
  subst el en
  refine o_app (m := s.len) (news := s.l.map V8) H hi hT hx hy (RdS.src hu hs.rd (by simp [hs.ln]) (by decide) (by simp [Value.oneCell'])) (by decide) (by omega) (by omega) fun a' cap' w' H' => h a' cap' w' ?_
  rw [List.map_append]; exact H'
/-- 'copy' onto bytes of one's own. -/
theorem o_copyB {i : Nat} {a : Option Nat} {len cap : Nat} {l : List UInt8} {T e e' : TypeId} {s : Sl} {tx : TypeId} (H : Hp w0 w S L) (hi : L[i]? = some (.own a len cap (l.map V8) T 1)) (hu : P.underlying t = some (.slice e)) (hu' : P.underlying tx = some (.slice e')) (hs : cellSz P e = some 1)
    (hx : ev n σ x = .slice (hd a) len cap) (hy : ev n σ y = s.v) (hsok : s.ok w) (hpos : 0 < len)
    (h : ∀ w', Hp w0 w' S (L.set i (.own a len cap ((s.l.take (min s.len len) ++ l.drop (min s.len len)).map V8) T 1)) → K (mk n (up σ d (VI ((min s.len len : Nat) : Int)))) w') :
    Oper.wp P ⟨some d, .call ⟨.builtin .copy, #[x, y], #[t, tx]⟩, ty, pos, aft, g⟩ (mk n σ) w K Q := by
  cases a with
  | none => have := H.has _ (List.mem_of_getElem? hi); obtain ⟨h1, _⟩ := this; omega
  | some b =>
    obtain ⟨q1, q2, q3, rest, hw, q5⟩ := H.has _ (List.mem_of_getElem? hi)
    have hlt : i < L.length := (List.getElem?_eq_some_iff.1 hi).1
    have Hb : Hp w0 w S (L.set i (.blk b (l.map V8 ++ rest) T)) := H.conv hi rfl fun _ => hw
    have hll : l.length = len := by simpa using q1
    refine o_copy (o := 0) (vs := s.l.map V8) Hb (i := i) (by rw [List.getElem?_set_self hlt]) hu hu' hs (by decide) hx hy hsok.rd (by simp [hsok.ln]) (by simp [Value.oneCell']) (by simp; omega) fun w' H' => h w' ?_
    have e1 : (l.map V8 ++ rest).take 0 ++ (s.l.map V8).take (min s.len len * 1) ++ (l.map V8 ++ rest).drop (0 + min s.len len * 1) = (s.l.take (min s.len len) ++ l.drop (min s.len len)).map V8 ++ rest := by
      rw [List.take_zero, List.nil_append, Nat.mul_one, Nat.zero_add, List.drop_append_of_le_length (by simp; omega)]
      simp
    rw [e1, List.set_set] at H'
    have hln := hsok.ln
    have := H'.conv (i := i) (c := .blk b ((s.l.take (min s.len len) ++ l.drop (min s.len len)).map V8 ++ rest) T) (c' := .own (some b) len cap ((s.l.take (min s.len len) ++ l.drop (min s.len len)).map V8) T 1) (by rw [List.getElem?_set_self hlt]) rfl (fun hok => ⟨by simp; omega, q2, q3, rest, hok, by simp only [List.length_append, List.length_map, List.length_take, List.length_drop] at *; omega⟩)
    rwa [List.set_set] at this
theorem Sl.ok_nil (w : World) : (⟨none, 0, 0, []⟩ : Sl).ok w := ⟨.inl rfl, rfl, Nat.le_refl _, by decide⟩
/-- bytes as they were given, with three marks behind them. -/
def Sl.full (x : Sl) : Sl := ⟨x.a, x.cap, x.cap, x.l ++ List.replicate 3 229⟩
structure Sl.kept (x : Sl) (w : World) : Prop where
  ok : x.ok w
  room : x.cap = x.len + 3
  all : x.full.ok w
theorem Sl.kept.up {x : Sl} (hx : x.kept w0) (H : Hp w0 w S L) (hap : Apart x.a S) : x.kept w :=
  ⟨hx.ok.up H (fun _ => hap), hx.room, hx.all.up H (fun _ => hap)⟩
theorem kept_of_blk {b : Nat} {l : List UInt8} {T : TypeId} (h : (Ch.blk b (tw l 3) T).ok w) (n : Nat) (hn : l.length = n) (hm : n ≤ 1099511627776) : (⟨some ⟨b, 0, none⟩, n, n + 3, l⟩ : Sl).kept w := by
  have e : tw l 3 = (l ++ List.replicate 3 229).map V8 := by simp [tw]
  rw [e] at h
  have hr := Ch.rd_all h
  refine ⟨⟨?_, hn, Nat.le_add_right _ _, Nat.le_trans hm (by decide)⟩, rfl, ⟨hr, by simp [Sl.full, hn], Nat.le_refl _, Nat.le_trans (Nat.add_le_add_right hm 3) (by decide)⟩⟩
  have := hr.take l.length
  rwa [← List.map_take, List.take_left] at this
theorem ba_loop (b : ByteArray) : ∀ (k i : Nat) (r : List UInt8), b.size - i = k → ByteArray.toList.loop b i r = r.reverse ++ b.data.toList.drop i := by
  intro k
  induction k with
  | zero =>
    intro i r h
    have hd : b.data.toList.drop i = [] := List.drop_of_length_le (by have : b.data.toList.length = b.size := rfl; omega)
    rw [ByteArray.toList.loop, if_neg (by omega), hd, List.append_nil]
  | succ k ih =>
    intro i r h
    have hlt : i < b.size := by omega
    have hl : i < b.data.toList.length := hlt
    rw [ByteArray.toList.loop, if_pos hlt, ih (i + 1) _ (by omega), List.drop_eq_getElem_cons hl]
    have : b.get! i = b.data.toList[i] := by
      show b.data[i]! = _
      rw [getElem!_pos b.data i hlt]; rfl
    rw [this]; simp
theorem ba_toList (l : List UInt8) : (⟨l.toArray⟩ : ByteArray).toList = l := by
  rw [ByteArray.toList, ba_loop _ _ 0 [] rfl]; simp
theorem beq_dec (a b : List UInt8) : (a == b) = decide (a = b) := by
  rw [Bool.eq_iff_iff]; simp
theorem run_streq {a b : List UInt8} (w : World) : (Op.stringOp .eql ⟨a.toArray⟩ ⟨b.toArray⟩).run P w = .ok (.bool (decide (a = b))) w := by
  rw [b_seql, ba_toList, ba_toList, beq_dec]
theorem r_streq {a b : List UInt8} (hx : ev n σ x = .string ⟨a.toArray⟩) (hy : ev n σ y = .string ⟨b.toArray⟩) :
    (execOp (ev n σ) ⟨some d, .binOp .eql t x y yt, ty, pos, aft, g⟩).run P w = .ok (.value (.bool (decide (a = b)))) w :=
  r_str hx hy (fun w => run_streq w) (by decide)
theorem r_strne {a b : List UInt8} (hx : ev n σ x = .string ⟨a.toArray⟩) (hy : ev n σ y = .string ⟨b.toArray⟩) :
    (execOp (ev n σ) ⟨some d, .binOp .neq t x y yt, ty, pos, aft, g⟩).run P w = .ok (.value (.bool (!decide (a = b)))) w :=
  r_str hx hy (fun w => by rw [b_sneq, ba_toList, ba_toList, beq_dec]) (by decide)
theorem r_b2S {s : Sl} {e : TypeId} (hs : P.underlying t = some (.slice e)) (he : P.underlying e = some (.int .u8)) (hd : P.underlying yt = some .string) (hx : ev n σ x = s.v) (hok : s.ok w) :
    (execOp (ev n σ) ⟨some d, .convert t yt x, ty, pos, aft, g⟩).run P w = .ok (.value (.string ⟨s.l.toArray⟩)) w :=
  r_b2s hs he hd hx hok.rd hok.ln
end
def resF (tmps : Array Value) : ResultVar → Sem Value
  | .tmp t => pure (tmps.getD t undef)
  | .cell a t => do loadVar t (← asAddr (tmps.getD a undef))
def resOk (P : Program) (n : Nat) (σ : Nat → Value) (w : World) : List ResultVar → List Value → Prop
  | [], [] => True
  | .tmp t :: rs, v :: vs => ev n σ (.tmp t) = v ∧ resOk P n σ w rs vs
  | .cell a t :: rs, v :: vs => (∃ b C T k, ev n σ (.tmp a) = .pointer (some ⟨b, 0, none⟩) ∧ w.heap[b]? = some (.cells (List.toArray C) T (0, 0)) ∧ ((rowTy P t = some k ∧ C.length = k ∧ v = .agg C.toArray) ∨ (cellTy P t = true ∧ C[0]? = some v))) ∧ resOk P n σ w rs vs
  | _, _ => False
theorem run_resF {P : Program} {n : Nat} {σ : Nat → Value} {w : World} : ∀ (rs : List ResultVar) (vs : List Value) (acc : Array Value), resOk P n σ w rs vs →
    (rs.foldlM (fun acc r => do let v ← resF (mk n σ).tmps r; pure (acc.push v)) acc : Sem (Array Value)).run P w = .ok (acc ++ vs.toArray) w
  | [], [], acc, _ => by simp
  | .tmp t :: rs, v :: vs, acc, h => by
    have h1 : (mk n σ).tmps.getD t undef = v := by rw [mk_tmp]; exact h.1
    have e : (resF (mk n σ).tmps (.tmp t)).run P w = .ok v w := by simp [resF, h1]
    rw [List.foldlM_cons, Sem.run_bind, Sem.run_bind, e]
    simp only [Result.andThen_ok, Sem.run_pure]
    rw [run_resF rs vs _ h.2]
    congr 1
    simp
  | .cell a t :: rs, v :: vs, acc, h => by
    obtain ⟨⟨b, C, T, k, h1, h2, h3⟩, h4⟩ := h
    have e1 : (mk n σ).tmps.getD a undef = .pointer (some ⟨b, 0, none⟩) := by rw [mk_tmp]; exact h1
    have e2 : (loadVar t ⟨b, 0, none⟩).run P w = .ok v w := by
      rcases h3 with ⟨hr, hk, rfl⟩ | ⟨hc, hv⟩
      · have := run_loadAt_row (P := P) (t := t) (k := k) (o := 0) h2 hr (by omega)
        simp only [Instr.loadAt, Instr.sureAddr, Sem.run_bind, Sem.run_pure, Result.andThen_ok] at this
        rw [this, List.drop_zero, List.take_of_length_le (by omega)]
      · have := run_loadAt_cell (P := P) (t := t) (a := ⟨b, 0, none⟩) (v := v) (w := w) hc (by simp [World.cell?, h2, hv])
        simpa only [Instr.loadAt, Instr.sureAddr, Sem.run_bind, Sem.run_pure, Result.andThen_ok] using this
    have e : (resF (mk n σ).tmps (.cell a t)).run P w = .ok v w := by simp [resF, e1, asAddr, e2]
    rw [List.foldlM_cons, Sem.run_bind, Sem.run_bind, e]
    simp only [Result.andThen_ok, Sem.run_pure]
    rw [run_resF rs vs _ h4]
    congr 1
    simp
theorem e_retN {P : Program} {n : Nat} {σ : Nat → Value} {w : World} {fn : Func} {R : Ending → World → Prop} (rs : List ResultVar) (vs : List Value) (hres : fn.results = rs.toArray) (h1 : (vs.length == 1) = false) (hv : resOk P n σ w rs vs)
    (hR : R (.returned (.tuple vs.toArray)) w) : bodyPost P fn R .ret (mk n σ) w := by
  refine ⟨mk_defers n σ, .tuple vs.toArray, ?_, hR⟩
  have h2 := run_resF (P := P) (w := w) rs vs #[] hv
  have h3 : (fn.results.mapM (resF (mk n σ).tmps)).run P w = .ok vs.toArray w := by
    rw [hres, Array.mapM_eq_foldlM, List.foldlM_toArray]
    simpa using h2
  have h4 : results fn (mk n σ).tmps = (do let vs ← fn.results.mapM (resF (mk n σ).tmps); pure (if h : vs.size = 1 then vs[0] else .tuple vs)) := by
    unfold results
    congr 1
  rw [h4, Sem.run_bind, h3]
  have : ¬ vs.length = 1 := by simpa using h1
  simp [this]
theorem resT {P : Program} {n : Nat} {σ : Nat → Value} {w : World} {t : Nat} {v : Value} {rs : List ResultVar} {vs : List Value} (hv : ev n σ (.tmp t) = v) (h : resOk P n σ w rs vs) : resOk P n σ w (.tmp t :: rs) (v :: vs) := ⟨hv, h⟩
theorem resZ {P : Program} {n : Nat} {σ : Nat → Value} {w : World} : resOk P n σ w [] [] := trivial
section
variable {P : Program} {Q : Exit → Act → World → Prop} {n : Nat} {σ : Nat → Value} {w : World} {c : Code} {ι κ ξ ο π : Type}
theorem c_loop3 (pat : ι → κ → ξ → List (Nat × Value)) (A : ι → κ → ξ → World → Prop) (μ : ι → κ → ξ → Nat) (i : ι) (k : κ) (x : ξ) (hp : fits σ (pat i k x)) (hA : A i k x w)
    (h : ∀ i k x τ w, A i k x w → c.wp P (Exit.then (Rnd n (fun y : ι × κ × ξ => pat y.1 y.2.1 y.2.2) (fun y => A y.1 y.2.1 y.2.2) (fun y => μ y.1 y.2.1 y.2.2) (μ i k x)) Q) (mk n (ups τ (pat i k x))) w) : (Code.loop c).wp P Q (mk n σ) w :=
  c_loop (fun y : ι × κ × ξ => pat y.1 y.2.1 y.2.2) (fun y => A y.1 y.2.1 y.2.2) (fun y => μ y.1 y.2.1 y.2.2) (i, k, x) hp hA fun y τ w hA => h y.1 y.2.1 y.2.2 τ w hA
theorem c_loop5 (pat : ι → κ → ξ → ο → π → List (Nat × Value)) (A : ι → κ → ξ → ο → π → World → Prop) (μ : ι → κ → ξ → ο → π → Nat) (i : ι) (k : κ) (x : ξ) (o : ο) (p : π) (hp : fits σ (pat i k x o p)) (hA : A i k x o p w)
    (h : ∀ i k x o p τ w, A i k x o p w → c.wp P (Exit.then (Rnd n (fun y : ι × κ × ξ × ο × π => pat y.1 y.2.1 y.2.2.1 y.2.2.2.1 y.2.2.2.2) (fun y => A y.1 y.2.1 y.2.2.1 y.2.2.2.1 y.2.2.2.2) (fun y => μ y.1 y.2.1 y.2.2.1 y.2.2.2.1 y.2.2.2.2) (μ i k x o p)) Q) (mk n (ups τ (pat i k x o p))) w) : (Code.loop c).wp P Q (mk n σ) w :=
  c_loop (fun y : ι × κ × ξ × ο × π => pat y.1 y.2.1 y.2.2.1 y.2.2.2.1 y.2.2.2.2) (fun y => A y.1 y.2.1 y.2.2.1 y.2.2.2.1 y.2.2.2.2) (fun y => μ y.1 y.2.1 y.2.2.1 y.2.2.2.1 y.2.2.2.2) (i, k, x, o, p) hp hA fun y τ w hA => h y.1 y.2.1 y.2.2.1 y.2.2.2.1 y.2.2.2.2 τ w hA
end
end Go.Proofs.Ytncmcgcilijfkaa
namespace Go.Proofs.Ytncmcgcilijfkaa
open Go
section
variable {P : Program} {Q : Exit → Act → World → Prop} {n : Nat} {σ : Nat → Value} {w w0 : World} {K : Act → World → Prop}
  {ty : TypeId} {pos : String} {aft : Array Edge} {g : Option (Nat × Bool)} {d : Nat} {t yt : TypeId} {x y z : Operand} {S : List Nat} {L : List Ch}
/-- a whole struct stored. -/
theorem o_stW {b i k : Nat} {C C' : List Value} {T : TypeId} (H : Hp w0 w S L) (hi : L[i]? = some (.blk b C T)) (hx : ev n σ x = .pointer (some ⟨b, 0, none⟩)) (hy : ev n σ y = .agg C'.toArray)
    (hs : cellSz P t = some k) (h1 : C'.all (·.oneCell') = true) (hk : C.length = k) (hk' : C'.length = k)
    (h : ∀ w', Hp w0 w' S (L.set i (.blk b C' T)) → K (mk n σ) w') : Oper.wp P ⟨none, .store t x y, ty, pos, aft, g⟩ (mk n σ) w K Q :=
  o_stw H hi hx hy (by rw [hs, List.size_toArray, hk']) (by rw [List.all_toArray]; exact h1) (by rw [List.size_toArray, hk, hk']) fun w' H' => h w' H'
/-- slices of structs: what stands there. -/
structure Gl (α : Type) where
  a : Option Addr
  len : Nat
  cap : Nat
  l : List α
def Gl.v {α : Type} (s : Gl α) : Value := .slice s.a s.len s.cap
structure Gl.ok {α : Type} (enc : α → List Value) (sz : Nat) (s : Gl α) (w : World) : Prop where
  rd : RdS w s.a (s.l.flatMap enc)
  ln : s.l.length = s.len
  le : s.len ≤ s.cap
  mx : s.cap ≤ maxLen
  sz : ∀ c ∈ s.l, (enc c).length = sz
theorem Gl.ok.up {α : Type} {enc : α → List Value} {sz : Nat} {s : Gl α} (hs : s.ok enc sz w0) (H : Hp w0 w [] L) : s.ok enc sz w := ⟨H.rd hs.rd (apart_nil _), hs.ln, hs.le, hs.mx, hs.sz⟩
theorem flat_len {α : Type} {enc : α → List Value} {sz : Nat} : ∀ {l : List α}, (∀ c ∈ l, (enc c).length = sz) → (l.flatMap enc).length = l.length * sz
  | [], _ => by simp
  | c :: l, h => by
    rw [List.flatMap_cons, List.length_append, h c (by simp), flat_len (l := l) (fun c hc => h c (by simp [hc])), List.length_cons, Nat.succ_mul, Nat.add_comm]
theorem flat_at {α : Type} {enc : α → List Value} {sz : Nat} {c : α} : ∀ {l : List α} {k : Nat}, (∀ c ∈ l, (enc c).length = sz) → l[k]? = some c → ((l.flatMap enc).drop (k * sz)).take sz = enc c
  | [], k, _, h => by simp at h
  | b :: l, 0, hs, h => by
    simp at h; subst h
    have := hs b (by simp)
    rw [Nat.zero_mul, List.drop_zero, List.flatMap_cons, ← this, List.take_left]
  | b :: l, k + 1, hs, h => by
    have hb := hs b (by simp)
    rw [Nat.succ_mul, Nat.add_comm, List.flatMap_cons, ← List.drop_drop, ← hb, List.drop_left, hb]
    exact flat_at (fun c hc => hs c (by simp [hc])) (by simpa using h)
theorem Gl.ok.addr {α : Type} {enc : α → List Value} {sz : Nat} {s : Gl α} (h : s.ok enc sz w) (hz : 0 < sz) (hp : 0 < s.len) : ∃ b o, s.a = some ⟨b, o, none⟩ :=
  h.rd.addr (by rw [flat_len h.sz, h.ln]; exact Nat.mul_pos hp hz)
theorem r_ldRow {α : Type} {enc : α → List Value} {sz : Nat} {s : Gl α} {b o k : Nat} {c : α} (hs : s.ok enc sz w) (ha : s.a = some ⟨b, o, none⟩) (hx : ev n σ x = .pointer (some ⟨b, o + k * sz, none⟩)) (ht : rowTy P t = some sz) (hz : 0 < sz) (hk : s.l[k]? = some c) :
    (execOp (ev n σ) ⟨some d, .load t x, ty, pos, aft, g⟩).run P w = .ok (.value (.agg (enc c).toArray)) w := by
  have hlt : k < s.l.length := (List.getElem?_eq_some_iff.1 hk).1
  have := r_ldsr (P := P) (w := w) (t := t) (d := d) (ty := ty) (pos := pos) (aft := aft) (g := g) hs.rd ha hx ht hz (by
    rw [flat_len hs.sz]
    have : (k + 1) * sz ≤ s.l.length * sz := Nat.mul_le_mul_right _ hlt
    rw [Nat.succ_mul] at this; exact this)
  rwa [flat_at hs.sz hk] at this
/-- a field of a struct of a slice. -/
theorem r_ldFld {α : Type} {enc : α → List Value} {sz off : Nat} {s : Gl α} {b o k : Nat} {c : α} {v : Value} (hs : s.ok enc sz w) (ha : s.a = some ⟨b, o, none⟩) (hx : ev n σ x = .pointer (some ⟨b, o + k * sz + off, none⟩)) (ht : cellTy P t = true) (hk : s.l[k]? = some c) (hoff : off < sz) (hv : (enc c)[off]? = some v) :
    (execOp (ev n σ) ⟨some d, .load t x, ty, pos, aft, g⟩).run P w = .ok (.value v) w := by
  refine r_lds (i := k * sz + off) hs.rd ha (by rw [hx, Nat.add_assoc]) ht ?_
  have h := flat_at hs.sz hk
  rw [← h, List.getElem?_take_of_lt hoff, List.getElem?_drop] at hv
  exact hv
theorem Hp.glOwn {α : Type} {enc : α → List Value} (H : Hp w0 w S L) {i : Nat} {a : Option Nat} {len cap sz : Nat} {l : List α} {T : TypeId} (hi : L[i]? = some (.own a len cap (l.flatMap enc) T sz)) (hz : 0 < sz) (hs : ∀ c ∈ l, (enc c).length = sz) : (⟨hd a, len, cap, l⟩ : Gl α).ok enc sz w := by
  have h := H.ownLen hi
  refine ⟨H.own hi, ?_, h.2.1, h.2.2, hs⟩
  have h1 := h.1
  rw [flat_len hs] at h1
  exact Nat.eq_of_mul_eq_mul_right hz h1
/-- structs behind structs of one's own. -/
theorem o_appG {α : Type} {enc : α → List Value} {i : Nat} {a : Option Nat} {len cap len' sz bytes : Nat} {l l' : List α} {e e' : TypeId} {tx : TypeId} {s : Gl α} (el : l ++ s.l = l') (en : len + s.len = len') (H : Hp w0 w S L) (hi : L[i]? = some (.own a len cap (l.flatMap enc) e sz)) (hT : SlTy P t e sz bytes) (hu : P.underlying tx = some (.slice e'))
    (hx : ev n σ x = .slice (hd a) len cap) (hy : ev n σ y = s.v) (hs : s.ok enc sz w) (hz : 0 < sz) (h1 : ∀ c ∈ s.l, (enc c).all (·.oneCell') = true) (hm : len' ≤ 68719476736) (hb : bytes ≤ 2048)
    (h : ∀ a' cap' w', Hp w0 w' S (L.set i (.own a' len' cap' (l'.flatMap enc) e sz)) → K (mk n (up σ d (.slice (hd a') len' cap'))) w') :
    Oper.wp P ⟨some d, .call ⟨.builtin .append, #[x, y], #[t, tx]⟩, ty, pos, aft, g⟩ (mk n σ) w K Q := by
  subst el en
  have h1' : ∀ u ∈ s.l.flatMap enc, u.oneCell' = true := by
    intro u hu
    obtain ⟨c, hc, huc⟩ := List.mem_flatMap.1 hu
    exact List.all_eq_true.1 (h1 c hc) u huc
  refine o_app (m := s.len) (news := s.l.flatMap enc) H hi hT hx hy (RdS.src hu hs.rd (by rw [flat_len hs.sz, hs.ln]) hz h1') hz (by omega) (Nat.le_trans (Nat.mul_le_mul hm hb) (by decide)) fun a' cap' w' H' => h a' cap' w' ?_
  rw [List.flatMap_append]; exact H'
theorem o_bslG0 {α : Type} {enc : α → List Value} {e : TypeId} {sz bytes : Nat} {zs : List Value} (H : Hp w0 w S L) (hT : SlTy P t e sz bytes) (hz : zeroCells P e = some zs) (h0 : 0 < sz)
    (h : ∀ b w', Hp w0 w' S (L ++ [.own (some b) 0 0 (([] : List α).flatMap enc) e sz]) → w0.heap.size ≤ b → K (mk n (up σ d (.slice (hd (some b)) 0 0))) w') :
    Oper.wp P ⟨some d, .buildSlice t 0 #[], ty, pos, aft, g⟩ (mk n σ) w K Q := by
  refine o_bsl (pv := []) (cells := #[]) H hT hz h0 rfl (by omega) ?_ fun b w' H' hb => h b w' ?_ hb
  · simp [Instr.fill]
  · have := H'.toOwn (i := L.length) (len := 0) (cap := 0) (sz := sz) (b := b) (C := []) (T := e) (by simp) (Nat.le_refl _) (by decide) (by simp)
    rw [List.set_append_right _ _ (Nat.le_refl _), Nat.sub_self] at this
    simpa using this
end
end Go.Proofs.Ytncmcgcilijfkaa
namespace Go.Proofs.Ytncmcgcilijfkaa
open Go
section
variable {P : Program} {Q : Exit → Act → World → Prop} {n : Nat} {σ : Nat → Value} {w w0 : World} {K : Act → World → Prop}
  {ty : TypeId} {pos : String} {aft : Array Edge} {g : Option (Nat × Bool)} {d : Nat} {t yt : TypeId} {x y : Operand} {S : List Nat} {L : List Ch}
theorem flat_take {α : Type} {enc : α → List Value} {sz : Nat} {l : List α} (h : ∀ c ∈ l, (enc c).length = sz) (k : Nat) : (l.flatMap enc).take (k * sz) = (l.take k).flatMap enc := by
  by_cases hk : k ≤ l.length
  · have e : l.flatMap enc = (l.take k).flatMap enc ++ (l.drop k).flatMap enc := by rw [← List.flatMap_append, List.take_append_drop]
    have hl : ((l.take k).flatMap enc).length = k * sz := by
      rw [flat_len (fun c hc => h c (List.mem_of_mem_take hc)), List.length_take, Nat.min_eq_left hk]
    rw [e, List.take_left' hl]
  · rw [List.take_of_length_le (l := l) (by omega), List.take_of_length_le]
    rw [flat_len h]; exact Nat.mul_le_mul_right _ (by omega)
theorem flat_drop {α : Type} {enc : α → List Value} {sz : Nat} {l : List α} (h : ∀ c ∈ l, (enc c).length = sz) (k : Nat) : (l.flatMap enc).drop (k * sz) = (l.drop k).flatMap enc := by
  by_cases hk : k ≤ l.length
  · have e : l.flatMap enc = (l.take k).flatMap enc ++ (l.drop k).flatMap enc := by rw [← List.flatMap_append, List.take_append_drop]
    have hl : ((l.take k).flatMap enc).length = k * sz := by
      rw [flat_len (fun c hc => h c (List.mem_of_mem_take hc)), List.length_take, Nat.min_eq_left hk]
    rw [e, List.drop_left' hl]
  · rw [List.drop_of_length_le (l := l) (by omega), List.drop_of_length_le]
    · rfl
    · rw [flat_len h]; exact Nat.mul_le_mul_right _ (by omega)
end
end Go.Proofs.Ytncmcgcilijfkaa
namespace Go.Proofs.Ytncmcgcilijfkaa
open Go
section
variable {P : Program} {n : Nat} {σ : Nat → Value} {w : World}
  {ty : TypeId} {pos : String} {aft : Array Edge} {g : Option (Nat × Bool)} {d : Nat} {t : TypeId} {x : Operand}
/-- a call that leaves nothing behind. -/
theorem Hp.keep1 {w0 w w' : World} {S : List Nat} {L : List Ch} (H : Hp w0 w S L) (Hc : Hp w w' [] []) : Hp w0 w' S L := by
  have := H.call Hc
  rwa [List.append_nil] at this
/-- a piece of a slice of structs. -/
def Gl.cut {α : Type} (s : Gl α) (sz l h m : Nat) : Gl α := ⟨sa s.a l m sz, h - l, m - l, (s.l.drop l).take (h - l)⟩
theorem Gl.ok.cut {α : Type} {enc : α → List Value} {sz : Nat} {s : Gl α} (hs : s.ok enc sz w) {l h m : Nat} (h1 : l ≤ h) (h2 : h ≤ s.len) (h3 : h ≤ m) (h4 : m ≤ s.cap) : (s.cut sz l h m).ok enc sz w := by
  have hsz : ∀ c ∈ s.l.drop l, (enc c).length = sz := fun c hc => hs.sz c (List.mem_of_mem_drop hc)
  refine ⟨?_, ?_, by simp only [Gl.cut]; omega, by have := hs.mx; simp only [Gl.cut]; omega, fun c hc => hsz c (List.mem_of_mem_take hc)⟩
  · unfold Gl.cut
    simp only
    by_cases hml : m = l
    · have : (s.l.drop l).take (h - l) = [] := by rw [show h - l = 0 by omega, List.take_zero]
      rw [this]; exact .inl rfl
    · have e : sa s.a l m sz = s.a.map (·.add (l * sz)) := by unfold sa; rw [if_neg hml]
      rw [e, ← flat_take hsz, ← flat_drop hs.sz]
      exact (hs.rd.drop (l * sz)).take _
  · have := hs.ln
    simp only [Gl.cut, List.length_take, List.length_drop]; omega
end
end Go.Proofs.Ytncmcgcilijfkaa
namespace Go.Proofs.Ytncmcgcilijfkaa
open Go Go.MapKept
set_option linter.unusedSectionVars false
section
variable {κ : Type} [DecidableEq κ]
def ment (kv : κ → Value) (x : κ × Value × Nat) : MapEntry := { key := kv x.1, val := x.2.1, born := x.2.2 }
def midx (k : κ) : List (κ × Value × Nat) → Nat → Option (Nat × Value)
  | [], _ => none
  | x :: L, i => if k = x.1 then some (i, x.2.1) else midx k L (i + 1)
/-- what stands under a key. -/
def mget (L : List (κ × Value × Nat)) (k : κ) : Option Value :=
  match L with
  | [] => none
  | x :: L => if k = x.1 then some x.2.1 else mget L k
def mput (k : κ) (v : Value) (c : Nat) : List (κ × Value × Nat) → List (κ × Value × Nat)
  | [] => [(k, v, c)]
  | x :: L => if k = x.1 then (k, v, x.2.2) :: L else x :: mput k v c L
def mclk (L : List (κ × Value × Nat)) (k : κ) (c : Nat) : Nat := if (mget L k).isSome then c else c + 1
structure MOk (L : List (κ × Value × Nat)) (c : Nat) : Prop where
  keys : (L.map (·.1)).Nodup
  born : (L.map (·.2.2)).Nodup
  old : ∀ x ∈ L, x.2.2 < c
omit [DecidableEq κ] in
theorem MOk.nil : MOk ([] : List (κ × Value × Nat)) 0 := ⟨List.nodup_nil, List.nodup_nil, fun _ h => by cases h⟩
theorem mget_put (k j : κ) (v : Value) (c : Nat) : ∀ L : List (κ × Value × Nat), mget (mput k v c L) j = if j = k then some v else mget L j
  | [] => by simp [mput, mget]
  | x :: L => by
    rw [mput]
    by_cases h : k = x.1
    · rw [if_pos h, mget, mget, ← h]; simp only
      by_cases hj : j = k <;> simp [hj]
    · rw [if_neg h, mget, mget, mget_put k j v c L]
      by_cases hj : j = x.1
      · rw [if_pos hj, if_pos hj, if_neg (fun e : j = k => h (e.symm.trans hj))]
      · rw [if_neg hj, if_neg hj]
theorem mput_keys (k : κ) (v : Value) (c : Nat) : ∀ (L : List (κ × Value × Nat)) (j : κ), j ∈ (mput k v c L).map (·.1) ↔ j = k ∨ j ∈ L.map (·.1)
  | [], j => by simp [mput]
  | x :: L, j => by
    rw [mput]
    by_cases h : k = x.1
    · rw [if_pos h]; simp [h]
    · rw [if_neg h, List.map_cons, List.mem_cons, mput_keys k v c L j, List.map_cons, List.mem_cons]
      constructor
      · rintro (h1 | h1 | h1) <;> simp [h1]
      · rintro (h1 | h1 | h1) <;> simp [h1]
theorem mput_born (k : κ) (v : Value) (c : Nat) : ∀ (L : List (κ × Value × Nat)) (x : κ × Value × Nat), x ∈ mput k v c L → x.2.2 = c ∧ mget L k = none ∨ ∃ y ∈ L, x.2.2 = y.2.2
  | [], x, h => by
    simp only [mput, List.mem_singleton] at h
    subst h; exact .inl ⟨rfl, rfl⟩
  | y :: L, x, h => by
    rw [mput] at h
    by_cases hk : k = y.1
    · rw [if_pos hk] at h
      rcases List.mem_cons.1 h with rfl | h
      · exact .inr ⟨y, List.mem_cons_self .., rfl⟩
      · exact .inr ⟨x, List.mem_cons_of_mem _ h, rfl⟩
    · rw [if_neg hk] at h
      rcases List.mem_cons.1 h with rfl | h
      · exact .inr ⟨x, List.mem_cons_self .., rfl⟩
      · rcases mput_born k v c L x h with ⟨h1, h2⟩ | ⟨z, hz, h2⟩
        · exact .inl ⟨h1, by rw [mget, if_neg hk]; exact h2⟩
        · exact .inr ⟨z, List.mem_cons_of_mem _ hz, h2⟩
theorem MOk.put {L : List (κ × Value × Nat)} {c : Nat} (h : MOk L c) (k : κ) (v : Value) : MOk (mput k v c L) (mclk L k c) := by
  refine ⟨?_, ?_, fun x hx => ?_⟩
  · have hk := h.keys
    clear h
    induction L with
    | nil => simp [mput]
    | cons x L ih =>
      rw [mput]
      rw [List.map_cons, List.nodup_cons] at hk
      by_cases e : k = x.1
      · rw [if_pos e, List.map_cons, List.nodup_cons]; exact ⟨by simp only; rw [e]; exact hk.1, hk.2⟩
      · rw [if_neg e, List.map_cons, List.nodup_cons]
        refine ⟨fun hm => ?_, ih hk.2⟩
        rcases (mput_keys k v c L x.1).1 hm with h1 | h1
        · exact e h1.symm
        · exact hk.1 h1
  · have hb := h.born
    have ho := h.old
    clear h
    induction L with
    | nil => simp [mput]
    | cons x L ih =>
      rw [mput]
      rw [List.map_cons, List.nodup_cons] at hb
      by_cases e : k = x.1
      · rw [if_pos e, List.map_cons, List.nodup_cons]; exact hb
      · rw [if_neg e, List.map_cons, List.nodup_cons]
        refine ⟨fun hm => ?_, ih hb.2 (fun y hy => ho y (List.mem_cons_of_mem _ hy))⟩
        obtain ⟨y, hy, he⟩ := List.mem_map.1 hm
        rcases mput_born k v c L y hy with ⟨h1, _⟩ | ⟨z, hz, h2⟩
        · have := ho x (List.mem_cons_self ..); omega
        · exact hb.1 (List.mem_map.2 ⟨z, hz, by rw [← h2, he]⟩)
  · unfold mclk
    rcases mput_born k v c L x hx with ⟨h1, h2⟩ | ⟨z, hz, h2⟩
    · rw [h2]; simp only [Option.isSome_none]; rw [if_neg (by decide)]; omega
    · have := h.old z hz
      split <;> omega
/-- keys of a type: how they are found. -/
structure KeyOf (P : Program) (kt : TypeId) (kv : κ → Value) : Prop where
  chk : ∀ (e : Bool) (k : κ) (w : World), (Instr.checkKey e 10000 kt (kv k)).run P w = .ok () w
  fnd : ∀ (k : κ) (L : List (κ × Value × Nat)) (w : World), (Instr.findKey kt (kv k) (L.map (ment kv))).run P w = .ok (midx k L 0) w
  same : ∀ k, Instr.sameBits 10000 (kv k) (kv k) = true
theorem KeyOf.str {P : Program} {kt : TypeId} (hu : P.underlying kt = some .string) : KeyOf P kt (fun l : List UInt8 => Value.string ⟨l.toArray⟩) := by
  have hbe : ∀ a b : List UInt8, ((⟨a.toArray⟩ : ByteArray) == ⟨b.toArray⟩) = decide (a = b) := fun a b => by
    rw [Bool.eq_iff_iff, decide_eq_true_eq, bytes_beq]
    constructor
    · intro h; simpa using h
    · intro h; rw [h]
  refine ⟨fun e k w => ?_, fun k L w => ?_, fun k => ?_⟩
  · show (Instr.checkKey e (9999 + 1) kt _).run P w = _
    exact run_checkKey hu (by simp [IsKey]) e 9999
  · have : ∀ (L : List (List UInt8 × Value × Nat)) (i : Nat), Instr.findNow .string (Value.string ⟨k.toArray⟩) (L.map (ment fun l : List UInt8 => Value.string ⟨l.toArray⟩)) i = some (midx k L i) := by
      intro L
      induction L with
      | nil => intro i; rfl
      | cons x L ih =>
        intro i
        have e : Instr.sameNow .string (Value.string ⟨k.toArray⟩) (Value.string ⟨x.1.toArray⟩) = some (decide (k = x.1)) := by rw [Instr.sameNow, hbe]
        rw [List.map_cons, Instr.findNow]
        show (match Instr.sameNow .string (Value.string ⟨k.toArray⟩) (Value.string ⟨x.1.toArray⟩) with | some true => _ | some false => _ | none => _) = _
        rw [e, midx]
        by_cases h : k = x.1
        · rw [decide_eq_true h, if_pos h]; rfl
        · rw [decide_eq_false h, if_neg h]; exact ih (i + 1)
    exact run_findKey hu (this L 0)
  · exact sameBits_self (d := .string) (by simp [IsKey]) _
/-- a map's block. -/
def mobj (kv : κ → Value) (L : List (κ × Value × Nat)) (c : Nat) : Obj := .map (L.map (ment kv)).toArray c
theorem midx_get (k : κ) : ∀ (L : List (κ × Value × Nat)) (i : Nat), (midx k L i).map (·.2) = mget L k
  | [], _ => rfl
  | x :: L, i => by
    rw [midx, mget]
    by_cases h : k = x.1
    · rw [if_pos h, if_pos h]; rfl
    · rw [if_neg h, if_neg h]; exact midx_get k L (i + 1)
end
section
variable {κ : Type} [DecidableEq κ] {P : Program} {Q : Exit → Act → World → Prop} {n : Nat} {σ : Nat → Value} {w w0 : World} {K : Act → World → Prop}
  {ty : TypeId} {pos : String} {aft : Array Edge} {g : Option (Nat × Bool)} {d : Nat} {t kt et : TypeId} {x y : Operand} {S : List Nat} {L : List Ch}
/-- 'make' of a map. -/
theorem o_mmake (kv : κ → Value) (H : Hp w0 w S L) (h : ∀ b w', Hp w0 w' S (L ++ [.obj b (mobj kv [] 0)]) → w0.heap.size ≤ b → K (mk n (up σ d (.map (some b)))) w') : Oper.wp P ⟨some d, .makeMap t none, ty, pos, aft, g⟩ (mk n σ) w K Q := by
  refine o_val (v := .map (some w.heap.size)) (w' := w.alloc (.map #[] 0)) ?_ (h w.heap.size _ (H.new _ (.obj w.heap.size (mobj kv [] 0)) rfl (heap_alloc_new' w _)) H.size)
  rfl
/-- a look-up. -/
theorem r_look {kv : κ → Value} {M : List (κ × Value × Nat)} {c i b : Nat} {k : κ} {z : Value} (H : Hp w0 w S L) (hi : L[i]? = some (.obj b (mobj kv M c))) (hu : P.underlying t = some (.map kt et)) (hK : KeyOf P kt kv) (hz : ∀ w, (zeroValue et).run P w = .ok z w)
    (hx : ev n σ x = .map (some b)) (hy : ev n σ y = kv k) (ok : Bool) :
    (execOp (ev n σ) ⟨some d, .lookup t x y ok, ty, pos, aft, g⟩).run P w = .ok (.value (if ok then .tuple #[(mget M k).getD z, .bool (mget M k).isSome] else (mget M k).getD z)) w := by
  have hb : w.heap[b]? = some (.map (M.map (ment kv)).toArray c) := H.has _ (List.mem_of_getElem? hi)
  have hg : (Instr.lookup t (.map (some b)) (kv k) ok).run P w = .ok (if ok then .tuple #[(mget M k).getD z, .bool (mget M k).isSome] else (mget M k).getD z) w := by
    unfold Instr.lookup
    simp only [Sem.run_bind, run_underlying hu, Result.andThen_ok, MapKept.run_getObj_map hb, hK.chk]
    have hf := hK.fnd k M w
    rw [← midx_get k M 0]
    cases hm : midx k M 0 with
    | none => rw [hm] at hf; cases ok <;> simp [hf, hz]
    | some r => rw [hm] at hf; cases ok <;> simp [hf]
  simp only [execOp, hx, hy, Sem.run_bind, hg, Result.andThen_ok]
  rfl
theorem keyStays (k : κ) {kv : κ → Value} (hK : KeyOf P kt kv) : (Instr.keyThatStays (kv k) (kv k)).run P w = .ok (kv k) w := by
  unfold Instr.keyThatStays
  rw [if_pos (hK.same k)]; rfl
theorem midx_some {k : κ} : ∀ {M : List (κ × Value × Nat)} {i j : Nat} {v : Value}, midx k M i = some (j, v) → ∃ x m, j = i + m ∧ M[m]? = some x ∧ x.1 = k ∧ x.2.1 = v
  | [], _, _, _, h => by cases h
  | x :: M, i, j, v, h => by
    rw [midx] at h
    by_cases hk : k = x.1
    · rw [if_pos hk] at h; cases h; exact ⟨x, 0, rfl, rfl, hk.symm, rfl⟩
    · rw [if_neg hk] at h
      obtain ⟨y, m, h1, h2, h3⟩ := midx_some h
      exact ⟨y, m + 1, by omega, h2, h3⟩
theorem mput_none {k : κ} {v : Value} {c : Nat} : ∀ {M : List (κ × Value × Nat)} {i : Nat}, midx k M i = none → mput k v c M = M ++ [(k, v, c)] ∧ mget M k = none
  | [], _, _ => ⟨rfl, rfl⟩
  | x :: M, i, h => by
    rw [midx] at h
    by_cases hk : k = x.1
    · rw [if_pos hk] at h; cases h
    · rw [if_neg hk] at h
      obtain ⟨h1, h2⟩ := mput_none (v := v) (c := c) h
      rw [mput, if_neg hk, h1, mget, if_neg hk]; exact ⟨rfl, h2⟩
theorem mput_some {kv : κ → Value} {k : κ} {v u : Value} {c : Nat} : ∀ {M : List (κ × Value × Nat)} {i j : Nat}, midx k M i = some (j, u) → ((M.map (ment kv)).modify (j - i) fun e => { e with key := kv k, val := v }) = (mput k v c M).map (ment kv) ∧ mget M k = some u ∧ i ≤ j
  | [], _, _, h => by cases h
  | x :: M, i, j, h => by
    rw [midx] at h
    by_cases hk : k = x.1
    · rw [if_pos hk] at h; cases h
      rw [mput, if_pos hk, mget, if_pos hk, Nat.sub_self]
      exact ⟨by simp [ment], rfl, Nat.le_refl _⟩
    · rw [if_neg hk] at h
      obtain ⟨h1, h2, h3⟩ := mput_some (kv := kv) (v := v) (c := c) h
      rw [mput, if_neg hk, mget, if_neg hk]
      refine ⟨?_, h2, by omega⟩
      rw [show j - i = (j - (i + 1)) + 1 by omega, List.map_cons, List.modify_succ_cons, h1, List.map_cons]
/-- 'm[k] = v'. -/
theorem o_mput {kv : κ → Value} {M : List (κ × Value × Nat)} {c i b : Nat} {k : κ} {v : Value} {z : Operand} (H : Hp w0 w S L) (hi : L[i]? = some (.obj b (mobj kv M c))) (hu : P.underlying t = some (.map kt et)) (hK : KeyOf P kt kv)
    (hx : ev n σ x = .map (some b)) (hy : ev n σ y = kv k) (hv : ev n σ z = v) (h : ∀ w', Hp w0 w' S (L.set i (.obj b (mobj kv (mput k v c M) (mclk M k c)))) → K (mk n σ) w') :
    Oper.wp P ⟨none, .mapUpdate t x y z, ty, pos, aft, g⟩ (mk n σ) w K Q := by
  have hb : w.heap[b]? = some (.map (M.map (ment kv)).toArray c) := H.has _ (List.mem_of_getElem? hi)
  have hset := heap_set (o' := mobj kv (mput k v c M) (mclk M k c)) hb
  have hg : (Instr.mapUpdate t (.map (some b)) (kv k) v).run P w = .ok () { w with heap := w.heap.setIfInBounds b (mobj kv (mput k v c M) (mclk M k c)) } := by
    unfold Instr.mapUpdate
    simp only [Sem.run_bind, run_underlying hu, Result.andThen_ok, MapKept.run_getObj_map hb, hK.chk]
    have hf := hK.fnd k M w
    cases hm : midx k M 0 with
    | none =>
      rw [hm] at hf
      obtain ⟨h1, h2⟩ := mput_none (v := v) (c := c) hm
      have e : mobj kv (mput k v c M) (mclk M k c) = .map ((M.map (ment kv)).toArray.push { key := kv k, val := v, born := c }) (c + 1) := by
        rw [mobj, h1, mclk, h2]; simp [ment]
      rw [e]
      simp [hf, MapKept.run_setObj_map _ hb]
    | some r =>
      obtain ⟨j, u⟩ := r
      rw [hm] at hf
      obtain ⟨h1, h2, _⟩ := mput_some (kv := kv) (v := v) (c := c) hm
      obtain ⟨xx, m, hj, hM, hk1, _⟩ := midx_some hm
      rw [Nat.sub_zero] at h1
      have hjm : j = m := by omega
      subst hjm
      have e : mobj kv (mput k v c M) (mclk M k c) = .map ((M.map (ment kv)).toArray.modify j fun e => { e with key := kv k, val := v }) c := by
        rw [mobj, ← h1, mclk, h2]; simp
      have hold : (((M.map (ment kv)).toArray[j]?).map (·.key)).getD (kv k) = kv k := by
        simp [hM, ment, hk1]
      have hst := keyStays (w := w) k hK
      rw [e]
      simp only [hf, Result.andThen_ok]
      rw [Sem.run_bind, hold, hst, Result.andThen_ok, MapKept.run_setObj_map _ hb]
  refine o_skip (w' := { w with heap := w.heap.setIfInBounds b (mobj kv (mput k v c M) (mclk M k c)) }) ?_ (h _ ?_)
  · simp only [execOp, hx, hy, hv, Sem.run_bind, hg, Result.andThen_ok]; rfl
  · refine H.turn hi (c' := .obj b (mobj kv (mput k v c M) (mclk M k c))) hset.1 (fun b' hb' => .inl hb') rfl rfl rfl (by simp) (fun b' _ hne => ?_)
    exact hset.2 b' (fun e => hne (by rw [e]; rfl))
end
end Go.Proofs.Ytncmcgcilijfkaa
namespace Go.Proofs.Ytncmcgcilijfkaa
open Go Go.MapKept
set_option linter.unusedSectionVars false
section
variable {κ : Type} [DecidableEq κ] {P : Program} {Q : Exit → Act → World → Prop} {n : Nat} {σ : Nat → Value} {w w0 : World} {K : Act → World → Prop}
  {ty : TypeId} {pos : String} {aft : Array Edge} {g : Option (Nat × Bool)} {d : Nat} {t kt et : TypeId} {x y : Operand} {S : List Nat} {L : List Ch}
theorem o_valN {op : Op} {v : Value} {w' : World} (hrun : (execOp (ev n σ) ⟨none, op, ty, pos, aft, g⟩).run P w = .ok (.value v) w')
    (h : K (mk n σ) w') : Oper.wp P ⟨none, op, ty, pos, aft, g⟩ (mk n σ) w K Q := by
  unfold Oper.wp
  rw [mk_evalf, hrun, Oper.upon_value]
  exact h
theorem Hp.mset {kv : κ → Value} {M M' : List (κ × Value × Nat)} {c c' i b : Nat} (H : Hp w0 w S L) (hi : L[i]? = some (.obj b (mobj kv M c))) : Hp w0 { w with heap := w.heap.setIfInBounds b (mobj kv M' c') } S (L.set i (.obj b (mobj kv M' c'))) := by
  have hb : w.heap[b]? = some (.map (M.map (ment kv)).toArray c) := H.has _ (List.mem_of_getElem? hi)
  have hset := heap_set (o' := mobj kv M' c') hb
  refine H.turn hi (c' := .obj b (mobj kv M' c')) hset.1 (fun b' hb' => .inl hb') rfl rfl rfl (by simp) (fun b' _ hne => ?_)
  exact hset.2 b' (fun e => hne (by rw [e]; rfl))
/-- an entry's stamp. -/
def mborn (M : List (κ × Value × Nat)) (k : κ) : Nat :=
  match M with
  | [] => 0
  | x :: M => if k = x.1 then x.2.2 else mborn M k
end
end Go.Proofs.Ytncmcgcilijfkaa
namespace Go.Proofs.Ytncmcgcilijfkaa
open Go
/-- 32 bytes. -/
abbrev Id32 := { l : List UInt8 // l.length = 32 }
section
variable {P : Program} {Q : Exit → Act → World → Prop} {n : Nat} {σ : Nat → Value} {w w0 : World} {K : Act → World → Prop}
  {ty : TypeId} {pos : String} {aft : Array Edge} {g : Option (Nat × Bool)} {d : Nat} {t e k' yt : TypeId} {x y : Operand} {S : List Nat} {L : List Ch}
theorem r_stradd {a b : List UInt8} (hx : ev n σ x = .string ⟨a.toArray⟩) (hy : ev n σ y = .string ⟨b.toArray⟩) (hl : a.length + b.length ≤ 9223372036854775807) :
    (execOp (ev n σ) ⟨some d, .binOp .add t x y yt, ty, pos, aft, g⟩).run P w = .ok (.value (.string ⟨(a ++ b).toArray⟩)) w :=
  r_str hx hy (fun w => by
    have e1 : ((⟨a.toArray⟩ : ByteArray) ++ ⟨b.toArray⟩) = ⟨(a ++ b).toArray⟩ := by
      apply ByteArray.ext
      rw [ByteArray.data_append]
      simp
    have e2 : ¬ ((((⟨a.toArray⟩ : ByteArray).size + (⟨b.toArray⟩ : ByteArray).size : Nat) : Int) > IntKind.i64.max) := by
      have h1 : (⟨a.toArray⟩ : ByteArray).size = a.length := rfl
      have h2 : (⟨b.toArray⟩ : ByteArray).size = b.length := rfl
      have h3 : IntKind.i64.max = 9223372036854775807 := rfl
      omega
    simp only [Op.stringOp, if_neg e2, e1]
    rfl) (by decide)
theorem eq_nilpp (hu : P.underlying t = some (.pointer e)) : (Op.equal t (.pointer none) (.pointer none)).run P w = .ok true w := by
  have h : ∀ dd, (Op.equalIn (dd + 1) t (.pointer none) (.pointer none)).run P w = .ok true w := fun dd => by
    simp only [Op.equalIn, Sem.run_bind, run_underlying hu, Result.andThen_ok]
    rfl
  exact h 9999
theorem r_nilpp (hu : P.underlying t = some (.pointer e)) (_hg : P.eqGuardType P.depth t = false) (hx : ev n σ x = .pointer none) (hy : ev n σ y = .pointer none) :
    (execOp (ev n σ) ⟨some d, .binOp .eql t x y yt, ty, pos, aft, g⟩).run P w = .ok (.value (.bool true)) w := by
  have e3 : (eqGuard .eql t x y (.pointer none) (.pointer none)).run P w = .ok () w := by simp [eqGuard]
  have e4 : (binOp .eql t (.pointer none) (.pointer none)).run P w = .ok (.bool true) w := by simp [binOp, eq_nilpp hu]
  simp [execOp, hx, hy, e3, e4]
theorem eq_nilp {a : Addr} (hu : P.underlying t = some (.pointer e)) : (Op.equal t (.pointer (some a)) (.pointer none)).run P w = .ok false w := by
  have h : ∀ dd, (Op.equalIn (dd + 1) t (.pointer (some a)) (.pointer none)).run P w = .ok false w := fun dd => by
    simp only [Op.equalIn, Sem.run_bind, run_underlying hu, Result.andThen_ok]
    rfl
  exact h 9999
/-- a pointer that is none is compared with nil. -/
theorem r_nilp {a : Addr} (hu : P.underlying t = some (.pointer e)) (_hg : P.eqGuardType P.depth t = false) (hx : ev n σ x = .pointer (some a)) (hy : ev n σ y = .pointer none) :
    (execOp (ev n σ) ⟨some d, .binOp .eql t x y yt, ty, pos, aft, g⟩).run P w = .ok (.value (.bool false)) w := by
  have e3 : (eqGuard .eql t x y (.pointer (some a)) (.pointer none)).run P w = .ok () w := by simp [eqGuard]
  have e4 : (binOp .eql t (.pointer (some a)) (.pointer none)).run P w = .ok (.bool false) w := by simp [binOp, eq_nilp hu]
  simp [execOp, hx, hy, e3, e4]
end
end Go.Proofs.Ytncmcgcilijfkaa
namespace Go.Proofs.Ytncmcgcilijfkaa
open Go Go.MapKept
set_option maxRecDepth 100000
def kS (l : List UInt8) : Value := .string ⟨l.toArray⟩
def kT (p : List UInt8 × Id32) : Value := .agg ([kS p.1] ++ p.2.1.map V8).toArray
end Go.Proofs.Ytncmcgcilijfkaa
namespace Go.Proofs.Ytncmcgcilijfkaa
open Go
def keys (L : List Ch) : List Nat := L.filterMap Ch.key
/-- chunks that stand in a world, no two of one block. -/
def Own (w : World) (L : List Ch) : Prop := (∀ c ∈ L, c.ok w) ∧ L.Pairwise fun c e => ∀ b, c.key = some b → e.key ≠ some b
theorem Hp.owns {w0 w : World} {S : List Nat} {L : List Ch} (h : Hp w0 w S L) : Own w L := ⟨h.has, h.nd⟩
theorem Own.sub {w : World} {L L' : List Ch} (h : Own w L) (hs : L'.Sublist L) : Own w L' := ⟨fun c hc => h.1 c (hs.subset hc), h.2.sublist hs⟩
theorem nd_symm {c e : Ch} (h : ∀ b, c.key = some b → e.key ≠ some b) : ∀ b, e.key = some b → c.key ≠ some b := fun b h1 h2 => h b h2 h1
theorem Hp.permL {w0 w : World} {S : List Nat} {L L' : List Ch} (h : Hp w0 w S L) (hp : L.Perm L') : Hp w0 w S L' :=
  ⟨h.os, h.tape, h.output, h.size, h.frame, fun c hc => h.has c (hp.mem_iff.2 hc), fun c hc => h.fresh c (hp.mem_iff.2 hc), h.nd.perm hp (fun h => nd_symm h)⟩
theorem perm_front {α : Type} {c : α} : ∀ {L : List α} {j : Nat}, L[j]? = some c → L.Perm (c :: L.eraseIdx j)
  | a :: L, 0, h => by cases h; exact .refl _
  | a :: L, j + 1, h => by
    have := perm_front (L := L) (j := j) h
    exact (List.Perm.cons a this).trans (.swap ..)
/-- the j-th chunk is put first. -/
theorem Hp.front {w0 w : World} {S : List Nat} {L : List Ch} (h : Hp w0 w S L) {j : Nat} {c : Ch} (hj : L[j]? = some c) : Hp w0 w S (c :: L.eraseIdx j) := h.permL (perm_front hj)
theorem mem_keys {L : List Ch} {b : Nat} : b ∈ keys L ↔ ∃ c ∈ L, c.key = some b := List.mem_filterMap
theorem Own.start {w : World} {L : List Ch} (h : Own w L) : Hp w w (keys L) L :=
  ⟨rfl, rfl, rfl, Nat.le_refl _, fun _ _ _ => rfl, h.1, fun c hc b hb => .inl (mem_keys.2 ⟨c, hc, hb⟩), h.2⟩
theorem Hp.callG {w0 w w' : World} {S : List Nat} {L L1 L1' Lr : List Ch} (h : Hp w0 w S L) (hL : L = L1 ++ Lr) (hc : Hp w w' (keys L1) L1') : Hp w0 w' S (Lr ++ L1') := by
  subst hL
  obtain ⟨n1, n2, n3⟩ := List.pairwise_append.1 h.nd
  have out : ∀ e ∈ Lr, ∀ b, e.key = some b → b < w.heap.size ∧ b ∉ keys L1 := fun e he b hb =>
    ⟨Ch.lt (h.has e (List.mem_append_right _ he)) hb, fun hm => by
      obtain ⟨c, hcm, hcb⟩ := mem_keys.1 hm
      exact n3 c hcm e he b hcb hb⟩
  refine ⟨hc.os.trans h.os, hc.tape.trans h.tape, hc.output.trans h.output, Nat.le_trans h.size hc.size, fun b hlt hn => ?_, fun c hcm => ?_, fun c hcm b hb => ?_, ?_⟩
  · have hk : b ∉ keys L1 := fun hm => by
      obtain ⟨c, hcm, hcb⟩ := mem_keys.1 hm
      rcases h.fresh c (List.mem_append_left _ hcm) b hcb with h1 | h1
      · exact hn h1
      · omega
    exact (hc.frame b (Nat.lt_of_lt_of_le hlt h.size) hk).trans (h.frame b hlt hn)
  · rcases List.mem_append.1 hcm with h1 | h1
    · exact Ch.ok_of (h.has c (List.mem_append_right _ h1)) fun b hb => hc.frame b (out c h1 b hb).1 (out c h1 b hb).2
    · exact hc.has c h1
  · rcases List.mem_append.1 hcm with h1 | h1
    · exact h.fresh c (List.mem_append_right _ h1) b hb
    · rcases hc.fresh c h1 b hb with h2 | h2
      · obtain ⟨e, hem, heb⟩ := mem_keys.1 h2
        exact h.fresh e (List.mem_append_left _ hem) b heb
      · exact .inr (Nat.le_trans h.size h2)
  · refine List.pairwise_append.2 ⟨n2, hc.nd, fun e he c hcm b hb hb2 => ?_⟩
    have ho := out e he b hb
    rcases hc.fresh c hcm b hb2 with h2 | h2
    · exact ho.2 h2
    · omega
theorem Hp.own1 {w0 w : World} {S : List Nat} {L L1 Lr : List Ch} (h : Hp w0 w S L) (hL : L = L1 ++ Lr) : Own w L1 := by
  subst hL; exact h.owns.sub (List.sublist_append_left ..)
end Go.Proofs.Ytncmcgcilijfkaa
namespace Go.Proofs.Ytncmcgcilijfkaa
open Go Go.MapKept
set_option maxRecDepth 100000
section
variable {κ α : Type} [DecidableEq κ] {enc : α → Value} {M : List (κ × Value × Nat)} {F : κ → Option α}
/-- a map's entries are those of a function. -/
def MIs (enc : α → Value) (M : List (κ × Value × Nat)) (F : κ → Option α) : Prop := ∀ k, mget M k = (F k).map enc
def fput (F : κ → Option α) (k : κ) (v : α) : κ → Option α := fun j => if j = k then some v else F j
def fdel (F : κ → Option α) (k : κ) : κ → Option α := fun j => if j = k then none else F j
theorem MIs.nil : MIs enc ([] : List (κ × Value × Nat)) (fun _ => none) := fun _ => rfl
theorem MIs.put (h : MIs enc M F) (k : κ) (v : α) (c : Nat) : MIs enc (mput k (enc v) c M) (fput F k v) := fun j => by
  rw [mget_put, fput, h j]; split <;> rfl
theorem MIs.getD (h : MIs enc M F) (k : κ) (z : α) : (mget M k).getD (enc z) = enc ((F k).getD z) := by
  rw [h k]; cases F k <;> rfl
theorem MIs.isSome (h : MIs enc M F) (k : κ) : (mget M k).isSome = (F k).isSome := by
  rw [h k]; cases F k <;> rfl
end
section
variable {κ α : Type} [DecidableEq κ] {P : Program} {n : Nat} {σ : Nat → Value} {w w0 : World}
  {ty : TypeId} {pos : String} {aft : Array Edge} {g : Option (Nat × Bool)} {d : Nat} {t kt et : TypeId} {x y : Operand} {S : List Nat} {L : List Ch}
/-- a look-up, told by the function. -/
theorem r_lookF {kv : κ → Value} {enc : α → Value} {M : List (κ × Value × Nat)} {F : κ → Option α} {c i b : Nat} {k : κ} (z : α) (hF : MIs enc M F) (H : Hp w0 w S L) (hi : L[i]? = some (.obj b (mobj kv M c))) (hu : P.underlying t = some (.map kt et)) (hK : KeyOf P kt kv) (hz : ∀ w, (zeroValue et).run P w = .ok (enc z) w)
    (hx : ev n σ x = .map (some b)) (hy : ev n σ y = kv k) :
    (execOp (ev n σ) ⟨some d, .lookup t x y false, ty, pos, aft, g⟩).run P w = .ok (.value (enc ((F k).getD z))) w := by
  have := r_look (P := P) (ty := ty) (pos := pos) (aft := aft) (g := g) (d := d) H hi hu hK hz hx hy false
  rw [hF.getD] at this
  exact this
theorem r_lookT {kv : κ → Value} {enc : α → Value} {M : List (κ × Value × Nat)} {F : κ → Option α} {c i b : Nat} {k : κ} (z : α) (hF : MIs enc M F) (H : Hp w0 w S L) (hi : L[i]? = some (.obj b (mobj kv M c))) (hu : P.underlying t = some (.map kt et)) (hK : KeyOf P kt kv) (hz : ∀ w, (zeroValue et).run P w = .ok (enc z) w)
    (hx : ev n σ x = .map (some b)) (hy : ev n σ y = kv k) :
    (execOp (ev n σ) ⟨some d, .lookup t x y true, ty, pos, aft, g⟩).run P w = .ok (.value (.tuple #[enc ((F k).getD z), .bool (F k).isSome])) w := by
  have := r_look (P := P) (ty := ty) (pos := pos) (aft := aft) (g := g) (d := d) H hi hu hK hz hx hy true
  rw [hF.getD, hF.isSome] at this
  exact this
end
end Go.Proofs.Ytncmcgcilijfkaa
namespace Go.Proofs.Ytncmcgcilijfkaa
open Go Go.MapKept
set_option maxRecDepth 100000
/-- what a tenant may have, what it uses, how many things it has. -/
structure Acc where
  quota : Int
  used : Int
  things : Int
def accE (a : Acc) : Value := .agg #[VI a.quota, VI a.used, VI a.things]
def acc0 : Acc := ⟨0, 0, 0⟩
end Go.Proofs.Ytncmcgcilijfkaa
namespace Go.Proofs.Ytncmcgcilijfkaa
open Go
set_option maxRecDepth 100000
theorem Hp.start3 (w : World) (c e f : Ch) (b b' b'' : Nat) (h : c.ok w) (h' : e.ok w) (h'' : f.ok w) (hk : c.key = some b) (hk' : e.key = some b') (hk'' : f.key = some b'') (h1 : b ≠ b') (h2 : b ≠ b'') (h3 : b' ≠ b'') : Hp w w [b, b', b''] [c, e, f] :=
  ⟨rfl, rfl, rfl, Nat.le_refl _, fun _ _ _ => rfl, (by simpa using ⟨h, h', h''⟩), (by simp [hk, hk', hk'']), (by simp [hk, hk', hk'']; exact ⟨⟨fun e => h1 e.symm, fun e => h2 e.symm⟩, fun e => h3 e.symm⟩)⟩
/-- a meter, as a world has it. -/
structure MSt (w : World) (b b1 b2 : Nat) (Mh : List ((List UInt8 × Id32) × Value × Nat)) (ch : Nat) (Ma : List (List UInt8 × Value × Nat)) (ca : Nat) (F : List UInt8 × Id32 → Option Int) (A : List UInt8 → Option Acc) : Prop where
  hb : w.heap[b]? = some (.cells [Value.map (some b1), Value.map (some b2)].toArray 54 (0, 0))
  h1 : w.heap[b1]? = some (mobj kT Mh ch)
  h2 : w.heap[b2]? = some (mobj kS Ma ca)
  n1 : b ≠ b1
  n2 : b ≠ b2
  n12 : b1 ≠ b2
  fh : MIs VI Mh F
  fa : MIs accE Ma A
  oh : MOk Mh ch
  oa : MOk Ma ca
theorem MSt.start {w : World} {b b1 b2 : Nat} {Mh : List ((List UInt8 × Id32) × Value × Nat)} {ch : Nat} {Ma : List (List UInt8 × Value × Nat)} {ca : Nat} {F : List UInt8 × Id32 → Option Int} {A : List UInt8 → Option Acc} (h : MSt w b b1 b2 Mh ch Ma ca F A) :
    Hp w w [b, b1, b2] [.blk b [Value.map (some b1), Value.map (some b2)] 54, .obj b1 (mobj kT Mh ch), .obj b2 (mobj kS Ma ca)] :=
  Hp.start3 w _ _ _ b b1 b2 h.hb h.h1 h.h2 rfl rfl rfl h.n1 h.n2 h.n12
end Go.Proofs.Ytncmcgcilijfkaa
namespace Go.Proofs.Ytncmcgcilijfkaa
open Go
theorem mixed : Try.prog.follows .mixedOrders = true := by kernel_rfl
theorem ct3 : cellTy Try.prog 3 = true := by kernel_rfl
theorem cs3 : cellSz Try.prog 3 = some 1 := by kernel_rfl
theorem zc3 : zeroCells Try.prog 3 = some [Value.int .i64 0] := by kernel_rfl
theorem ct4 : cellTy Try.prog 4 = true := by kernel_rfl
theorem cs4 : cellSz Try.prog 4 = some 1 := by kernel_rfl
theorem ct5 : cellTy Try.prog 5 = true := by kernel_rfl
theorem cs5 : cellSz Try.prog 5 = some 1 := by kernel_rfl
theorem zc5 : zeroCells Try.prog 5 = some [Value.int .u8 0] := by kernel_rfl
theorem ct9 : cellTy Try.prog 9 = true := by kernel_rfl
theorem cs9 : cellSz Try.prog 9 = some 1 := by kernel_rfl
theorem zc9 : zeroCells Try.prog 9 = some [Value.string .empty] := by kernel_rfl
theorem ct49 : cellTy Try.prog 49 = true := by kernel_rfl
theorem cs49 : cellSz Try.prog 49 = some 1 := by kernel_rfl
theorem el49 : eltOf Try.prog 49 = some 1 := by kernel_rfl
theorem sl49 : SlTy Try.prog 49 9 1 16 := .mk' (by kernel_rfl) (by kernel_rfl)
theorem ct57 : cellTy Try.prog 57 = true := by kernel_rfl
theorem cs57 : cellSz Try.prog 57 = some 1 := by kernel_rfl
theorem zc57 : zeroCells Try.prog 57 = some [Value.slice none 0 0] := by kernel_rfl
theorem el57 : eltOf Try.prog 57 = some 1 := by kernel_rfl
theorem sl57 : SlTy Try.prog 57 5 1 1 := .mk' (by kernel_rfl) (by kernel_rfl)
theorem el62 : eltOf Try.prog 62 = some 1 := by kernel_rfl
theorem sl62 : SlTy Try.prog 62 3 1 8 := .mk' (by kernel_rfl) (by kernel_rfl)
theorem el65 : eltOf Try.prog 65 = some 5 := by kernel_rfl
theorem ct68 : cellTy Try.prog 68 = true := by kernel_rfl
theorem el68 : eltOf Try.prog 68 = some 1 := by kernel_rfl
theorem rt70 : rowTy Try.prog 70 = some 5 := by kernel_rfl
theorem cs70 : cellSz Try.prog 70 = some 5 := by kernel_rfl
theorem zc70 : zeroCells Try.prog 70 = some ([Value.int .i64 0] ++ [Value.int .i64 0] ++ [Value.int .i64 0] ++ [Value.slice none 0 0] ++ [Value.slice none 0 0]) := by kernel_rfl
theorem fo70_0 : fieldOff Try.prog 70 0 = some 0 := by kernel_rfl
theorem fo70_1 : fieldOff Try.prog 70 1 = some 1 := by kernel_rfl
theorem fo70_2 : fieldOff Try.prog 70 2 = some 2 := by kernel_rfl
theorem fo70_3 : fieldOff Try.prog 70 3 = some 3 := by kernel_rfl
theorem fo70_4 : fieldOff Try.prog 70 4 = some 4 := by kernel_rfl
theorem pl70 : placesOf Try.prog 70 = some #[(0, 1), (1, 1), (2, 1), (3, 1), (4, 1)] := by kernel_rfl
theorem bd70 : Bld Try.prog 70 (([Value.int .i64 0] ++ [Value.int .i64 0] ++ [Value.int .i64 0] ++ [Value.slice none 0 0] ++ [Value.slice none 0 0])).toArray (fun i => (#[(0, 1), (1, 1), (2, 1), (3, 1), (4, 1)] : Array (Nat × Nat))[i]?) := Bld.str pl70 zc70
theorem ct83 : cellTy Try.prog 83 = true := by kernel_rfl
theorem cs83 : cellSz Try.prog 83 = some 1 := by kernel_rfl
theorem el83 : eltOf Try.prog 83 = some 1 := by kernel_rfl
theorem sl83 : SlTy Try.prog 83 57 1 24 := .mk' (by kernel_rfl) (by kernel_rfl)
theorem ct84 : cellTy Try.prog 84 = true := by kernel_rfl
theorem cs84 : cellSz Try.prog 84 = some 1 := by kernel_rfl
theorem rt86 : rowTy Try.prog 86 = some 9 := by kernel_rfl
theorem cs86 : cellSz Try.prog 86 = some 9 := by kernel_rfl
theorem zc86 : zeroCells Try.prog 86 = some ([Value.slice none 0 0] ++ [Value.map none] ++ [Value.bool false] ++ [Value.int .i64 0] ++ [Value.int .i64 0] ++ [Value.int .i64 0] ++ [Value.slice none 0 0] ++ [Value.int .i64 0] ++ [Value.int .i64 0]) := by kernel_rfl
theorem fo86_0 : fieldOff Try.prog 86 0 = some 0 := by kernel_rfl
theorem fo86_1 : fieldOff Try.prog 86 1 = some 1 := by kernel_rfl
theorem fo86_2 : fieldOff Try.prog 86 2 = some 2 := by kernel_rfl
theorem fo86_3 : fieldOff Try.prog 86 3 = some 3 := by kernel_rfl
theorem fo86_4 : fieldOff Try.prog 86 4 = some 4 := by kernel_rfl
theorem fo86_5 : fieldOff Try.prog 86 5 = some 5 := by kernel_rfl
theorem fo86_6 : fieldOff Try.prog 86 6 = some 6 := by kernel_rfl
theorem fo86_7 : fieldOff Try.prog 86 7 = some 7 := by kernel_rfl
theorem fo86_8 : fieldOff Try.prog 86 8 = some 8 := by kernel_rfl
theorem pl86 : placesOf Try.prog 86 = some #[(0, 1), (1, 1), (2, 1), (3, 1), (4, 1), (5, 1), (6, 1), (7, 1), (8, 1)] := by kernel_rfl
theorem bd86 : Bld Try.prog 86 (([Value.slice none 0 0] ++ [Value.map none] ++ [Value.bool false] ++ [Value.int .i64 0] ++ [Value.int .i64 0] ++ [Value.int .i64 0] ++ [Value.slice none 0 0] ++ [Value.int .i64 0] ++ [Value.int .i64 0])).toArray (fun i => (#[(0, 1), (1, 1), (2, 1), (3, 1), (4, 1), (5, 1), (6, 1), (7, 1), (8, 1)] : Array (Nat × Nat))[i]?) := Bld.str pl86 zc86
theorem rt106 : rowTy Try.prog 106 = some 9 := by kernel_rfl
theorem cs106 : cellSz Try.prog 106 = some 9 := by kernel_rfl
theorem zc106 : zeroCells Try.prog 106 = some ([Value.slice none 0 0] ++ [Value.slice none 0 0] ++ [Value.bool false] ++ [Value.int .i64 0] ++ [Value.int .i64 0] ++ [Value.int .i64 0] ++ [Value.string .empty] ++ [Value.int .i64 0] ++ [Value.int .i64 0]) := by kernel_rfl
theorem fo106_0 : fieldOff Try.prog 106 0 = some 0 := by kernel_rfl
theorem fo106_1 : fieldOff Try.prog 106 1 = some 1 := by kernel_rfl
theorem fo106_2 : fieldOff Try.prog 106 2 = some 2 := by kernel_rfl
theorem fo106_3 : fieldOff Try.prog 106 3 = some 3 := by kernel_rfl
theorem fo106_4 : fieldOff Try.prog 106 4 = some 4 := by kernel_rfl
theorem fo106_5 : fieldOff Try.prog 106 5 = some 5 := by kernel_rfl
theorem fo106_6 : fieldOff Try.prog 106 6 = some 6 := by kernel_rfl
theorem fo106_7 : fieldOff Try.prog 106 7 = some 7 := by kernel_rfl
theorem fo106_8 : fieldOff Try.prog 106 8 = some 8 := by kernel_rfl
theorem pl106 : placesOf Try.prog 106 = some #[(0, 1), (1, 1), (2, 1), (3, 1), (4, 1), (5, 1), (6, 1), (7, 1), (8, 1)] := by kernel_rfl
theorem bd106 : Bld Try.prog 106 (([Value.slice none 0 0] ++ [Value.slice none 0 0] ++ [Value.bool false] ++ [Value.int .i64 0] ++ [Value.int .i64 0] ++ [Value.int .i64 0] ++ [Value.string .empty] ++ [Value.int .i64 0] ++ [Value.int .i64 0])).toArray (fun i => (#[(0, 1), (1, 1), (2, 1), (3, 1), (4, 1), (5, 1), (6, 1), (7, 1), (8, 1)] : Array (Nat × Nat))[i]?) := Bld.str pl106 zc106
end Go.Proofs.Ytncmcgcilijfkaa
namespace Go.Proofs.Ytncmcgcilijfkaa
open Go
set_option maxRecDepth 100000
abbrev MKey := List UInt8 × Id32
def look : List (MKey × Int) → MKey → Option Int
  | [], _ => none
  | p :: G, k => if k = p.1 then some p.2 else look G k
def sumT (s : List UInt8) : List (MKey × Int) → Int
  | [] => 0
  | p :: G => (if p.1.1 = s then p.2 else 0) + sumT s G
def cntT (s : List UInt8) : List (MKey × Int) → Int
  | [] => 0
  | p :: G => (if p.1.1 = s then 1 else 0) + cntT s G
def dropG (k : MKey) : List (MKey × Int) → List (MKey × Int)
  | [] => []
  | p :: G => if k = p.1 then G else p :: dropG k G
theorem look_none {k : MKey} : ∀ {G : List (MKey × Int)}, look G k = none ↔ ∀ p ∈ G, p.1 ≠ k
  | [] => by simp [look]
  | p :: G => by
    rw [look]
    by_cases h : k = p.1
    · simp [h]
    · rw [if_neg h, look_none]
      simp only [List.mem_cons, forall_eq_or_imp]
      exact ⟨fun h2 => ⟨fun e => h e.symm, h2⟩, fun h2 => h2.2⟩
theorem look_mem {k : MKey} {v : Int} : ∀ {G : List (MKey × Int)}, look G k = some v → (k, v) ∈ G
  | p :: G, h => by
    rw [look] at h
    by_cases e : k = p.1
    · rw [if_pos e] at h; cases h; rw [e]; exact List.mem_cons_self ..
    · rw [if_neg e] at h; exact List.mem_cons_of_mem _ (look_mem h)
theorem fdel_look (k : MKey) : ∀ {G : List (MKey × Int)}, (G.map (·.1)).Nodup → fdel (look G) k = look (dropG k G)
  | [], _ => by funext j; simp [fdel, look, dropG]
  | p :: G, h => by
    rw [List.map_cons, List.nodup_cons] at h
    have ih := fdel_look k h.2
    funext j
    rw [dropG]
    by_cases e : k = p.1
    · rw [if_pos e, fdel]
      by_cases e2 : j = k
      · rw [if_pos e2, e2]
        refine (look_none.2 fun q hq e3 => h.1 ?_).symm
        rw [← e, ← e3]
        exact List.mem_map.2 ⟨q, hq, rfl⟩
      · rw [if_neg e2, look, if_neg (fun e4 => e2 (e4.trans e.symm))]
    · have := congrFun ih j
      rw [if_neg e, look, ← this, fdel, fdel, look]
      by_cases e2 : j = k
      · rw [if_pos e2, if_pos e2, if_neg (fun e4 => e (e2.symm.trans e4))]
      · rw [if_neg e2, if_neg e2]
theorem sum_nn (s : List UInt8) : ∀ {G : List (MKey × Int)}, (∀ p ∈ G, 0 ≤ p.2) → 0 ≤ sumT s G
  | [], _ => Int.le_refl _
  | p :: G, h => by
    have h1 := h p (List.mem_cons_self ..)
    have h2 := sum_nn s (fun q hq => h q (List.mem_cons_of_mem _ hq))
    rw [sumT]; split <;> omega
theorem sum_mem {p : MKey × Int} : ∀ {G : List (MKey × Int)}, (∀ p ∈ G, 0 ≤ p.2) → p ∈ G → p.2 ≤ sumT p.1.1 G
  | q :: G, h, hp => by
    have h1 := h q (List.mem_cons_self ..)
    have h2 := sum_nn p.1.1 (fun r hr => h r (List.mem_cons_of_mem q hr))
    rw [sumT]
    rcases List.mem_cons.1 hp with rfl | hp
    · rw [if_pos rfl]; omega
    · have := sum_mem (fun r hr => h r (List.mem_cons_of_mem q hr)) hp
      split <;> omega
theorem cnt_bd (s : List UInt8) : ∀ (G : List (MKey × Int)), 0 ≤ cntT s G ∧ cntT s G ≤ (G.length : Int)
  | [] => ⟨Int.le_refl _, Int.le_refl _⟩
  | p :: G => by
    have := cnt_bd s G
    rw [cntT, List.length_cons]; split <;> omega
/-- a meter. -/
structure MM where
  G : List (MKey × Int)
  A : List UInt8 → Option Acc
def MM.acc (X : MM) (s : List UInt8) : Acc := (X.A s).getD acc0
structure MM.Inv (X : MM) : Prop where
  nd : (X.G.map (·.1)).Nodup
  nn : ∀ p ∈ X.G, 0 ≤ p.2
  us : ∀ s, (X.acc s).used = sumT s X.G
  th : ∀ s, (X.acc s).things = cntT s X.G
  q : ∀ s, 0 ≤ (X.acc s).quota ∧ (X.acc s).quota ≤ 9223372036854775807
  ub : ∀ s, (X.acc s).used ≤ (X.acc s).quota ∨ (X.acc s).used ≤ 9223372036854775807
theorem MM.Inv.u {X : MM} (h : X.Inv) (s : List UInt8) : 0 ≤ (X.acc s).used ∧ (X.acc s).used ≤ 9223372036854775807 := by
  have h1 := sum_nn s h.nn
  have h2 := h.us s
  have h3 := h.ub s
  have h4 := h.q s
  omega
theorem MM.Inv.t {X : MM} (h : X.Inv) (s : List UInt8) : 0 ≤ (X.acc s).things ∧ (X.acc s).things ≤ (X.G.length : Int) := by rw [h.th s]; exact cnt_bd s _
theorem MM.Inv.v {X : MM} (h : X.Inv) (k : MKey) : 0 ≤ (look X.G k).getD 0 ∧ (look X.G k).getD 0 ≤ (X.acc k.1).used := by
  have h0 := (h.u k.1).1
  cases e : look X.G k with
  | none => exact ⟨Int.le_refl _, h0⟩
  | some v =>
    have hm := look_mem e
    have := sum_mem h.nn hm
    rw [← h.us] at this
    exact ⟨h.nn _ hm, this⟩
def quotaX (X : MM) (s : List UInt8) (n : Int) : MM := ⟨X.G, fput X.A s ⟨if n < 0 then 0 else n, (X.acc s).used, (X.acc s).things⟩⟩
def addB (X : MM) (s : List UInt8) (k : Id32) (n : Int) : Bool := decide (¬ n < 0) && ((look X.G (s, k)).isNone && decide (¬ (X.acc s).quota - (X.acc s).used < n))
def addX (X : MM) (s : List UInt8) (k : Id32) (n : Int) : MM := if addB X s k n then ⟨((s, k), n) :: X.G, fput X.A s ⟨(X.acc s).quota, (X.acc s).used + n, (X.acc s).things + 1⟩⟩ else X
def dropX (X : MM) (s : List UInt8) (k : Id32) : MM := if (look X.G (s, k)).isSome then ⟨dropG (s, k) X.G, fput X.A s ⟨(X.acc s).quota, (X.acc s).used - (look X.G (s, k)).getD 0, (X.acc s).things - 1⟩⟩ else X
theorem acc_put (G : List (MKey × Int)) (A : List UInt8 → Option Acc) (s t : List UInt8) (a : Acc) : (⟨G, fput A s a⟩ : MM).acc t = if t = s then a else (A t).getD acc0 := by
  simp only [MM.acc, fput]; split <;> rfl
/-- a meter as a world has it: its maps, and what they stand for. -/
structure MW where
  Mh : List (MKey × Value × Nat)
  c1 : Nat
  Ma : List (List UInt8 × Value × Nat)
  c2 : Nat
  X : MM
structure MW.ok (z : MW) : Prop where
  fh : MIs VI z.Mh (look z.X.G)
  oh : MOk z.Mh z.c1
  fa : MIs accE z.Ma z.X.A
  oa : MOk z.Ma z.c2
  inv : z.X.Inv
section
variable (w0 : World) (mb mb1 mb2 : Nat) (z : MW) (hm : MSt w0 mb mb1 mb2 z.Mh z.c1 z.Ma z.c2 (look z.X.G) z.X.A) (hz : z.ok)
include hm hz
end
end Go.Proofs.Ytncmcgcilijfkaa
namespace Go.Proofs.Ytncmcgcilijfkaa
open Go
set_option maxRecDepth 100000
/-- an operation. -/
structure OpM where
  kind : Int
  who : List UInt8
  k : UInt8
  n : Int
abbrev idB (u : UInt8) : Id32 := ⟨u :: List.replicate 31 (0 : UInt8), rfl⟩
theorem idB_inj {u v : UInt8} (h : idB u = idB v) : u = v := by
  have := congrArg Subtype.val h
  exact (List.cons.inj this).1
def sumL : List Int → Int
  | [] => 0
  | x :: l => x + sumL l
theorem sumL_set (l : List Int) (k : Nat) (x : Int) (h : k < l.length) : sumL (l.set k x) = sumL l - l.getD k 0 + x := by
  induction l generalizing k with
  | nil => simp at h
  | cons y l ih =>
    cases k with
    | zero => simp [sumL]; omega
    | succ k =>
      have := ih k (by simpa using h)
      rw [List.set_cons_succ, sumL, sumL, this, List.getD_cons_succ]; omega
theorem getD_set {α : Type} (l : List α) (i j : Nat) (x z : α) (h : i < l.length) : (l.set i x).getD j z = if i = j then x else l.getD j z := by
  rw [List.getD_eq_getElem?_getD, List.getElem?_set]
  by_cases e : i = j
  · rw [if_pos e, if_pos h, if_pos e]; rfl
  · rw [if_neg e, if_neg e, List.getD_eq_getElem?_getD]
theorem look_put (G : List (MKey × Int)) (p : MKey × Int) (k : MKey) : look (p :: G) k = if k = p.1 then some p.2 else look G k := rfl
theorem look_drop {X : MM} (h : X.Inv) (k j : MKey) : look (dropG k X.G) j = if j = k then none else look X.G j := by
  rw [← fdel_look k h.nd]; rfl
theorem addX_T {X : MM} {s : List UInt8} {k : Id32} {n : Int} (h : addB X s k n = true) : addX X s k n = ⟨((s, k), n) :: X.G, fput X.A s ⟨(X.acc s).quota, (X.acc s).used + n, (X.acc s).things + 1⟩⟩ := by rw [addX, if_pos h]
theorem addX_F {X : MM} {s : List UInt8} {k : Id32} {n : Int} (h : addB X s k n = false) : addX X s k n = X := by rw [addX, if_neg (by rw [h]; decide)]
theorem dropX_T {X : MM} {s : List UInt8} {k : Id32} (h : (look X.G (s, k)).isSome = true) : dropX X s k = ⟨dropG (s, k) X.G, fput X.A s ⟨(X.acc s).quota, (X.acc s).used - (look X.G (s, k)).getD 0, (X.acc s).things - 1⟩⟩ := by rw [dropX, if_pos h]
theorem dropX_F {X : MM} {s : List UInt8} {k : Id32} (h : (look X.G (s, k)).isSome = false) : dropX X s k = X := by rw [dropX, if_neg (by rw [h]; decide)]
structure MBs (X : MM) (most : Int) (hs : List Int) (bs : List Bool) : Prop where
  lh : hs.length = 256
  lb : bs.length = 256
  mo : (X.acc [97]).quota ≤ most ∧ 0 ≤ most ∧ most ≤ 9223372036854775807
  us : (X.acc [97]).used ≤ most
  sm : sumL hs = (X.acc [97]).used
  hv : ∀ u : UInt8, hs.getD u.toNat 0 = (look X.G ([97], idB u)).getD 0
  bv : ∀ u : UInt8, bs.getD u.toNat false = (look X.G ([97], idB u)).isSome
theorem MBs.nn {X : MM} {most : Int} {hs : List Int} {bs : List Bool} (h : MBs X most hs bs) (hX : X.Inv) : ∀ x ∈ hs, 0 ≤ x := by
  intro x hx
  obtain ⟨j, hj, e⟩ := List.getElem_of_mem hx
  have hj' := hj
  rw [h.lh] at hj'
  have h1 := h.hv (UInt8.ofNat j)
  have e1 : (UInt8.ofNat j).toNat = j := by rw [UInt8.toNat_ofNat']; omega
  rw [e1, List.getD_eq_getElem?_getD, List.getElem?_eq_getElem hj, Option.getD_some, e] at h1
  rw [h1]
  exact (hX.v ([97], idB (UInt8.ofNat j))).1
theorem toNat_ne {u v : UInt8} (h : u ≠ v) : u.toNat ≠ v.toNat := fun e => h (UInt8.toNat_inj.1 e)
theorem idB_eq (s : List UInt8) (u v : UInt8) : ((s, idB u) : MKey) = (s, idB v) ↔ u = v := ⟨fun h => idB_inj (congrArg Prod.snd h), fun h => by rw [h]⟩
theorem MBs.drop {X : MM} {most : Int} {hs : List Int} {bs : List Bool} (h : MBs X most hs bs) (hX : X.Inv) (u : UInt8) : MBs (dropX X [97] (idB u)) most (hs.set u.toNat 0) (bs.set u.toNat false) := by
  have hu := u.toNat_lt
  have e0 := h.hv u
  have hlh := h.lh
  have hlb := h.lb
  have hmo := h.mo
  have hus := h.us
  have hv := hX.v ([97], idB u)
  cases hb : (look X.G ([97], idB u)).isSome with
  | true =>
    rw [dropX_T hb]
    have ha := acc_put (dropG ([97], idB u) X.G) X.A [97] [97] ⟨(X.acc [97]).quota, (X.acc [97]).used - (look X.G ([97], idB u)).getD 0, (X.acc [97]).things - 1⟩
    rw [if_pos rfl] at ha
    refine ⟨by rw [List.length_set, hlh], by rw [List.length_set, hlb], by rw [ha]; exact hmo, by rw [ha]; dsimp only; omega, ?_, fun v => ?_, fun v => ?_⟩
    · rw [sumL_set _ _ _ (by omega), e0, h.sm, ha]; dsimp only; omega
    · rw [getD_set _ _ _ _ _ (by omega), look_drop hX]
      by_cases e : u = v
      · rw [if_pos (congrArg UInt8.toNat e), if_pos ((idB_eq _ _ _).2 e.symm)]; rfl
      · rw [if_neg (toNat_ne e), if_neg (fun e2 => e ((idB_eq _ _ _).1 e2).symm)]; exact h.hv v
    · rw [getD_set _ _ _ _ _ (by omega), look_drop hX]
      by_cases e : u = v
      · rw [if_pos (congrArg UInt8.toNat e), if_pos ((idB_eq _ _ _).2 e.symm)]; rfl
      · rw [if_neg (toNat_ne e), if_neg (fun e2 => e ((idB_eq _ _ _).1 e2).symm)]; exact h.bv v
  | false =>
    have hn : look X.G ([97], idB u) = none := by cases hh : look X.G ([97], idB u) with
      | none => rfl
      | some _ => rw [hh] at hb; cases hb
    rw [dropX_F hb]
    rw [hn] at e0
    refine ⟨by rw [List.length_set, hlh], by rw [List.length_set, hlb], hmo, hus, ?_, fun v => ?_, fun v => ?_⟩
    · rw [sumL_set _ _ _ (by omega), e0, h.sm]; simp only [Option.getD_none]; omega
    · rw [getD_set _ _ _ _ _ (by omega)]
      by_cases e : u = v
      · rw [if_pos (congrArg UInt8.toNat e), ← e, hn]; rfl
      · rw [if_neg (toNat_ne e)]; exact h.hv v
    · rw [getD_set _ _ _ _ _ (by omega)]
      by_cases e : u = v
      · rw [if_pos (congrArg UInt8.toNat e), ← e, hn]; rfl
      · rw [if_neg (toNat_ne e)]; exact h.bv v
theorem MBs.quota {X : MM} {most : Int} {hs : List Int} {bs : List Bool} (h : MBs X most hs bs) (n : Int) (hn : n ≤ 9223372036854775807) : MBs (quotaX X [97] n) (if most < n then n else most) hs bs := by
  have hmo := h.mo
  have hus := h.us
  have ha := acc_put X.G X.A [97] [97] ⟨if n < 0 then 0 else n, (X.acc [97]).used, (X.acc [97]).things⟩
  rw [if_pos rfl] at ha
  have ha' : (quotaX X [97] n).acc [97] = ⟨if n < 0 then 0 else n, (X.acc [97]).used, (X.acc [97]).things⟩ := ha
  refine ⟨h.lh, h.lb, ?_, ?_, ?_, h.hv, h.bv⟩
  · rw [ha']; dsimp only; refine ⟨?_, ?_, ?_⟩ <;> (repeat' split) <;> omega
  · rw [ha']; dsimp only; split <;> omega
  · rw [ha']; exact h.sm
structure Apt (X Y : MM) : Prop where
  l : ∀ k, look X.G ([97], k) = look Y.G ([97], k)
  a : X.acc [97] = Y.acc [97]
theorem Apt.addB {X Y : MM} (h : Apt X Y) (k : Id32) (n : Int) : addB X [97] k n = addB Y [97] k n := by rw [Proofs.Ytncmcgcilijfkaa.addB, Proofs.Ytncmcgcilijfkaa.addB, h.l k, h.a]
theorem Apt.add {X Y : MM} (h : Apt X Y) (k : Id32) (n : Int) : Apt (addX X [97] k n) (addX Y [97] k n) := by
  have hB := h.addB k n
  cases hb : Proofs.Ytncmcgcilijfkaa.addB Y [97] k n with
  | false => rw [hb] at hB; rw [addX_F hb, addX_F hB]; exact h
  | true =>
    rw [hb] at hB
    rw [addX_T hb, addX_T hB]
    refine ⟨fun j => ?_, ?_⟩
    · rw [look_put, look_put, h.l j]
    · rw [acc_put, acc_put, if_pos rfl, if_pos rfl, h.a]
theorem Apt.drop {X Y : MM} (h : Apt X Y) (hX : X.Inv) (hY : Y.Inv) (k : Id32) : Apt (dropX X [97] k) (dropX Y [97] k) := by
  have hB := congrArg Option.isSome (h.l k)
  cases hb : (look Y.G ([97], k)).isSome with
  | false => rw [hb] at hB; rw [dropX_F hb, dropX_F hB]; exact h
  | true =>
    rw [hb] at hB
    rw [dropX_T hb, dropX_T hB]
    refine ⟨fun j => ?_, ?_⟩
    · rw [look_drop hX, look_drop hY, h.l j]
    · rw [acc_put, acc_put, if_pos rfl, if_pos rfl, h.a, h.l k]
theorem Apt.quota {X Y : MM} (h : Apt X Y) (n : Int) : Apt (quotaX X [97] n) (quotaX Y [97] n) := by
  refine ⟨h.l, ?_⟩
  rw [quotaX, quotaX, acc_put, acc_put, if_pos rfl, if_pos rfl, h.a]
end Go.Proofs.Ytncmcgcilijfkaa
namespace Go.Proofs.Ytncmcgcilijfkaa
open Go Go.ChangeShapes Go.WideShapes Go.ChangeAt Go.RowKit Go.Deep Go.ChangeMaps
set_option maxRecDepth 100000
section
variable {H : Type} {enc : TypeId × Value → H} {W : World} {base : Nat} {spare : Nat → Bool} {held : Bool}
theorem Gl.ok_nil {α : Type} {enc : α → List Value} {sz : Nat} (w : World) : (⟨none, 0, 0, []⟩ : Gl α).ok enc sz w := ⟨.inl rfl, rfl, Nat.le_refl _, Nat.zero_le _, fun c hc => (by cases hc)⟩
theorem open_rowsP {P : Program} {α : Type} [Inhabited α] {p : α → Prop} {en : α → List Value} {sz : Nat} {t e : TypeId} {fuel : Nat} {cs : List Value} {x : DataW H × List MemPlace} (ht : P.underlying t = some (.slice e)) (hsz : P.cellsOf e = sz) (hz : 0 < sz)
    (hrow : ∀ (fuel : Nat) (cs : List Value) (x : DataW H × List MemPlace), DataW.trod enc P W base spare held fuel e cs = some x → ∃ c : α, cs = en c ∧ (en c).length = sz ∧ p c)
    (h : DataW.trod enc P W base spare held fuel t cs = some x) : ∃ g : Gl α, cs = [g.v] ∧ g.ok en sz W ∧ ∀ c ∈ g.l, p c := by
  rcases DataW.trod_slice ht h with ⟨rfl, _⟩ | ⟨a, len, cap, elems, rest, n, _, rfl, _, _, hl, hm, hlen, hel, _, _⟩
  · exact ⟨⟨none, 0, 0, []⟩, rfl, Gl.ok_nil _, fun _ h => by cases h⟩
  · have hs : ∀ i, i < len → ∃ c : α, (∀ j v, (en c)[j]? = some v → W.cell? (a.add (i * sz + j)) = some v) ∧ (en c).length = sz ∧ p c := by
      intro i hi
      have h1 := hel i hi
      rw [List.getElem?_eq_getElem (by omega), hsz] at h1
      obtain ⟨cs, hcs, htr⟩ := Option.bind_eq_some_iff.1 h1
      obtain ⟨c, rfl, hc⟩ := hrow _ _ _ htr
      refine ⟨c, fun j v hv => ?_, hc⟩
      have hlt : j < sz := by rw [← hc.1]; exact (List.getElem?_eq_some_iff.1 hv).1
      obtain ⟨_, _, hq⟩ := World.cells?_some hcs
      have := hq j hlt
      rw [hv, Addr.add_add] at this
      exact this
    obtain ⟨F, hF⟩ := choose_lt (α := α) (p := fun i c => (∀ j v, (en c)[j]? = some v → W.cell? (a.add (i * sz + j)) = some v) ∧ (en c).length = sz ∧ p c) hs
    have hsz' : ∀ c ∈ (List.range len).map F, (en c).length = sz := by
      intro c hc
      simp only [List.mem_map, List.mem_range] at hc
      obtain ⟨i, hi, rfl⟩ := hc
      exact (hF i hi).2.1
    have hall : ∀ c ∈ (List.range len).map F, p c := by
      intro c hc
      simp only [List.mem_map, List.mem_range] at hc
      obtain ⟨i, hi, rfl⟩ := hc
      exact (hF i hi).2.2
    refine ⟨⟨some a, len, cap, (List.range len).map F⟩, rfl, ⟨rd_of_cells fun i v hv => ?_, by simp, hl, hm, hsz'⟩, hall⟩
    have hlt : i < len * sz := by
      have := (List.getElem?_eq_some_iff.1 hv).1
      rw [flat_len hsz'] at this; simpa using this
    have hq : i / sz < len := Nat.div_lt_of_lt_mul (by rw [Nat.mul_comm]; exact hlt)
    have hk : ((List.range len).map F)[i / sz]? = some (F (i / sz)) := by simp [hq]
    have hrow' := flat_at hsz' hk
    have hv' : (en (F (i / sz)))[i % sz]? = some v := by
      rw [← hrow', List.getElem?_take_of_lt (Nat.mod_lt _ hz), List.getElem?_drop, Nat.div_add_mod']
      exact hv
    have := (hF (i / sz) hq).1 _ _ hv'
    rwa [Nat.div_add_mod'] at this
instance : Inhabited OpM := ⟨⟨0, [], 0, 0⟩⟩
end
end Go.Proofs.Ytncmcgcilijfkaa
namespace Go.Proofs.Ytncmcgcilijfkaa
open Go Go.Shelf
def Try.keysA_ren : Go.Shelf.Ren := ⟨fun | 7 => 57 | 10 => 75 | n => n, fun | 23 => 84 | 26 => 3 | 3 => 57 | 28 => 103 | 0 => 0 | 27 => 102 | 33 => 64 | 4 => 4 | n => n, fun | n => n⟩
theorem Try.keysA : Go.Proofs.SlLaysZI.n7 Try.prog Try.keysA_ren := {
  mixed := by kernel_rfl
  f7 := ⟨Try.f57.name, by decide, Try.func57.trans (congrArg some (by kernel_rfl))⟩
  f10 := ⟨Try.f75.name, by decide, Try.func75.trans (congrArg some (by kernel_rfl))⟩
  t0 := Try.underlying0
  a0 := Try.isAgg0
  z0 := Try.sizeOf0
  v0 := Try.zeroValue0
  t4 := Try.underlying4
  a4 := Try.isAgg4
  z4 := Try.sizeOf4
  v4 := Try.zeroValue4
  t23 := Try.underlying84
  a23 := Try.isAgg84
  z23 := Try.sizeOf84
  v23 := Try.zeroValue84
  t26 := Try.underlying3
  a26 := Try.isAgg3
  z26 := Try.sizeOf3
  v26 := Try.zeroValue3
  t27 := Try.underlying102
  a27 := Try.isAgg102
  z27 := Try.sizeOf102
  v27 := Try.zeroValue102
  t28 := Try.underlying103
  a28 := Try.isAgg103
  z28 := Try.sizeOf103
  v28 := Try.zeroValue103
  t33 := Try.underlying64
  a33 := Try.isAgg64
  z33 := Try.sizeOf64
  v33 := Try.zeroValue64 }
def Try.sortedA_ren : Go.Shelf.Ren := ⟨fun | 6 => 56 | 8 => 73 | 9 => 74 | 11 => 89 | 13 => 72 | 12 => 90 | 23 => 87 | 24 => 88 | 14 => 97 | 15 => 98 | 16 => 99 | 17 => 100 | 18 => 101 | 19 => 102 | 20 => 103 | 21 => 104 | 22 => 105 | 25 => 107 | 26 => 92 | 27 => 93 | 28 => 108 | 29 => 109 | 30 => 110 | 31 => 111 | n => n, fun | 26 => 3 | 28 => 103 | 24 => 62 | 0 => 0 | 3 => 3 | 37 => 116 | 48 => 129 | 50 => 131 | 4 => 4 | 40 => 121 | 39 => 120 | 45 => 126 | 5 => 5 | 9 => 9 | 51 => 134 | 55 => 138 | 57 => 147 | 58 => 148 | 33 => 64 | n => n, fun | n => n⟩
theorem Try.sortedA : Go.Proofs.SlLaysZI.n6 Try.prog Try.sortedA_ren := {
  mixed := by kernel_rfl
  f6 := ⟨Try.f56.name, by decide, Try.func56.trans (congrArg some (by kernel_rfl))⟩
  f8 := ⟨Try.f73.name, by decide, Try.func73.trans (congrArg some (by kernel_rfl))⟩
  f11 := ⟨Try.f89.name, by decide, Try.func89.trans (congrArg some (by kernel_rfl))⟩
  t0 := Try.underlying0
  a0 := Try.isAgg0
  z0 := Try.sizeOf0
  v0 := Try.zeroValue0
  t24 := Try.underlying62
  a24 := Try.isAgg62
  z24 := Try.sizeOf62
  v24 := Try.zeroValue62
  t26 := Try.underlying3
  a26 := Try.isAgg3
  z26 := Try.sizeOf3
  v26 := Try.zeroValue3
  t28 := Try.underlying103
  a28 := Try.isAgg103
  z28 := Try.sizeOf103
  v28 := Try.zeroValue103
  i26 := by kernel_rfl }
def Try.mcloneA_ren : Go.Shelf.Ren := ⟨fun | 5 => 69 | 7 => 77 | n => n, fun | 23 => 84 | 25 => 3 | 3 => 57 | 4 => 4 | 20 => 20 | n => n, fun | n => n⟩
theorem Try.mcloneA : Go.Proofs.SlLaysW.n5 Try.prog Try.mcloneA_ren := {
  mixed := by kernel_rfl
  f5 := ⟨Try.f69.name, by decide, Try.func69.trans (congrArg some (by kernel_rfl))⟩
  f7 := Try.func77.trans (congrArg some (by kernel_rfl))
  t4 := Try.underlying4
  a4 := Try.isAgg4
  z4 := Try.sizeOf4
  v4 := Try.zeroValue4
  t20 := Try.underlying20
  a20 := Try.isAgg20
  z20 := Try.sizeOf20
  v20 := Try.zeroValue20
  t23 := Try.underlying84
  a23 := Try.isAgg84
  z23 := Try.sizeOf84
  v23 := Try.zeroValue84 }
end Go.Proofs.Ytncmcgcilijfkaa
namespace Go.Proofs.Ytncmcgcilijfkaa
open Go Go.Shelf
def Try.sortI_ren : Go.Shelf.Ren := ⟨fun | 5 => 74 | 8 => 72 | 7 => 90 | 19 => 87 | 20 => 88 | 10 => 97 | 11 => 98 | 12 => 99 | 13 => 100 | 14 => 101 | 15 => 102 | 16 => 103 | 17 => 104 | 18 => 105 | 30 => 107 | 31 => 92 | 32 => 93 | 33 => 108 | 34 => 109 | 35 => 110 | 40 => 111 | n => n, fun | 23 => 62 | 25 => 3 | 3 => 3 | 32 => 116 | 22 => 62 | 0 => 0 | 44 => 129 | 46 => 131 | 4 => 4 | 36 => 121 | 35 => 120 | 41 => 126 | 5 => 5 | 9 => 9 | 53 => 134 | 57 => 138 | 63 => 147 | 64 => 148 | n => n, fun | n => n⟩
theorem Try.sortI : Go.Proofs.SlLaysM.n5 Try.prog Try.sortI_ren := {
  mixed := by kernel_rfl
  f5 := ⟨Try.f74.name, by decide, Try.func74.trans (congrArg some (by kernel_rfl))⟩
  f7 := ⟨Try.f90.name, by decide, Try.func90.trans (congrArg some (by kernel_rfl))⟩
  f8 := Try.func72.trans (congrArg some (by kernel_rfl))
  f10 := ⟨Try.f97.name, by decide, Try.func97.trans (congrArg some (by kernel_rfl))⟩
  f11 := ⟨Try.f98.name, by decide, Try.func98.trans (congrArg some (by kernel_rfl))⟩
  f12 := ⟨Try.f99.name, by decide, Try.func99.trans (congrArg some (by kernel_rfl))⟩
  f13 := ⟨Try.f100.name, by decide, Try.func100.trans (congrArg some (by kernel_rfl))⟩
  f14 := ⟨Try.f101.name, by decide, Try.func101.trans (congrArg some (by kernel_rfl))⟩
  f15 := ⟨Try.f102.name, by decide, Try.func102.trans (congrArg some (by kernel_rfl))⟩
  f16 := ⟨Try.f103.name, by decide, Try.func103.trans (congrArg some (by kernel_rfl))⟩
  f17 := ⟨Try.f104.name, by decide, Try.func104.trans (congrArg some (by kernel_rfl))⟩
  f18 := ⟨Try.f105.name, by decide, Try.func105.trans (congrArg some (by kernel_rfl))⟩
  f19 := Try.func87.trans (congrArg some (by kernel_rfl))
  f20 := Try.func88.trans (congrArg some (by kernel_rfl))
  f30 := ⟨Try.f107.name, by decide, Try.func107.trans (congrArg some (by kernel_rfl))⟩
  f31 := Try.func92.trans (congrArg some (by kernel_rfl))
  f32 := Try.func93.trans (congrArg some (by kernel_rfl))
  f33 := ⟨Try.f108.name, by decide, Try.func108.trans (congrArg some (by kernel_rfl))⟩
  f34 := ⟨Try.f109.name, by decide, Try.func109.trans (congrArg some (by kernel_rfl))⟩
  f35 := ⟨Try.f110.name, by decide, Try.func110.trans (congrArg some (by kernel_rfl))⟩
  f40 := ⟨Try.f111.name, by decide, Try.func111.trans (congrArg some (by kernel_rfl))⟩
  t0 := Try.underlying0
  a0 := Try.isAgg0
  z0 := Try.sizeOf0
  v0 := Try.zeroValue0
  t3 := Try.underlying3
  a3 := Try.isAgg3
  z3 := Try.sizeOf3
  v3 := Try.zeroValue3
  t4 := Try.underlying4
  a4 := Try.isAgg4
  z4 := Try.sizeOf4
  v4 := Try.zeroValue4
  t5 := Try.underlying5
  a5 := Try.isAgg5
  z5 := Try.sizeOf5
  v5 := Try.zeroValue5
  t9 := Try.underlying9
  a9 := Try.isAgg9
  z9 := Try.sizeOf9
  v9 := Try.zeroValue9
  t22 := Try.underlying62
  a22 := Try.isAgg62
  z22 := Try.sizeOf62
  v22 := Try.zeroValue62
  t23 := Try.underlying62
  a23 := Try.isAgg62
  z23 := Try.sizeOf62
  v23 := Try.zeroValue62
  t25 := Try.underlying3
  a25 := Try.isAgg3
  z25 := Try.sizeOf3
  v25 := Try.zeroValue3
  t32 := Try.underlying116
  a32 := Try.isAgg116
  z32 := Try.sizeOf116
  v32 := Try.zeroValue116
  t35 := Try.underlying120
  a35 := Try.isAgg120
  z35 := Try.sizeOf120
  v35 := Try.zeroValue120
  t36 := Try.underlying121
  a36 := Try.isAgg121
  z36 := Try.sizeOf121
  v36 := Try.zeroValue121
  t41 := Try.underlying126
  a41 := Try.isAgg126
  z41 := Try.sizeOf126
  v41 := Try.zeroValue126
  t44 := Try.underlying129
  a44 := Try.isAgg129
  z44 := Try.sizeOf129
  v44 := Try.zeroValue129
  t46 := Try.underlying131
  a46 := Try.isAgg131
  z46 := Try.sizeOf131
  v46 := Try.zeroValue131
  t53 := Try.underlying134
  a53 := Try.isAgg134
  z53 := Try.sizeOf134
  v53 := Try.zeroValue134
  t57 := Try.underlying138
  a57 := Try.isAgg138
  z57 := Try.sizeOf138
  v57 := Try.zeroValue138
  t63 := Try.underlying147
  a63 := Try.isAgg147
  z63 := Try.sizeOf147
  v63 := Try.zeroValue147
  t64 := Try.underlying148
  a64 := Try.isAgg148
  z64 := Try.sizeOf148
  v64 := Try.zeroValue148 }
end Go.Proofs.Ytncmcgcilijfkaa
namespace Go.Proofs.Ytncmcgcilijfkaa
open Go Go.MapKept
set_option linter.unusedSectionVars false
section
variable {κ α : Type} [DecidableEq κ] {P : Program} {Q : Exit → Act → World → Prop} {n : Nat} {σ : Nat → Value} {w w0 : World} {K : Act → World → Prop}
  {ty : TypeId} {pos : String} {aft : Array Edge} {g : Option (Nat × Bool)} {d : Nat} {t kt et : TypeId} {x : Operand} {S : List Nat} {L : List Ch}
/-- an iterator: which keys it has met. -/
def itO (b : Nat) (M : List (κ × Value × Nat)) (c : Nat) (vis : List κ) : Obj := .mapIter (some b) c (vis.map (mborn M)).toArray c
theorem o_range {kv : κ → Value} {M : List (κ × Value × Nat)} {c i b : Nat} (H : Hp w0 w S L) (hi : L[i]? = some (.obj b (mobj kv M c))) (hu : P.underlying t = some (.map kt et)) (hx : ev n σ x = .map (some b))
    (h : ∀ r w', Hp w0 w' S (L ++ [.obj r (itO b M c [])]) → w0.heap.size ≤ r → K (mk n (up σ d (.pointer (some ⟨r, 0, none⟩)))) w') : Oper.wp P ⟨some d, .range t x, ty, pos, aft, g⟩ (mk n σ) w K Q := by
  have hb : w.heap[b]? = some (.map (M.map (ment kv)).toArray c) := H.has _ (List.mem_of_getElem? hi)
  have hg := run_range_map w t kt et b _ c hu hb
  refine o_val (v := .pointer (some ⟨w.heap.size, 0, none⟩)) (w' := w.alloc (.mapIter (some b) c #[] c)) ?_ (h w.heap.size _ (H.new _ (.obj w.heap.size (itO b M c [])) rfl (heap_alloc_new' w _)) H.size)
  simp only [execOp, hx, Sem.run_bind, hg, Result.andThen_ok]
  rfl
theorem mget_mem {M : List (κ × Value × Nat)} {k : κ} {v : Value} (h : mget M k = some v) : ∃ x ∈ M, x.1 = k ∧ x.2.1 = v ∧ x.2.2 = mborn M k := by
  induction M with
  | nil => cases h
  | cons y M ih =>
    rw [mget] at h
    by_cases e : k = y.1
    · rw [if_pos e] at h; cases h
      exact ⟨y, List.mem_cons_self .., e.symm, rfl, by rw [mborn, if_pos e]⟩
    · rw [if_neg e] at h
      obtain ⟨x, hx, h1, h2, h3⟩ := ih h
      exact ⟨x, List.mem_cons_of_mem _ hx, h1, h2, by rw [mborn, if_neg e]; exact h3⟩
theorem mget_of {M : List (κ × Value × Nat)} (hn : (M.map (·.1)).Nodup) {x : κ × Value × Nat} (h : x ∈ M) : mget M x.1 = some x.2.1 ∧ mborn M x.1 = x.2.2 := by
  induction M with
  | nil => cases h
  | cons y M ih =>
    rw [List.map_cons, List.nodup_cons] at hn
    rw [mget, mborn]
    rcases List.mem_cons.1 h with rfl | h
    · rw [if_pos rfl, if_pos rfl]; exact ⟨rfl, rfl⟩
    · have hne : x.1 ≠ y.1 := fun e => hn.1 (by rw [← e]; exact List.mem_map.2 ⟨x, h, rfl⟩)
      rw [if_neg hne, if_neg hne]; exact ih hn.2 h
theorem born_inj {M : List (κ × Value × Nat)} (hb : (M.map (·.2.2)).Nodup) {x y : κ × Value × Nat} (hx : x ∈ M) (hy : y ∈ M) (e : x.2.2 = y.2.2) : x = y := by
  induction M with
  | nil => cases hx
  | cons z M ih =>
    rw [List.map_cons, List.nodup_cons] at hb
    rcases List.mem_cons.1 hx with h1 | hx
    · rcases List.mem_cons.1 hy with h2 | hy
      · rw [h1, h2]
      · exact absurd (List.mem_map.2 ⟨y, hy, by rw [← e, h1]⟩) hb.1
    · rcases List.mem_cons.1 hy with h2 | hy
      · exact absurd (List.mem_map.2 ⟨x, hx, by rw [e, h2]⟩) hb.1
      · exact ih hb.2 hx hy
theorem o_next {kv : κ → Value} {enc : α → Value} {M : List (κ × Value × Nat)} {F : κ → Option α} {c i j b r : Nat} {vis : List κ} (H : Hp w0 w S L) (hi : L[i]? = some (.obj b (mobj kv M c))) (hj : L[j]? = some (.obj r (itO b M c vis)))
    (hM : MOk M c) (hF : MIs enc M F) (hv : ∀ k ∈ vis, (F k).isSome = true) (hx : ev n σ x = .pointer (some ⟨r, 0, none⟩))
    (h1 : (∀ k, (F k).isSome = true → k ∈ vis) → ∀ w', Hp w0 w' S L → K (mk n (up σ d (.tuple #[.bool false]))) w')
    (h2 : ∀ k a, F k = some a → k ∉ vis → ∀ w', Hp w0 w' S (L.set j (.obj r (itO b M c (vis ++ [k])))) → K (mk n (up σ d (.tuple #[.bool true, kv k, enc a]))) w') :
    Oper.wp P ⟨some d, .next x false, ty, pos, aft, g⟩ (mk n σ) w K Q := by
  have hb : w.heap[b]? = some (.map (M.map (ment kv)).toArray c) := H.has _ (List.mem_of_getElem? hi)
  have hr : w.heap[r]? = some (.mapIter (some b) c (vis.map (mborn M)).toArray c) := H.has _ (List.mem_of_getElem? hj)
  have hin : ∀ k ∈ vis, ∃ y ∈ M, y.1 = k ∧ y.2.2 = mborn M k := fun k hk => by
    have h3 := hv k hk
    rw [← hF.isSome] at h3
    obtain ⟨v, hv'⟩ := Option.isSome_iff_exists.1 h3
    obtain ⟨y, hy, e1, _, e3⟩ := mget_mem hv'
    exact ⟨y, hy, e1, e3⟩
  rcases run_next_at (P := P) w ty r b c c _ _ c hr hb (fun y hy => by
      simp only [List.mem_map] at hy
      obtain ⟨z, hz, rfl⟩ := hy
      exact hM.old z hz) (Nat.le_refl c) with ⟨h0, hrun⟩ | ⟨e, he, w1, hw1, hrun⟩
  · refine o_val (v := .tuple #[.bool false]) (w' := w) ?_ (h1 (fun k hk => ?_) w H)
    · simp only [execOp, hx, Sem.run_bind, hrun, Result.andThen_ok]; rfl
    · rw [← hF.isSome] at hk
      obtain ⟨v, hv'⟩ := Option.isSome_iff_exists.1 hk
      obtain ⟨y, hy, e1, _, e3⟩ := mget_mem hv'
      have hemp := Array.eq_empty_of_size_eq_zero h0
      rw [leftOf, Array.filter_eq_empty_iff] at hemp
      have := hemp (ment kv y) (by simp only [List.mem_toArray]; exact List.mem_map.2 ⟨y, hy, rfl⟩)
      simp only [ment, Bool.not_eq_true, Bool.not_eq_false', List.contains_toArray, List.contains_iff_mem, List.mem_map] at this
      obtain ⟨k', hk', e4⟩ := this
      obtain ⟨z, hz, f1, f3⟩ := hin k' hk'
      have := born_inj hM.born hz hy (by rw [f3, e4])
      rw [← e1, ← this, f1]; exact hk'
  · have hsp : ∃ y ∈ M, e = ment kv y ∧ ∀ k ∈ vis, mborn M k ≠ y.2.2 := by
      rw [leftOf] at he
      simp only [Array.mem_toList_iff, Array.mem_filter, List.mem_toArray, List.mem_map] at he
      obtain ⟨⟨y, hy, rfl⟩, hc⟩ := he
      refine ⟨y, hy, rfl, fun k hk e => ?_⟩
      have : ((vis.map (mborn M)).toArray.contains (ment kv y).born) = true := by
        simp only [List.contains_toArray, List.contains_iff_mem, List.mem_map]
        exact ⟨k, hk, e⟩
      rw [this] at hc; cases hc
    obtain ⟨y, hy, rfl, hny⟩ := hsp
    obtain ⟨g1, g2⟩ := mget_of hM.keys hy
    have hFa : ∃ a, F y.1 = some a ∧ enc a = y.2.1 := by
      have := hF y.1
      rw [g1] at this
      cases hf : F y.1 with
      | none => rw [hf] at this; cases this
      | some a => rw [hf] at this; exact ⟨a, rfl, (Option.some.inj this).symm⟩
    obtain ⟨a, ha, hea⟩ := hFa
    have hH1 : Hp w0 w1 S L := by
      rcases hw1 with rfl | rfl
      · exact H
      · exact H.drew
    have hr1 : w1.heap[r]? = some (.mapIter (some b) c (vis.map (mborn M)).toArray c) := by rcases hw1 with rfl | rfl <;> exact hr
    have hito : (Obj.mapIter (some b) c ((vis.map (mborn M)).toArray.push (ment kv y).born) c) = itO b M c (vis ++ [y.1]) := by
      rw [itO, List.map_append, List.map_cons, List.map_nil, g2]; simp [ment]
    rw [hito] at hrun
    have hset := heap_set (o' := itO b M c (vis ++ [y.1])) hr1
    refine o_val (v := .tuple #[.bool true, kv y.1, enc a]) (w' := ChangeMaps.setBlock w1 r (itO b M c (vis ++ [y.1]))) ?_ (h2 y.1 a ha (fun hk => hny _ hk g2) _ ?_)
    · simp only [execOp, hx, Sem.run_bind, hrun, Result.andThen_ok, hea]; rfl
    · refine hH1.turn hj (c' := .obj r (itO b M c (vis ++ [y.1]))) hset.1 (fun b' hb' => .inl hb') rfl rfl rfl (by simp [ChangeMaps.setBlock]) (fun b' _ hne => ?_)
      exact hset.2 b' (fun e => hne (by rw [e]; rfl))
theorem r_entry {kv : κ → Value} {enc : α → Value} {M : List (κ × Value × Nat)} {F : κ → Option α} {c i j b r : Nat} {vis : List κ} {k : κ} {a : α} (H : Hp w0 w S L) (hi : L[i]? = some (.obj b (mobj kv M c))) (hj : L[j]? = some (.obj r (itO b M c (vis ++ [k]))))
    (hM : MOk M c) (hF : MIs enc M F) (ha : F k = some a) (hx : ev n σ x = .pointer (some ⟨r, 0, none⟩)) :
    (execOp (ev n σ) ⟨some d, .entry x, ty, pos, aft, g⟩).run P w = .ok (.value (.tuple #[kv k, enc a])) w := by
  have hb : w.heap[b]? = some (.map (M.map (ment kv)).toArray c) := H.has _ (List.mem_of_getElem? hi)
  have hr : w.heap[r]? = some (.mapIter (some b) c ((vis ++ [k]).map (mborn M)).toArray c) := H.has _ (List.mem_of_getElem? hj)
  have hg := hF k
  rw [ha] at hg
  obtain ⟨y, hy, e1, e2, e3⟩ := mget_mem hg
  have hrun := run_entry_at (P := P) w r b c ((vis.map (mborn M)).toArray) _ c (ment kv y) (by rw [hr]; simp [ment, e3]) hb (by simp only []; exact List.mem_map.2 ⟨y, hy, rfl⟩) (by
    have := hM.born
    simpa [List.map_map, Function.comp_def, ment] using this)
  simp only [execOp, hx, Sem.run_bind, hrun, Result.andThen_ok, ment, e1, e2]
  rfl
end
theorem nd_le {α : Type} [DecidableEq α] : ∀ {l m : List α}, l.Nodup → (∀ x ∈ l, x ∈ m) → l.length ≤ m.length
  | [], m, _, _ => Nat.zero_le _
  | a :: l, m, hn, hs => by
    rw [List.nodup_cons] at hn
    have h1 := nd_le (l := l) (m := m.erase a) hn.2 (fun x hx => (List.mem_erase_of_ne (fun e => hn.1 (by rw [← e]; exact hx))).2 (hs x (List.mem_cons_of_mem _ hx)))
    have h2 := List.length_erase_of_mem (hs a (List.mem_cons_self ..))
    have h3 := List.length_pos_of_mem (hs a (List.mem_cons_self ..))
    rw [List.length_cons]; omega
theorem vis_le {κ α : Type} [DecidableEq κ] {enc : α → Value} {M : List (κ × Value × Nat)} {F : κ → Option α} (hF : MIs enc M F) {vis : List κ} (hn : vis.Nodup) (hv : ∀ k ∈ vis, (F k).isSome = true) : vis.length ≤ M.length := by
  have := nd_le (m := M.map (·.1)) hn (fun x hx => by
    have h1 := hv x hx
    rw [← hF.isSome] at h1
    obtain ⟨v, h2⟩ := Option.isSome_iff_exists.1 h1
    obtain ⟨y, hy, e, _⟩ := mget_mem h2
    exact List.mem_map.2 ⟨y, hy, e⟩)
  rwa [List.length_map] at this
theorem vis_snoc {κ α : Type} [DecidableEq κ] {F : κ → Option α} {vis : List κ} {k : κ} {a : α} (hn : vis.Nodup) (hv : ∀ k ∈ vis, (F k).isSome = true) (hf : F k = some a) (hk : k ∉ vis) : (vis ++ [k]).Nodup ∧ ∀ j ∈ vis ++ [k], (F j).isSome = true := by
  refine ⟨?_, fun j hj => ?_⟩
  · rw [List.nodup_append]
    refine ⟨hn, by simp, fun x hx y hy e => ?_⟩
    rw [List.mem_singleton] at hy
    exact hk (by rw [← hy, ← e]; exact hx)
  · rcases List.mem_append.1 hj with h | h
    · exact hv j h
    · rw [List.mem_singleton.1 h, hf]; rfl
end Go.Proofs.Ytncmcgcilijfkaa
namespace Go.Proofs.Ytncmcgcilijfkaa
open Go
/-- C is A, then B at a of b cells, then D. -/
structure Cut3 (C A B D : List Value) (a b : Nat) : Prop where
  e : C = A ++ (B ++ D)
  ha : A.length = a
  hb : B.length = b
section
variable {C A B D V : List Value} {a b : Nat}
theorem Cut3.get {v : Value} (h : Cut3 C A [v] D a 1) : C[a]? = some v := by
  rw [h.e, ← h.ha, List.getElem?_append_right (Nat.le_refl _), Nat.sub_self]; rfl
theorem Cut3.le (h : Cut3 C A B D a b) : a + b ≤ C.length := by
  rw [h.e, List.length_append, List.length_append, h.ha, h.hb]; omega
theorem Cut3.put (h : Cut3 C A B D a b) : C.take a ++ V ++ C.drop (a + b) = A ++ (V ++ D) := by
  rw [h.e, ← h.ha, ← h.hb, List.take_left, ← List.drop_drop, List.drop_left, List.drop_left, List.append_assoc]
theorem fill_step {places : Nat → Option (Nat × Nat)} {k : Nat} {v : Value} {rest : List (Nat × Value)} (hp : places k = some (a, b)) (h : Cut3 C A B D a b) (hv : v.cells.toList = V) (hl : V.length = b) :
    Instr.fill places C.toArray ((k, v) :: rest) = Instr.fill places (A ++ (V ++ D)).toArray rest := by
  have hs : v.cells.size = b := by rw [← hl, ← hv, Array.length_toList]
  have hn : ¬ ((v.cells.size ≠ b || a + v.cells.size > C.toArray.size) = true) := by
    have := h.le
    simp [hs]; omega
  have h2 : ∀ (vs done zs : List Value), zs.length = vs.length → (vs.zipIdx done.length).foldl (fun (acc : Array Value) (p : Value × Nat) => acc.setIfInBounds (A.length + p.2) p.1) (A ++ done ++ zs ++ D).toArray = (A ++ done ++ vs ++ D).toArray := by
    intro vs
    induction vs with
    | nil => intro done zs hz; have : zs = [] := List.length_eq_zero_iff.1 (by simpa using hz); subst this; simp
    | cons v vs ih =>
      intro done zs hz
      cases zs with
      | nil => simp at hz
      | cons z zs =>
        have := ih (done ++ [v]) zs (by simpa using hz)
        simp only [List.length_append, List.length_singleton, List.append_assoc, List.cons_append, List.nil_append] at this
        rw [List.zipIdx_cons, List.foldl_cons]
        simp only [List.append_assoc, List.cons_append]
        rw [← this]
        congr 1
        simp []
  have h3 := h2 V [] B (by rw [hl, h.hb])
  simp only [Instr.fill, hp]
  rw [if_neg hn]
  simp only [List.append_nil, List.length_nil] at h3
  rw [h.ha] at h3
  have e1 : v.cells.zipIdx.foldl (fun (acc : Array Value) (p : Value × Nat) => acc.setIfInBounds (a + p.2) p.1) C.toArray = (A ++ (V ++ D)).toArray := by
    rw [h.e, ← List.append_assoc, ← List.append_assoc, ← h3]
    have : v.cells.zipIdx = (V.zipIdx 0).toArray := by rw [← hv]; simp [← Array.toList_inj]
    rw [this]; simp
  first | exact congrArg (fun z => Instr.fill places z rest) e1 | (rw [← e1])
inductive Fills (places : Nat → Option (Nat × Nat)) : List Value → List (Nat × Value) → List Value → Prop
  | nil (C : List Value) : Fills places C [] C
  | cons {C A B D V E : List Value} {a b k : Nat} {v : Value} {rest : List (Nat × Value)} : places k = some (a, b) → Cut3 C A B D a b → v.cells.toList = V → V.length = b → Fills places (A ++ (V ++ D)) rest E → Fills places C ((k, v) :: rest) E
theorem Fills.run {places : Nat → Option (Nat × Nat)} {C E : List Value} {pv : List (Nat × Value)} (h : Fills places C pv E) : Instr.fill places C.toArray pv = some E.toArray := by
  induction h with
  | nil C => rfl
  | cons hp hc hv hl _ ih => rw [fill_step hp hc hv hl, ih]
end
section
variable {P : Program} {Q : Exit → Act → World → Prop} {n : Nat} {σ : Nat → Value} {w w0 : World} {K : Act → World → Prop}
  {ty : TypeId} {pos : String} {aft : Array Edge} {g : Option (Nat × Bool)} {d : Nat} {t : TypeId} {x y : Operand} {S : List Nat} {L : List Ch} {C A B D : List Value} {a k : Nat}
theorem r_bldG {parts : Array (Nat × Operand)} {zs : Array Value} {places : Nat → Option (Nat × Nat)} {pv : List (Nat × Value)} {Z E : List Value} (hB : Bld P t zs places) (hz : zs = Z.toArray) (hp0 : pvs n σ parts.toList = pv) (hf : Fills places Z pv E) :
    (execOp (ev n σ) ⟨some d, .build t parts, ty, pos, aft, g⟩).run P w = .ok (.value (.agg E.toArray)) w :=
  r_bld' hB hp0 (by rw [hz]; exact hf.run)
/-- a part of a struct in memory. -/
theorem r_l1 {b i : Nat} {v : Value} {T : TypeId} (H : Hp w0 w S L) (hi : L[i]? = some (.blk b C T)) (hx : ev n σ x = .pointer (some ⟨b, a, none⟩)) (ht : cellTy P t = true) (h : Cut3 C A [v] D a 1) :
    (execOp (ev n σ) ⟨some d, .load t x, ty, pos, aft, g⟩).run P w = .ok (.value v) w := r_ld H hi hx ht h.get
/-- an element of one cell. -/
theorem r_gc {α : Type} {enc : α → List Value} {s : Gl α} {b o j : Nat} {c : α} {v : Value} (hs : s.ok enc 1 w) (ha : s.a = some ⟨b, o, none⟩) (hx : ev n σ x = .pointer (some ⟨b, o + j * 1, none⟩)) (ht : cellTy P t = true) (hk : s.l[j]? = some c) (h : enc c = [v]) :
    (execOp (ev n σ) ⟨some d, .load t x, ty, pos, aft, g⟩).run P w = .ok (.value v) w := r_ldFld (off := 0) hs ha hx ht hk (by decide) (by rw [h]; rfl)
end
end Go.Proofs.Ytncmcgcilijfkaa
namespace Go.Proofs.Ytncmcgcilijfkaa
open Go
section
variable {P : Program} {Q : Exit → Act → World → Prop} {n : Nat} {σ : Nat → Value} {w w0 : World} {K : Act → World → Prop}
  {ty : TypeId} {pos : String} {aft : Array Edge} {g : Option (Nat × Bool)} {d : Nat} {t : TypeId} {x y : Operand} {S : List Nat} {L : List Ch} {A B D V : List Value}
theorem flat_split {α : Type} {enc : α → List Value} {sz k : Nat} {c : α} : ∀ {l : List α}, (∀ c ∈ l, (enc c).length = sz) → l[k]? = some c → ∃ R1 R2, l.flatMap enc = R1 ++ (enc c ++ R2) ∧ R1.length = k * sz ∧ ∀ c', (l.set k c').flatMap enc = R1 ++ (enc c' ++ R2) := by
  induction k with
  | zero =>
    intro l hs h
    cases l with
    | nil => cases h
    | cons a l => cases h; exact ⟨[], l.flatMap enc, by simp, by simp, fun c' => by simp⟩
  | succ k ih =>
    intro l hs h
    cases l with
    | nil => cases h
    | cons a l =>
      obtain ⟨R1, R2, h1, h2, h3⟩ := ih (l := l) (fun c hc => hs c (List.mem_cons_of_mem _ hc)) h
      refine ⟨enc a ++ R1, R2, by rw [List.flatMap_cons, h1, List.append_assoc], by rw [List.length_append, h2, hs a (List.mem_cons_self ..), Nat.succ_mul]; omega, fun c' => by rw [List.set_cons_succ, List.flatMap_cons, h3 c', List.append_assoc]⟩
theorem o_stGV {α : Type} {enc : α → List Value} {b o k i off m : Nat} {a : Option Nat} {len cap sz : Nat} {l : List α} {T : TypeId} {c : α} (c' : α) {v : Value} (H : Hp w0 w S L) (hi : L[i]? = some (.own a len cap (l.flatMap enc) T sz)) (hsz : ∀ c ∈ l, (enc c).length = sz)
    (hx : ev n σ x = .pointer (some ⟨b, o + k * sz + off, none⟩)) (ha : hd a = some ⟨b, o, none⟩) (hy : ev n σ y = v) (hv : v.cells.toList = V) (hs : cellSz P t = some m) (hm : V.length = m) (h1 : V.all (·.oneCell') = true) (hk : l[k]? = some c)
    (hc : Cut3 (enc c) A B D off m) (hc' : enc c' = A ++ (V ++ D))
    (h : ∀ w', Hp w0 w' S (L.set i (.own a len cap ((l.set k c').flatMap enc) T sz)) → K (mk n σ) w') : Oper.wp P ⟨none, .store t x y, ty, pos, aft, g⟩ (mk n σ) w K Q := by
  cases a with
  | none => cases ha
  | some b' =>
    simp only [hd, Option.map_some, Option.some.injEq, Addr.mk.injEq, and_true] at ha
    obtain ⟨rfl, rfl⟩ := ha
    obtain ⟨q1, q2, q3, rest, hw, q5⟩ := H.has _ (List.mem_of_getElem? hi)
    obtain ⟨R1, R2, e1, e2, e3⟩ := flat_split hsz hk
    have hvs : v.cells.size = m := by rw [← hm, ← hv, Array.length_toList]
    have hcut : Cut3 (l.flatMap enc ++ rest) (R1 ++ A) B (D ++ (R2 ++ rest)) (0 + k * sz + off) m := by
      refine ⟨?_, ?_, hc.hb⟩
      · rw [e1, hc.e]; simp only [List.append_assoc]
      · rw [List.length_append, e2, hc.ha]; omega
    have hr := run_storeAt_row (P := P) (t := t) (v := v) hw (o := 0 + k * sz + off) (by rw [hvs]; exact hs) (by rw [hvs]; exact hcut.le) (by rw [← hv, List.all_eq_true] at h1; rw [Array.all_eq_true']; intro z hz; exact h1 z (by simpa using hz))
    have e : (l.flatMap enc ++ rest).take (0 + k * sz + off) ++ v.cells.toList ++ (l.flatMap enc ++ rest).drop (0 + k * sz + off + v.cells.size) = (l.set k c').flatMap enc ++ rest := by
      rw [hvs, hv, hcut.put, e3 c', hc']
      simp only [List.append_assoc]
    rw [e] at hr
    simp only [Nat.zero_add] at hr hx
    have hl2 : ((l.set k c').flatMap enc).length = (l.flatMap enc).length := by
      rw [e3 c', e1, hc', hc.e]
      simp only [List.length_append, hm, hc.hb]
    refine o_skip (w' := w.setRow b' ((l.set k c').flatMap enc ++ rest).toArray) (by simp [execOp, hx, hy, hr]) (h _ ?_)
    exact H.row hi rfl rfl hw fun w' hw' => ⟨by rw [hl2]; exact q1, q2, q3, rest, hw', by rw [List.length_append, hl2, ← List.length_append]; exact q5⟩
end
end Go.Proofs.Ytncmcgcilijfkaa
namespace Go.Proofs.Ytncmcgcilijfkaa
open Go
set_option maxRecDepth 100000
instance : Inhabited (List UInt8) := ⟨[]⟩
theorem flat_one {α : Type} (enc : α → Value) (l : List α) : l.flatMap (fun x => [enc x]) = l.map enc := by
  induction l with
  | nil => rfl
  | cons a l ih => rw [List.flatMap_cons, ih]; rfl
end Go.Proofs.Ytncmcgcilijfkaa
namespace Go.Proofs.Ytncmcgcilijfkaa
open Go Go.MapKept
theorem Hp.permT {w0 w : World} {S : List Nat} {L L' T : List Ch} (h : Hp w0 w S (L ++ T)) (hp : L.Perm L') : Hp w0 w S (L' ++ T) := h.permL (hp.append_right T)
theorem Hp.ownT {w0 w : World} {S : List Nat} {L L1 Lr T : List Ch} (h : Hp w0 w S (L ++ T)) (hp : L.Perm (L1 ++ Lr)) : Own w (L1 ++ T) := by
  have h1 := (h.permT hp).permL (L' := (L1 ++ T) ++ Lr) (by
    rw [List.append_assoc, List.append_assoc]
    exact List.Perm.append_left _ List.perm_append_comm)
  exact h1.own1 rfl
theorem Hp.callT {w0 w w' : World} {S : List Nat} {L L1 Lr L1' L' T T' : List Ch} (h : Hp w0 w S (L ++ T)) (hp : L.Perm (L1 ++ Lr)) (hc : Hp w w' (keys (L1 ++ T)) (L1' ++ T')) (hq : (Lr ++ L1').Perm L') : Hp w0 w' S (L' ++ T') := by
  have h1 := (h.permT hp).permL (L' := (L1 ++ T) ++ Lr) (by
    rw [List.append_assoc, List.append_assoc]
    exact List.Perm.append_left _ List.perm_append_comm)
  have h2 := h1.callG rfl hc
  rw [← List.append_assoc] at h2
  exact h2.permT hq
/-- a slice as an element of a slice. -/
def slE (s : Sl) : List Value := [s.v]
theorem repS (l : Nat) : (List.replicate l (⟨none, 0, 0, []⟩ : Sl)).flatMap slE = List.replicate l (.slice none 0 0) := by
  induction l with
  | zero => rfl
  | succ l ih => rw [List.replicate_succ, List.flatMap_cons, ih]; rfl
/-- numbers as keys. -/
def kI (i : Int) : Value := .int .i64 i
section
variable {P : Program} {Q : Exit → Act → World → Prop} {n : Nat} {σ : Nat → Value} {w w0 : World} {K : Act → World → Prop}
  {ty : TypeId} {pos : String} {aft : Array Edge} {g : Option (Nat × Bool)} {d : Nat} {t kt et : TypeId} {x y : Operand} {S : List Nat} {L : List Ch}
theorem KeyOf.int {k : IntKind} (hu : P.underlying kt = some (.int k)) : KeyOf P kt (fun i : Int => Value.int k i) := by
  refine ⟨fun e i w => ?_, fun i L w => ?_, fun i => ?_⟩
  · show (Instr.checkKey e (9999 + 1) kt _).run P w = _
    exact run_checkKey hu (by simp [IsKey]) e 9999
  · have : ∀ (L : List (Int × Value × Nat)) (j : Nat), Instr.findNow (.int k) (Value.int k i) (L.map (ment fun i : Int => Value.int k i)) j = some (midx i L j) := by
      intro L
      induction L with
      | nil => intro j; rfl
      | cons x L ih =>
        intro j
        have e : Instr.sameNow (.int k) (Value.int k i) (Value.int k x.1) = some (decide (i = x.1)) := by
          rw [Instr.sameNow, if_pos rfl]; rfl
        rw [List.map_cons, Instr.findNow]
        show (match Instr.sameNow (.int k) (Value.int k i) (Value.int k x.1) with | some true => _ | some false => _ | none => _) = _
        rw [e, midx]
        by_cases h : i = x.1
        · rw [decide_eq_true h, if_pos h]; rfl
        · rw [decide_eq_false h, if_neg h]; exact ih (j + 1)
    exact run_findKey hu (this L 0)
  · exact sameBits_self (d := .int k) (by simp [IsKey]) _
theorem keyI (hu : P.underlying kt = some (.int .i64)) : KeyOf P kt kI := KeyOf.int hu
theorem MOk.none {κ : Type} [DecidableEq κ] (c : Nat) : MOk ([] : List (κ × Value × Nat)) c := ⟨List.nodup_nil, List.nodup_nil, fun _ h => by cases h⟩
/-- 'clear(m)'. -/
theorem o_mclear {κ : Type} [DecidableEq κ] {kv : κ → Value} {M : List (κ × Value × Nat)} {c i b : Nat} (H : Hp w0 w S L) (hi : L[i]? = some (.obj b (mobj kv M c))) (hu : P.underlying t = some (.map kt et))
    (hx : ev n σ x = .map (some b)) (h : ∀ w', Hp w0 w' S (L.set i (.obj b (mobj kv [] c))) → K (mk n σ) w') :
    Oper.wp P ⟨none, .call ⟨.builtin .clear, #[x], #[t]⟩, ty, pos, aft, g⟩ (mk n σ) w K Q := by
  have hb : w.heap[b]? = some (.map (M.map (ment kv)).toArray c) := H.has _ (List.mem_of_getElem? hi)
  have hargs : (#[x] : Array Operand).map (ev n σ) = #[.map (some b)] := by simp [hx]
  have hg : (Builtin.clear_ #[t] ty #[.map (some b)]).run P w = .ok (.tuple #[]) { w with heap := w.heap.setIfInBounds b (mobj kv [] c) } := by
    unfold Builtin.clear_
    simp [run_underlying hu, MapKept.run_getObj_map hb, MapKept.run_setObj_map _ hb, mobj]
  exact o_valN (run_builtin (s := Builtin.clear_ #[t] ty #[.map (some b)]) (vs := #[.map (some b)]) hargs (fun _ => rfl) hg) (h _ (H.mset hi))
/-- 'make([][]T, n)': n slices that are nil. -/
theorem o_makeS {e : TypeId} {bytes : Nat} {kx ky : IntKind} {li ci : Int} (l : Nat) (H : Hp w0 w S L) (hT : SlTy P t e 1 bytes) (hz : zeroCells P e = some [.slice none 0 0]) (hx : ev n σ x = .int kx li) (hy : ev n σ y = .int ky ci)
    (hl : li = (l : Int)) (hc : ci = (l : Int)) (hm : bytes * l ≤ 281474976710656) (hm2 : l ≤ 281474976710656)
    (h : ∀ b w', Hp w0 w' S (L ++ [.own (some b) l l ((List.replicate l (⟨none, 0, 0, []⟩ : Sl)).flatMap slE) e 1]) → w0.heap.size ≤ b → K (mk n (up σ d (.slice (hd (some b)) l l))) w') :
    Oper.wp P ⟨some d, .makeSlice t x y, ty, pos, aft, g⟩ (mk n σ) w K Q := by
  have hmx : l ≤ maxLen := Nat.le_trans hm2 (by decide)
  refine o_make (l := l) (c := l) H hT hz hx hy hl hc (Nat.le_refl _) hm hmx fun b w' H' hb => h b w' ?_ hb
  have := H'.toOwn (i := L.length) (len := l) (cap := l) (sz := 1) (b := b) (C := List.replicate l (.slice none 0 0)) (T := e) (by simp) (Nat.le_refl _) hmx (by simp)
  rw [List.set_append_right _ _ (Nat.le_refl _), Nat.sub_self] at this
  rw [repS]
  simpa using this
/-- a slice compared with nil. -/
theorem r_slnil {a : Option Addr} {l c : Nat} {e yt : TypeId} (hu : P.underlying t = some (.slice e)) (_hg : P.eqGuardType P.depth t = false) (hx : ev n σ x = .slice a l c) (hy : ev n σ y = .slice none 0 0) :
    (execOp (ev n σ) ⟨some d, .binOp .eql t x y yt, ty, pos, aft, g⟩).run P w = .ok (.value (.bool a.isNone)) w := by
  have e3 : (eqGuard .eql t x y (.slice a l c) (.slice none 0 0)).run P w = .ok () w := by simp [eqGuard]
  have e4 : (binOp .eql t (.slice a l c) (.slice none 0 0)).run P w = .ok (.bool a.isNone) w := by
    simp [binOp, run_equal_slice_nil w t e a l c hu]
  simp [execOp, hx, hy, e3, e4]
end
end Go.Proofs.Ytncmcgcilijfkaa
namespace Go.Proofs.Ytncmcgcilijfkaa
open Go
set_option maxRecDepth 100000
open Go.Sort Go.RowKit Go.Maps Go.Shelf in
theorem sortsI (m : Nat) : AnyZI.SortsIn Try.prog Try.sortedA_ren Fence.wide m :=
  ⟨fun blk off cap ss W hH hblk hsz => callsIn_wide.2 (AnyM.slices_Sort_int Try.sortI blk off cap ss W hH hblk hsz),
   fun p cap W => callsIn_wide.2 (AnyM.slices_Sort_int_none Try.sortI p cap W)⟩
/-- numbers, sorted. -/
def sortedI (l : List Int) : List Int := l.mergeSort fun x y => decide (x ≤ y)
def anyR : Value → Option (DataW Unit × List MemPlace) := fun _ => some (.lit (.bool true), [])
section
variable {w0 w : World} {S : List Nat} {L : List Ch}
open Go.Sort Go.RowKit Go.Maps Go.Shelf in
theorem keys_own {M : List (Int × Value × Nat)} {c i b : Nat} (H : Hp w0 w S L) (hi : L[i]? = some (.obj b (mobj kI M c))) (hM : MOk M c) (hk : ∀ x ∈ M, (Lit.int .i64 x.1).wf = true) (hl : M.length ≤ 1048576) :
    ∃ D : DataW Unit, w.ownsMap Try.prog 3 anyR b M.length D ∧ (intKeys D).Perm (M.map (·.1)) ∧ Maps.size D = M.length := by
  have hb : w.heap[b]? = some (.map (M.map (ment kI)).toArray c) := H.has _ (List.mem_of_getElem? hi)
  have hu : Try.prog.underlying 3 = some (.int .i64) := by kernel_rfl
  have hrd : ∀ x ∈ M, WideElems.rd Try.prog 3 anyR (ment kI x) = some (.int .i64 x.1, .lit (.bool true)) := fun x hx => WideElems.rd_mk (key := kI x.1) (val := x.2.1) (born := x.2.2) (yv := (.lit (.bool true), [])) (keyOf_int_mk hu (hk x hx)) rfl
  refine ⟨_, ⟨_, c, hb, ⟨?_, ?_, ?_⟩, ?_, rfl⟩, ?_, ?_⟩
  · simp; exact Nat.le_trans hl (by decide)
  · refine ⟨fun x hx => ?_, ?_, ?_⟩
    · simp only [List.mem_map] at hx
      obtain ⟨y, hy, rfl⟩ := hx
      exact hM.old y hy
    · have := hM.born
      simpa [List.map_map, Function.comp_def, ment] using this
    · have h1 := hM.keys
      simp only [List.map_map, Function.comp_def, ment]
      have : (M.map fun x => kI x.1) = (M.map (·.1)).map kI := by rw [List.map_map]; rfl
      rw [this]
      exact List.pairwise_map.2 (List.Pairwise.imp (fun h e => h (by simpa [kI] using e)) h1)
  · intro x hx
    simp only [List.mem_map] at hx
    obtain ⟨y, hy, rfl⟩ := hx
    exact ⟨_, hrd y hy⟩
  · simp
  · have hp := WideShapes.sorted_perm ((M.map (ment kI)).map (WideElems.rg Try.prog 3 anyR))
    have e : ((M.map (ment kI)).map (WideElems.rg Try.prog 3 anyR)).map (fun p => _root_.Go.intOf p.1) = M.map (·.1) := by
      rw [List.map_map, List.map_map]
      refine List.map_congr_left fun x hx => ?_
      simp only [Function.comp_apply]
      rw [WideElems.rg_of (hrd x hx)]
      rfl
    have := hp.map (fun p => _root_.Go.intOf p.1)
    rw [e] at this
    exact this
  · have hp := WideShapes.sorted_perm ((M.map (ment kI)).map (WideElems.rg Try.prog 3 anyR))
    have := hp.length_eq
    simp only [List.length_map] at this
    exact this
open Go.Sort Go.RowKit Go.Maps Go.Shelf in
theorem mkeys_ret (w : World) (b : Nat) : Ret Try.prog 57 [.map (some b)] w fun v w' => ∃ bb, v = .func (.func 75) #[] #[.pointer (some ⟨bb, 0, none⟩)] ∧ Hp w w' [] [.blk bb [.map (some b)] 84] := by
  have h : Calls Try.prog 57 #[.map (some b)] w fun e w' => e = .returned (.func (.func 75) #[] #[.pointer (some ⟨w.heap.size, 0, none⟩)]) ∧ w' = w.alloc (.cells #[.map (some b)] 84) :=
    (callsIn_wide (n := 5)).1 (AnyZI.keys_in Try.keysA Fence.wide 5 trivial rfl (some b) w)
  refine Calls.mono h fun e w' ⟨he, hw⟩ => ⟨_, he, w.heap.size, rfl, ?_⟩
  rw [hw]
  have := (Hp.refl w []).new _ (.blk w.heap.size [.map (some b)] 84) rfl (heap_alloc_new' w _)
  exact this
open Go.Sort Go.RowKit Go.Maps Go.Shelf in
theorem msorted_ret {M : List (Int × Value × Nat)} {c i j b bb : Nat} (H : Hp w0 w S L) (hi : L[i]? = some (.obj b (mobj kI M c))) (hj : L[j]? = some (.blk bb [.map (some b)] 84)) (hM : MOk M c) (hk : ∀ x ∈ M, (Lit.int .i64 x.1).wf = true) (hl : M.length ≤ 1048576) :
    Ret Try.prog 56 [.func (.func 75) #[] #[.pointer (some ⟨bb, 0, none⟩)]] w fun v w' => ∃ zs a n c', zs.Perm (M.map (·.1)) ∧ n = (sortedI zs).length ∧ v = .slice (hd a) n c' ∧ Hp w0 w' S (L ++ [.own a n c' ((sortedI zs).map VI) 3 1]) := by
  obtain ⟨D, hown, hperm, hsize⟩ := keys_own H hi hM hk hl
  have hbb : w.heap[bb]? = some (.cells #[.map (some b)] 84 (0, 0)) := H.has _ (List.mem_of_getElem? hj)
  have hlt : bb < w.heap.size := (Array.getElem?_eq_some_iff.1 hbb).1
  have hseq : SeqGives Fence.wide 2 Try.prog 75 #[.pointer (some ⟨bb, 0, none⟩)] encZ (fun ss => ss.Perm (intKeys D)) (Maps.size D) w :=
    AnyZI.keys_gives (ρ := Try.keysA_ren) { Try.keysA with } Fence.wide _ trivial rfl (by omega) bb b M.length D w hlt (by simp [World.cell?, hbb]) hown
  have cS := AnyZI.sorted_in Try.sortedA Fence.wide 5 trivial trivial trivial trivial rfl (by omega) (sortsI _) (enters_of Try.func74 (by kernel_rfl) rfl) 75 #[.pointer (some ⟨bb, 0, none⟩)] trivial (enters_of Try.func75 (by kernel_rfl) rfl) _ _ (by rw [hsize]; exact Nat.le_trans hl (by decide)) (by rw [hsize]; omega) _ hseq
  have h : Calls Try.prog 56 #[.func (.func 75) #[] #[.pointer (some ⟨bb, 0, none⟩)]] w _ := (callsIn_wide (n := 5)).1 cS
  refine Calls.mono h fun e w' ⟨v, ss, he, hS, hrow, hnil, hbel⟩ => ?_
  have hlen : (sortedI ss).length = ss.length := List.length_mergeSort _
  have hnew : ∀ (c : Ch) (g : Nat), c.key = some g → w.heap.size ≤ g → c.ok w' → Hp w w' [] [c] := fun c g hk hg hok =>
    ⟨hbel.os, hbel.tape, hbel.output, hbel.size, fun b hlt _ => hbel.block b hlt, (by simpa using hok), (by simp only [List.mem_singleton, forall_eq]; intro b hb; rw [hk] at hb; cases hb; exact .inr hg), (by simp)⟩
  have hb' : Hp w0 w' S L := H.keep1 ⟨hbel.os, hbel.tape, hbel.output, hbel.size, fun b hlt _ => hbel.block b hlt, fun _ h => (by cases h), fun _ h => (by cases h), .nil⟩
  rcases hrow.2 with ⟨rfl, hz⟩ | ⟨gb, cap, cur, rfl, hbase, hgb, r1, r2, r3, r4⟩
  · refine ⟨_, he, ss, none, 0, 0, hS.trans hperm, by omega, rfl, ?_⟩
    have hss : ss = [] := List.eq_nil_of_length_eq_zero hz
    subst hss
    have e0 : sortedI [] = [] := by simp [sortedI]
    rw [e0]
    exact hb'.nilEnd 3 1
  · refine ⟨_, he, ss, some gb, ss.length, cap, hS.trans hperm, hlen.symm, rfl, ?_⟩
    refine H.call (hnew _ gb rfl hbase ⟨by rw [List.length_map, hlen, Nat.mul_one], r1, r2, cur.toList.drop ss.length, ?_, ?_⟩)
    · have e : (sortedI ss).map VI ++ cur.toList.drop ss.length = cur.toList := by
        rw [Nat.mul_one] at r4
        have r4' : cur.toList.take ss.length = (sortedI ss).map VI := r4
        rw [← r4', List.take_append_drop]
      have hgb' : w'.heap[gb]? = some (.cells cur 3 (0, 0)) := hgb
      rw [e]; simpa using hgb'
    · have hl2 : cur.toList.length = cur.size := Array.length_toList ..
      rw [List.length_append, List.length_map, List.length_drop, hlen, hl2, r3, Nat.mul_one]; omega
open Go.Sort Go.RowKit Go.Maps Go.Shelf in
theorem mclone_ret (H : Hp w0 w S L) {M : List (Int × Value × Nat)} {c i b : Nat} (hi : L[i]? = some (.obj b (mobj kI M c))) : Ret Try.prog 69 [.map (some b)] w fun v w' => ∃ nb, v = .map (some nb) ∧ Hp w0 w' S (L ++ [.obj nb (mobj kI M c)]) := by
  have hb : w.heap[b]? = some (.map (M.map (ment kI)).toArray c) := H.has _ (List.mem_of_getElem? hi)
  have h := AnyW.maps_Clone Try.mcloneA b _ c w hb
  refine Calls.mono h fun e w' ⟨he, hw⟩ => ⟨_, he, w.heap.size, rfl, ?_⟩
  rw [hw]
  exact H.new _ (.obj w.heap.size (mobj kI M c)) rfl (heap_alloc_new' w _)
end
end Go.Proofs.Ytncmcgcilijfkaa
namespace Go.Proofs.Ytncmcgcilijfkaa
open Go
set_option maxRecDepth 100000
theorem place_ret (w : World) (k n : Int) (hn : 1 ≤ n) (hm : n ≤ 4611686018427387904) : Ret Try.prog 16 [VI k, VI n] w fun v w' => ∃ m : Nat, v = VI (m : Int) ∧ (m : Int) < n ∧ w' = w := by
  refine ret_mk Try.func16 rfl Try.ntmps16 (by simp) ?_
  have hb := tmod_lt k n (by omega)
  obtain ⟨r, hr⟩ : ∃ r, k.tmod n = r := ⟨_, rfl⟩
  rw [hr] at hb
  repeat refine c_seq ?_
  refine c_region ?_
  refine l_op (o_as ?_)
  first | refine l_end ?_ | refine l_nil ?_
  repeat refine c_seq ?_
  refine c_region ?_
  refine l_op (o_mv ?_)
  refine l_op (o_bin rfl rfl (fun _ => b_lssB false (decide_eq_false (by omega))) ?_)
  first | refine l_end ?_ | refine l_nil ?_
  repeat refine c_seq ?_
  refine c_no rfl ?_
  refine c_skip ?_
  repeat refine c_seq ?_
  refine c_region ?_
  refine l_op (o_mv ?_)
  refine l_op (o_mv ?_)
  refine l_op (o_bin (v := VI r) rfl rfl (fun _ => by rw [← hr]; exact b_remT (by omega)) ?_)
  refine l_op (o_as ?_)
  first | refine l_end ?_ | refine l_nil ?_
  by_cases h0 : r < 0
  · skip
    repeat refine c_seq ?_
    refine c_region ?_
    refine l_op (o_mv ?_)
    refine l_op (o_bin rfl rfl (fun _ => b_lssB true (decide_eq_true h0)) ?_)
    first | refine l_end ?_ | refine l_nil ?_
    repeat refine c_seq ?_
    refine c_yes rfl ?_
    repeat refine c_seq ?_
    refine c_region ?_
    refine l_op (o_mv ?_)
    refine l_op (o_mv ?_)
    refine l_op (o_bin rfl rfl (fun _ => b_add (by omega) (by omega)) ?_)
    refine l_op (o_as ?_)
    first | refine l_end ?_ | refine l_nil ?_
    repeat refine c_seq ?_
    refine c_region ?_
    refine l_op (o_mv ?_)
    refine l_op (o_as ?_)
    first | refine l_end ?_ | refine l_nil ?_
    refine c_ret (e_ret1 (v := VI ((r + n).toNat : Int)) Try.results16 ?_ ⟨_, rfl, (r + n).toNat, rfl, by omega, rfl⟩)
    have e : ((r + n).toNat : Int) = r + n := by omega
    rw [e]; rfl
  · skip
    repeat refine c_seq ?_
    refine c_region ?_
    refine l_op (o_mv ?_)
    refine l_op (o_bin rfl rfl (fun _ => b_lssB false (decide_eq_false h0)) ?_)
    first | refine l_end ?_ | refine l_nil ?_
    repeat refine c_seq ?_
    refine c_no rfl ?_
    refine c_skip ?_
    repeat refine c_seq ?_
    refine c_region ?_
    refine l_op (o_mv ?_)
    refine l_op (o_as ?_)
    first | refine l_end ?_ | refine l_nil ?_
    refine c_ret (e_ret1 (v := VI (r.toNat : Int)) Try.results16 ?_ ⟨_, rfl, r.toNat, rfl, by omega, rfl⟩)
    have e : (r.toNat : Int) = r := by omega
    rw [e]; rfl
end Go.Proofs.Ytncmcgcilijfkaa
