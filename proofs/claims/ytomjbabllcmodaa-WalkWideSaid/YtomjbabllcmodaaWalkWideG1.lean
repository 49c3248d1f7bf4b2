/- Lemmas for the statement WalkWide, part 1: rules of operations, walks through functions, plain laws. -/
import Derived.Below
import Derived.Calls
import Derived.ChangeKeysEq
import Derived.Deep.AppendSrc
import Derived.Deep.MidRow
import Derived.Deep.Slices
import Derived.IntWalk
import Derived.Laws.CopyRow
import Derived.Laws.Cover3
import Derived.Laws.IdiomRangeMap
import Derived.Laws.IdiomStrings
import Derived.Laws.MakeOwn
import Derived.Laws.NewBlocks
import Derived.Laws.StructEq
import Derived.Laws.Tables
import Derived.Maps.RangeRun
import Derived.OpenShut
import Derived.OrdersHeld
import Derived.ProofKit
import Derived.StillTail
import Derived.Test.YtomjbabllcmodaaProg
import Derived.Test.YtomjbabllcmodaaRows
import Derived.WalkKit
import Derived.WideKeyRuns
namespace Go.Proofs.Ytomjbabllcmodaa
open Go
/-- A frame of n slots, as a function of the slot. -/
def mk (n : Nat) (σ : Nat → Value) : Act := ⟨Array.ofFn (n := n) (fun i => σ i.val), []⟩
def up (σ : Nat → Value) (d : Nat) (v : Value) : Nat → Value := fun t => bif Nat.beq t d then v else σ t
def ev (n : Nat) (σ : Nat → Value) : Operand → Value
  | .tmp t => bif Nat.blt t n then σ t else undef
  | .const v => v
  | .global g => .pointer (some ⟨g, 0, none⟩)
  | .func f => .func (.func f) #[] #[]
def evs (n : Nat) (σ : Nat → Value) : List Operand → List Value
  | [] => []
  | x :: l => ev n σ x :: evs n σ l
theorem evs_eq (n σ) : ∀ l : List Operand, evs n σ l = l.map (ev n σ)
  | [] => rfl
  | x :: l => by rw [evs, evs_eq n σ l, List.map_cons]
def pvs (n : Nat) (σ : Nat → Value) : List (Nat × Operand) → List (Nat × Value)
  | [] => []
  | x :: l => (x.1, ev n σ x.2) :: pvs n σ l
theorem pvs_eq (n σ) : ∀ l : List (Nat × Operand), pvs n σ l = l.map fun (i, x) => (i, ev n σ x)
  | [] => rfl
  | x :: l => by rw [pvs, pvs_eq n σ l, List.map_cons]
theorem mk_put (n σ d v) : (mk n σ).put (some d) v = mk n (up σ d v) := by
  simp only [Act.put, mk, Act.mk.injEq, and_true]
  apply Array.ext
  · simp
  · intro i h1 h2
    simp only [Array.getElem_ofFn, up]
    rw [Array.getElem_setIfInBounds]
    · by_cases h : d = i
      · subst h; simp
      · have : Nat.beq i d = false := by
          cases hb : Nat.beq i d
          · rfl
          · exact absurd (Nat.eq_of_beq_eq_true hb).symm h
        rw [if_neg h, this]
        exact Array.getElem_ofFn _
    · simpa using h2
theorem mk_eval (n σ) (x : Operand) : (mk n σ).eval x = ev n σ x := by
  cases x <;> simp only [Act.eval, ev, mk]
  rename_i t
  by_cases h : t < n
  · have : Nat.blt t n = true := by rw [Nat.blt_eq]; exact h
    simp [this, h]
  · have : Nat.blt t n = false := by
      cases hb : Nat.blt t n
      · rfl
      · exact absurd (by rw [Nat.blt_eq] at hb; exact hb) h
    simp [this, h]
theorem mk_evalf (n σ) : (mk n σ).eval = ev n σ := funext (mk_eval n σ)
theorem up_self (σ : Nat → Value) (d : Nat) : up σ d (σ d) = σ := by
  funext t
  simp only [up]
  cases hb : Nat.beq t d
  · rfl
  · rw [Nat.eq_of_beq_eq_true hb]; rfl
theorem up_of (σ : Nat → Value) (d : Nat) (v : Value) (h : σ d = v) : up σ d v = σ := by subst h; exact up_self σ d
/-- several slots at once. -/
def ups (σ : Nat → Value) : List (Nat × Value) → (Nat → Value)
  | [] => σ
  | p :: l => up (ups σ l) p.1 p.2
def fits (σ : Nat → Value) : List (Nat × Value) → Prop
  | [] => True
  | p :: l => σ p.1 = p.2 ∧ fits σ l
theorem ups_of_fits (σ : Nat → Value) : ∀ l, fits σ l → ups σ l = σ
  | [], _ => rfl
  | p :: l, h => by
    rw [ups, ups_of_fits σ l h.2]
    exact up_of _ _ _ h.1
/-- A function's frame at its beginning. -/
theorem enter_mk (args : List Value) (n : Nat) (h : args.length ≤ n) :
    (⟨args.toArray ++ Array.replicate (n - args.toArray.size) undef, []⟩ : Act) = mk n (fun t => args.getD t undef) := by
  simp only [mk, Act.mk.injEq, and_true]
  apply Array.ext
  · simp; omega
  · intro i h1 h2
    simp only [Array.getElem_ofFn]
    by_cases hi : i < args.length
    · rw [Array.getElem_append_left (by simpa using hi)]
      simp [List.getD, hi]
    · rw [Array.getElem_append_right (by simpa using hi)]
      simp [List.getD, List.getElem?_eq_none (Nat.le_of_not_lt hi)]
theorem calls_mk {P : Program} {f : FuncId} {fn : Func} {c : Code} {args : List Value} {w : World} {R : Ending → World → Prop} {n : Nat}
    (hf : P.funcs[f]? = some fn) (hb : fn.body = some c) (hn : fn.ntmps = n) (hle : args.length ≤ n)
    (h : c.wp P (bodyPost P fn R) (mk n (fun t => args.getD t undef)) w) : Calls P f args.toArray w R := by
  refine calls_of_wp hf hb ?_
  rw [hn, enter_mk args n hle]
  exact h
section
variable {P : Program} {Q : Exit → Act → World → Prop} {n : Nat} {σ : Nat → Value} {w : World} {K : Act → World → Prop}
  {ty : TypeId} {pos : String} {aft : Array Edge} {g : Option (Nat × Bool)} {d : Nat}
theorem c_region {id : Nat} {l : List Oper} {a : Act} (h : wpList P l.toArray Q l a w) : (Code.region id l.toArray false).wp P Q a w := wp_region_lit h
theorem c_seq {x y : Code} {a : Act} (h : x.wp P (Exit.then (y.wp P Q) Q) a w) : (Code.seq x y).wp P Q a w := wp_seq h
/-- one operation of a list, not guarded. -/
theorem l_op {ops : Array Oper} {rest : List Oper} {op : Op} {dst : Option Tmp} {a : Act}
    (h : Oper.wp P ⟨dst, op, ty, pos, aft, none⟩ a w (wpList P ops Q rest) Q) : wpList P ops Q (⟨dst, op, ty, pos, aft, none⟩ :: rest) a w := by
  unfold wpList
  rw [if_pos (by simp [Region.wanted])]
  exact .inl h
theorem yielded_mk (ops : Array Oper) (j d : Nat) (h : (ops[j]?).bind (·.dst) = some d) (b : Bool) (hd : Nat.blt d n = true) (hv : σ d = .bool b) :
    yielded ops (mk n σ).tmps j = some b := by
  have hd' : d < n := by rw [Nat.blt_eq] at hd; exact hd
  unfold yielded
  simp [h, mk, hd', hv]
/-- .. guarded, and wanted. -/
theorem l_yes {ops : Array Oper} {rest : List Oper} {op : Op} {dst : Option Tmp} {j e : Nat} {b : Bool}
    (he : (ops[j]?).bind (·.dst) = some e) (hb : Nat.blt e n = true) (hv : σ e = .bool b)
    (h : Oper.wp P ⟨dst, op, ty, pos, aft, some (j, b)⟩ (mk n σ) w (wpList P ops Q rest) Q) : wpList P ops Q (⟨dst, op, ty, pos, aft, some (j, b)⟩ :: rest) (mk n σ) w := by
  have hw := yielded_mk ops j e he b hb hv
  unfold wpList
  rw [if_pos (by simp [Region.wanted, hw])]
  exact .inl h
/-- .. guarded, and not wanted. -/
theorem l_no {ops : Array Oper} {rest : List Oper} {op : Op} {j e : Nat} {b c : Bool}
    (he : (ops[j]?).bind (·.dst) = some e) (hb : Nat.blt e n = true) (hv : σ e = .bool c) (hc : (c == b) = false)
    (h : wpList P ops Q rest (mk n (up σ d undef)) w) : wpList P ops Q (⟨some d, op, ty, pos, aft, some (j, b)⟩ :: rest) (mk n σ) w := by
  have hw := yielded_mk ops j e he c hb hv
  unfold wpList
  rw [if_neg (by simp [Region.wanted, hw]; intro h'; subst h'; simp at hc), mk_put]
  exact h
theorem l_end {ops : Array Oper} {y : Code} {a : Act} (h : y.wp P Q a w) : wpList P ops (Exit.then (y.wp P Q) Q) [] a w := h
theorem l_nil {ops : Array Oper} {a : Act} (h : Q .normal a w) : wpList P ops Q [] a w := h
theorem c_if {c : Operand} {x y : Code} {b : Bool} (hc : ev n σ c = .bool b) (ht : b = true → x.wp P Q (mk n σ) w) (hf : b = false → y.wp P Q (mk n σ) w) :
    (Code.cond c x y).wp P Q (mk n σ) w := wp_cond_split ((mk_eval n σ c).trans hc) ht hf
theorem c_ifD {c : Operand} {x y : Code} {p : Prop} [Decidable p] (hc : ev n σ c = .bool (decide p)) (ht : p → x.wp P Q (mk n σ) w) (hf : ¬ p → y.wp P Q (mk n σ) w) :
    (Code.cond c x y).wp P Q (mk n σ) w := c_if hc (fun h => ht (of_decide_eq_true h)) (fun h => hf (of_decide_eq_false h))
theorem c_yes {c : Operand} {x y : Code} (hc : ev n σ c = .bool true) (ht : x.wp P Q (mk n σ) w) : (Code.cond c x y).wp P Q (mk n σ) w :=
  wp_cond_true ((mk_eval n σ c).trans hc) ht
theorem c_no {c : Operand} {x y : Code} (hc : ev n σ c = .bool false) (ht : y.wp P Q (mk n σ) w) : (Code.cond c x y).wp P Q (mk n σ) w :=
  wp_cond_false ((mk_eval n σ c).trans hc) ht
theorem c_skip {a : Act} (h : Q .normal a w) : Code.skip.wp P Q a w := wp_skip h
theorem c_ret {a : Act} (h : Q .ret a w) : Code.ret.wp P Q a w := wp_ret h
theorem c_exit {id : Nat} {a : Act} (h : Q (.exit id) a w) : (Code.exit id).wp P Q a w := wp_exit h
theorem c_block {id : Nat} {c : Code} {a : Act} (h : c.wp P (Exit.inBlock id Q) a w) : (Code.block id c).wp P Q a w := wp_block h
/-- A cut: of the frame only the listed slots are kept. -/
theorem cut {c : Code} {ι : Type} (pat : ι → List (Nat × Value)) (A : ι → World → Prop) (i : ι) (hp : fits σ (pat i)) (hA : A i w)
    (h : ∀ i τ w, A i w → c.wp P Q (mk n (ups τ (pat i))) w) : c.wp P Q (mk n σ) w := by
  have := h i σ w hA
  rwa [ups_of_fits σ _ hp] at this
/-- a frame of which the listed slots are known, for some i. -/
def Mid {ι : Type} (n : Nat) (pat : ι → List (Nat × Value)) (A : ι → World → Prop) (a : Act) (w : World) : Prop := ∃ i τ, a = mk n (ups τ (pat i)) ∧ A i w
/-- .. and the measure has gone down. -/
def Rnd {ι : Type} (n : Nat) (pat : ι → List (Nat × Value)) (A : ι → World → Prop) (μ : ι → Nat) (m : Nat) (a : Act) (w : World) : Prop := ∃ j τ, a = mk n (ups τ (pat j)) ∧ A j w ∧ μ j < m
theorem least (p : Nat → Prop) : ∀ k, p k → ∃ m, p m ∧ ∀ j, p j → m ≤ j := by
  intro k
  induction k using Nat.strongRecOn with
  | _ k ih =>
    intro hk
    by_cases h : ∃ j, j < k ∧ p j
    · obtain ⟨j, hj, hp⟩ := h; exact ih j hj hp
    · exact ⟨k, hk, fun j hj => Nat.le_of_not_lt fun hlt => h ⟨j, hlt, hj⟩⟩
/-- A loop: what holds of the listed slots and of the world at every head; a measure. -/
theorem c_loop {c : Code} {ι : Type} (pat : ι → List (Nat × Value)) (A : ι → World → Prop) (μ : ι → Nat) (i : ι) (hp : fits σ (pat i)) (hA : A i w)
    (h : ∀ i τ w, A i w → c.wp P (Exit.then (Rnd n pat A μ (μ i)) Q) (mk n (ups τ (pat i))) w) :
    (Code.loop c).wp P Q (mk n σ) w := by
  classical
  let I : Act → World → Prop := fun a w => ∃ i τ, a = mk n (ups τ (pat i)) ∧ A i w
  let p : Act → World → Nat → Prop := fun a w k => ∃ i τ, a = mk n (ups τ (pat i)) ∧ A i w ∧ μ i = k
  have ex : ∀ a w, I a w → ∃ m, p a w m ∧ ∀ k, p a w k → m ≤ k := fun a w ⟨i, τ, h1, h2⟩ => least (p a w) (μ i) ⟨i, τ, h1, h2, rfl⟩
  let M : Act → World → Nat := fun a w => if h : I a w then Classical.choose (ex a w h) else 0
  have hM : ∀ a w, I a w → p a w (M a w) ∧ ∀ k, p a w k → M a w ≤ k := fun a w h => by
    have e : M a w = Classical.choose (ex a w h) := dif_pos h
    rw [e]
    exact Classical.choose_spec (ex a w h)
  refine wp_loop I M ⟨i, σ, by rw [ups_of_fits σ _ hp], hA⟩ ?_; intro a w hI
  obtain ⟨⟨i, τ, rfl, hAi, hμ⟩, _⟩ := hM a w hI
  refine wp_mono (h i τ w hAi) fun e a' w' hq => ?_
  cases e <;> simp only [Exit.then] at hq ⊢
  case normal =>
    obtain ⟨j, τ', rfl, hAj, hlt⟩ := hq
    have hI' : I (mk n (ups τ' (pat j))) w' := ⟨j, τ', rfl, hAj⟩
    exact ⟨hI', Nat.lt_of_le_of_lt ((hM _ _ hI').2 _ ⟨j, τ', rfl, hAj, rfl⟩) (hμ ▸ hlt)⟩
  all_goals exact hq
theorem round_end {ι : Type} {pat : ι → List (Nat × Value)} {A : ι → World → Prop} {μ : ι → Nat} {m : Nat} (j : ι) (hp : fits σ (pat j)) (hA : A j w) (hμ : μ j < m) :
    Rnd n pat A μ m (mk n σ) w := ⟨j, σ, by rw [ups_of_fits σ _ hp], hA, hμ⟩
theorem e_ret0 {fn : Func} {R : Ending → World → Prop} (h : fn.results = #[]) (hR : R (.returned (.tuple #[])) w) : bodyPost P fn R .ret (mk n σ) w :=
  ⟨rfl, _, results_none h _ _ _, hR⟩
theorem e_ret1 {fn : Func} {R : Ending → World → Prop} {t : Tmp} {v : Value} (h : fn.results = #[.tmp t]) (hv : ev n σ (.tmp t) = v) (hR : R (.returned v) w) : bodyPost P fn R .ret (mk n σ) w :=
  ⟨rfl, _, results_tmp h _ _ _, by rw [← hv, ← mk_eval] at hR; exact hR⟩
theorem e_norm {fn : Func} {R : Ending → World → Prop} {a : Act} (h : bodyPost P fn R .ret a w) : bodyPost P fn R .normal a w := h
theorem o_val {op : Op} {v : Value} {w' : World} (hrun : (execOp (ev n σ) ⟨some d, op, ty, pos, aft, g⟩).run P w = .ok (.value v) w')
    (h : K (mk n (up σ d v)) w') : Oper.wp P ⟨some d, op, ty, pos, aft, g⟩ (mk n σ) w K Q := by
  unfold Oper.wp
  rw [mk_evalf, hrun, Oper.upon_value]
  show K ((mk n σ).put (some d) v) w'
  rw [mk_put]
  exact h
theorem o_skip {op : Op} {w' : World} (hrun : (execOp (ev n σ) ⟨none, op, ty, pos, aft, g⟩).run P w = .ok .skip w')
    (h : K (mk n σ) w') : Oper.wp P ⟨none, op, ty, pos, aft, g⟩ (mk n σ) w K Q := by
  unfold Oper.wp
  rw [mk_evalf, hrun, Oper.upon_skip]
  exact h
theorem o_mv {x : Operand} (h : K (mk n (up σ d (ev n σ x))) w) : Oper.wp P ⟨some d, .move x, ty, pos, aft, g⟩ (mk n σ) w K Q :=
  o_val (by simp [execOp]) h
theorem o_as {x : Operand} (h : K (mk n (up σ d (ev n σ x))) w) : Oper.wp P ⟨some d, .assign x, ty, pos, aft, g⟩ (mk n σ) w K Q :=
  o_val (by simp [execOp]) h
/-- A call of a Go function, by its contract. -/
theorem o_call {f : FuncId} {fn : Func} {args : Array Operand} {ats : Array TypeId} {vs : Array Value} (hf : P.funcs[f]? = some fn) (hb : fn.body.isSome = true) (hname : (fn.name == "runtime.NumGoroutine") = false)
    (ha : args.map (ev n σ) = vs)
    (h : Calls P f vs w fun e w' => match e with | .returned v => K (mk n (up σ d v)) w' | _ => False) :
    Oper.wp P ⟨some d, .call ⟨.value (.func f), args, ats⟩, ty, pos, aft, g⟩ (mk n σ) w K Q := by
  unfold Oper.wp
  rw [mk_evalf]
  have hn : fn.body ≠ none := by cases hh : fn.body <;> simp_all
  have hnm : fn.name ≠ "runtime.NumGoroutine" := by intro e; simp [e] at hname
  have : (execOp (ev n σ) ⟨some d, .call ⟨.value (.func f), args, ats⟩, ty, pos, aft, g⟩).run P w = .ok (.enter f vs) w := by
    simp [execOp, resolve, ev, Deferred.ofValue, invoke, callFunc, hf, hnm, hn, ha]
  rw [this, Oper.upon_enter]
  refine h.mono fun e w' he => ?_
  cases e <;> simp only at he ⊢
  rw [mk_put]; exact he
end
theorem mk_defers (n : Nat) (σ : Nat → Value) : (mk n σ).defers = [] := rfl
theorem mk_tmp (n : Nat) (σ : Nat → Value) (t : Nat) : (mk n σ).tmps.getD t undef = ev n σ (.tmp t) := mk_eval n σ (.tmp t)
attribute [irreducible] mk Mid Rnd
end Go.Proofs.Ytomjbabllcmodaa
namespace Go.Proofs.Ytomjbabllcmodaa
open Go
abbrev VI (a : Int) : Value := .int .i64 a
abbrev V8 (x : UInt8) : Value := .int .u8 (x.toNat : Int)
abbrev V32 (x : UInt32) : Value := .int .u32 (x.toNat : Int)
abbrev V64 (x : UInt64) : Value := .int .u64 (x.toNat : Int)
theorem wrap_i64 {n : Int} (h1 : -9223372036854775808 ≤ n) (h2 : n ≤ 9223372036854775807) : IntKind.i64.wrap n = n := by
  exact IntWalk.i64_in n ⟨h1, h2⟩
theorem wrap_uns {k : IntKind} (hk : k.signed = false) (n : Int) : k.wrap n = n % (2 ^ k.bits : Int) := by
  simp [IntKind.wrap, hk]
section
variable {P : Program} {Q : Exit → Act → World → Prop} {n : Nat} {σ : Nat → Value} {w : World} {K : Act → World → Prop}
  {ty : TypeId} {pos : String} {aft : Array Edge} {g : Option (Nat × Bool)} {d : Nat} {t yt : TypeId} {x y : Operand} {op : BinOp}
theorem o_bin {k : IntKind} {a b : Int} {v : Value} (hx : ev n σ x = .int k a) (hy : ev n σ y = .int k b)
    (hr : ∀ w : World, (binOp op t (.int k a) (.int k b)).run P w = .ok v w) (h : K (mk n (up σ d v)) w) :
    Oper.wp P ⟨some d, .binOp op t x y yt, ty, pos, aft, g⟩ (mk n σ) w K Q :=
  o_val (by
    have he : (eqGuard op t x y (.int k a) (.int k b)).run P w = .ok () w := by
      unfold eqGuard
      cases op <;> simp
    simp [execOp, hx, hy, he, hr]) h
end
section
variable {P : Program} {w : World} {t : TypeId}
theorem b_seql (a b : ByteArray) : (Op.stringOp .eql a b).run P w = .ok (.bool (a.toList == b.toList)) w := by simp [Op.stringOp]
theorem b_sneq (a b : ByteArray) : (Op.stringOp .neq a b).run P w = .ok (.bool (!(a.toList == b.toList))) w := by simp [Op.stringOp]
theorem b_add {a b : Int} (h1 : -9223372036854775808 ≤ a + b) (h2 : a + b ≤ 9223372036854775807) : (binOp .add t (VI a) (VI b)).run P w = .ok (VI (a + b)) w := by
  simp [binOp, Op.intArith, wrap_i64 h1 h2]
theorem b_sub {a b : Int} (h1 : -9223372036854775808 ≤ a - b) (h2 : a - b ≤ 9223372036854775807) : (binOp .sub t (VI a) (VI b)).run P w = .ok (VI (a - b)) w := by
  simp [binOp, Op.intArith, wrap_i64 h1 h2]
theorem b_mul {a b : Int} (h1 : -9223372036854775808 ≤ a * b) (h2 : a * b ≤ 9223372036854775807) : (binOp .mul t (VI a) (VI b)).run P w = .ok (VI (a * b)) w := by
  simp [binOp, Op.intArith, wrap_i64 h1 h2]
theorem b_rem {k : IntKind} {a b : Int} (h1 : 0 ≤ a) (h2 : 0 < b) : (binOp .rem t (.int k a) (.int k b)).run P w = .ok (.int k (a % b)) w := by
  simp [binOp, Op.intDiv, Int.ne_of_gt h2, Int.tmod_eq_emod_of_nonneg h1]
theorem b_quo {a b : Int} (h1 : 0 ≤ a) (h2 : 0 < b) (h3 : a ≤ 9223372036854775807) : (binOp .quo t (VI a) (VI b)).run P w = .ok (VI (a / b)) w := by
  have e1 : 0 ≤ a / b := Int.ediv_nonneg h1 (Int.le_of_lt h2)
  have e2 : a / b ≤ a := Int.ediv_le_self _ h1
  simp [binOp, Op.intDiv, Int.ne_of_gt h2, Int.tdiv_eq_ediv_of_nonneg h1, wrap_i64 (n := a / b) (by omega) (by omega)]
theorem b_lss {k : IntKind} {a b : Int} : (binOp .lss t (.int k a) (.int k b)).run P w = .ok (.bool (decide (a < b))) w := by simp [binOp, Op.intCmp]
theorem b_leq {k : IntKind} {a b : Int} : (binOp .leq t (.int k a) (.int k b)).run P w = .ok (.bool (decide (a ≤ b))) w := by simp [binOp, Op.intCmp]
theorem b_gtr {k : IntKind} {a b : Int} : (binOp .gtr t (.int k a) (.int k b)).run P w = .ok (.bool (decide (b < a))) w := by simp [binOp, Op.intCmp]
theorem b_geq {k : IntKind} {a b : Int} : (binOp .geq t (.int k a) (.int k b)).run P w = .ok (.bool (decide (b ≤ a))) w := by simp [binOp, Op.intCmp]
theorem b_eql {k : IntKind} {a b : Int} : (binOp .eql t (.int k a) (.int k b)).run P w = .ok (.bool (decide (a = b))) w := by
  simp [binOp, Op.intCmp]; rfl
theorem b_neq {k : IntKind} {a b : Int} : (binOp .neq t (.int k a) (.int k b)).run P w = .ok (.bool (decide (a ≠ b))) w := by
  simp [binOp, Op.intCmp, bne]; rfl
theorem wrap_u8 (n : Int) : IntKind.u8.wrap n = n % 256 := by rw [wrap_uns rfl]; rfl
theorem u8_lt (x : UInt8) : x.toNat < 256 := x.toNat_lt
theorem bv_u8 (x : UInt8) : BitVec.ofInt 8 (x.toNat : Int) = x.toBitVec := by
  apply BitVec.eq_of_toNat_eq; simp []
theorem bk_u8 (x : UInt8) : IntKind.u8.wrap ((x.toBitVec.toNat : Nat) : Int) = (x.toNat : Int) := by
  have := u8_lt x
  rw [wrap_u8]; simp; omega
theorem b_and_u8 {x y : UInt8} : (binOp .and t (V8 x) (V8 y)).run P w = .ok (V8 (x &&& y)) w := by
  have h := bk_u8 (x &&& y)
  have e : binOp .and t (V8 x) (V8 y) = Sem.pure (.int .u8 (IntKind.u8.wrap ((BitVec.ofInt 8 (x.toNat:Int) &&& BitVec.ofInt 8 (y.toNat:Int)).toNat : Nat))) := rfl
  simp only [UInt8.toBitVec_and] at h
  rw [e, bv_u8, bv_u8, h]; rfl
theorem wrap_u64 (n : Int) : IntKind.u64.wrap n = n % 18446744073709551616 := by rw [wrap_uns rfl]; rfl
theorem u64_lt (x : UInt64) : x.toNat < 18446744073709551616 := x.toNat_lt
theorem b_add_u64 {x y : UInt64} : (binOp .add t (V64 x) (V64 y)).run P w = .ok (V64 (x + y)) w := by
  have : ((x + y).toNat : Int) = (x.toNat + y.toNat : Int) % 18446744073709551616 := by rw [UInt64.toNat_add]; simp
  simp [binOp, Op.intArith, wrap_u64]
theorem b_sub_u64 {x y : UInt64} : (binOp .sub t (V64 x) (V64 y)).run P w = .ok (V64 (x - y)) w := by
  have hx := u64_lt x
  have hy := u64_lt y
  have : ((x - y).toNat : Int) = (x.toNat - y.toNat : Int) % 18446744073709551616 := by rw [UInt64.toNat_sub]; omega
  simp [binOp, Op.intArith, wrap_u64, this]
theorem b_mul_u64 {x y : UInt64} : (binOp .mul t (V64 x) (V64 y)).run P w = .ok (V64 (x * y)) w := by
  have : ((x * y).toNat : Int) = (x.toNat * y.toNat : Int) % 18446744073709551616 := by rw [UInt64.toNat_mul]; simp
  simp [binOp, Op.intArith, wrap_u64]
theorem bv_u64 (x : UInt64) : BitVec.ofInt 64 (x.toNat : Int) = x.toBitVec := by
  apply BitVec.eq_of_toNat_eq; simp []
theorem bk_u64 (x : UInt64) : IntKind.u64.wrap ((x.toBitVec.toNat : Nat) : Int) = (x.toNat : Int) := by
  have := u64_lt x
  rw [wrap_u64]; simp; omega
theorem b_and_u64 {x y : UInt64} : (binOp .and t (V64 x) (V64 y)).run P w = .ok (V64 (x &&& y)) w := by
  have h := bk_u64 (x &&& y)
  have e : binOp .and t (V64 x) (V64 y) = Sem.pure (.int .u64 (IntKind.u64.wrap ((BitVec.ofInt 64 (x.toNat:Int) &&& BitVec.ofInt 64 (y.toNat:Int)).toNat : Nat))) := rfl
  simp only [UInt64.toBitVec_and] at h
  rw [e, bv_u64, bv_u64, h]; rfl
theorem b_or_u64 {x y : UInt64} : (binOp .or t (V64 x) (V64 y)).run P w = .ok (V64 (x ||| y)) w := by
  have h := bk_u64 (x ||| y)
  have e : binOp .or t (V64 x) (V64 y) = Sem.pure (.int .u64 (IntKind.u64.wrap ((BitVec.ofInt 64 (x.toNat:Int) ||| BitVec.ofInt 64 (y.toNat:Int)).toNat : Nat))) := rfl
  simp only [UInt64.toBitVec_or] at h
  rw [e, bv_u64, bv_u64, h]; rfl
theorem b_xor_u64 {x y : UInt64} : (binOp .xor t (V64 x) (V64 y)).run P w = .ok (V64 (x ^^^ y)) w := by
  have h := bk_u64 (x ^^^ y)
  have e : binOp .xor t (V64 x) (V64 y) = Sem.pure (.int .u64 (IntKind.u64.wrap ((BitVec.ofInt 64 (x.toNat:Int) ^^^ BitVec.ofInt 64 (y.toNat:Int)).toNat : Nat))) := rfl
  simp only [UInt64.toBitVec_xor] at h
  rw [e, bv_u64, bv_u64, h]; rfl
theorem b_shl_u64 {x : UInt64} {yk : IntKind} {c : Int} (h0 : 0 ≤ c) (h1 : c < 64) : (Op.shift .shl .u64 (x.toNat : Int) yk c).run P w = .ok (V64 (x <<< UInt64.ofNat c.toNat)) w := by
  obtain ⟨m, rfl⟩ := Int.eq_ofNat_of_zero_le h0
  have hm : m < 64 := by omega
  have e : ((x <<< UInt64.ofNat m).toNat : Int) = ((x.toNat : Int) * 2 ^ m) % 18446744073709551616 := by
    rw [UInt64.toNat_shiftLeft]
    have : (UInt64.ofNat m).toNat % 64 = m := by rw [UInt64.toNat_ofNat']; omega
    rw [this, Nat.shiftLeft_eq]; simp
  have e2 : Op.shift .shl .u64 (x.toNat : Int) yk (m : Int) = Sem.pure (.int .u64 (IntKind.u64.wrap ((x.toNat : Int) * 2 ^ (min (m : Int).toNat 64)))) := by
    unfold Op.shift
    rw [if_neg (by omega)]; rfl
  rw [e2, Int.toNat_natCast, Nat.min_eq_left (Nat.le_of_lt hm), wrap_u64, ← e]; rfl
theorem b_shr_u64 {x : UInt64} {yk : IntKind} {c : Int} (h0 : 0 ≤ c) (h1 : c < 64) : (Op.shift .shr .u64 (x.toNat : Int) yk c).run P w = .ok (V64 (x >>> UInt64.ofNat c.toNat)) w := by
  obtain ⟨m, rfl⟩ := Int.eq_ofNat_of_zero_le h0
  have hm : m < 64 := by omega
  have e : ((x >>> UInt64.ofNat m).toNat : Int) = (x.toNat : Int) / 2 ^ m := by
    rw [UInt64.toNat_shiftRight]
    have : (UInt64.ofNat m).toNat % 64 = m := by rw [UInt64.toNat_ofNat']; omega
    rw [this, Nat.shiftRight_eq_div_pow]; simp
  have e3 : (x.toNat : Int).fdiv (2 ^ m) = (x.toNat : Int) / 2 ^ m := by
    rw [Int.fdiv_eq_ediv_of_nonneg]; exact Int.le_of_lt (Int.pow_pos (by omega))
  have e2 : Op.shift .shr .u64 (x.toNat : Int) yk (m : Int) = Sem.pure (.int .u64 ((x.toNat : Int).fdiv (2 ^ (min (m : Int).toNat 64)))) := by
    unfold Op.shift
    rw [if_neg (by omega)]; rfl
  rw [e2, Int.toNat_natCast, Nat.min_eq_left (Nat.le_of_lt hm), e3, ← e]; rfl
theorem w_i64_8 (x : UInt8) : IntKind.i64.wrap (x.toNat : Int) = (x.toNat : Int) := wrap_i64 (by omega) (by have := u8_lt x; omega)
theorem w_i64_64 {x : UInt64} (h : (x.toNat : Int) ≤ 9223372036854775807) : IntKind.i64.wrap (x.toNat : Int) = (x.toNat : Int) := wrap_i64 (by omega) h
theorem w_u64_8 (x : UInt8) : IntKind.u64.wrap (x.toNat : Int) = (x.toUInt64.toNat : Int) := by
  have := u8_lt x
  rw [wrap_u64, UInt8.toNat_toUInt64]; omega
theorem w_u8_64 (x : UInt64) : IntKind.u8.wrap (x.toNat : Int) = (x.toUInt8.toNat : Int) := by
  rw [wrap_u8, UInt64.toNat_toUInt8]; simp
theorem w_u64_i {a : Int} (h0 : 0 ≤ a) : IntKind.u64.wrap a = ((UInt64.ofNat a.toNat).toNat : Int) := by
  obtain ⟨m, rfl⟩ := Int.eq_ofNat_of_zero_le h0
  rw [wrap_u64, UInt64.toNat_ofNat']; simp
theorem w_u8_i {a : Int} (h0 : 0 ≤ a) : IntKind.u8.wrap a = ((UInt8.ofNat a.toNat).toNat : Int) := by
  obtain ⟨m, rfl⟩ := Int.eq_ofNat_of_zero_le h0
  rw [wrap_u8, UInt8.toNat_ofNat']; simp
end
section
variable {n : Nat} {σ : Nat → Value}
theorem c8 (k : Nat) (h : k < 256) : ev n σ (.const (.int .u8 (k : Int))) = V8 (UInt8.ofNat k) := by
  simp only [ev, V8, UInt8.toNat_ofNat']
  congr 1; omega
theorem c32 (k : Nat) (h : k < 4294967296) : ev n σ (.const (.int .u32 (k : Int))) = V32 (UInt32.ofNat k) := by
  simp only [ev, V32, UInt32.toNat_ofNat']
  congr 1; omega
theorem c64 (k : Nat) (h : k < 18446744073709551616) : ev n σ (.const (.int .u64 (k : Int))) = V64 (UInt64.ofNat k) := by
  simp only [ev, V64, UInt64.toNat_ofNat']
  congr 1; omega
end
end Go.Proofs.Ytomjbabllcmodaa
namespace Go.Proofs.Ytomjbabllcmodaa
open Go
/-- What is known of one block: all its cells; or a slice of the call's own from the block's head on; or another object. -/
inductive Ch where
  | blk (b : Nat) (C : List Value) (T : TypeId)
  | own (a : Option Nat) (len cap : Nat) (xs : List Value) (T : TypeId) (sz : Nat)
  | obj (b : Nat) (o : Obj)
def Ch.key : Ch → Option Nat
  | .blk b _ _ => some b
  | .own a _ _ _ _ _ => a
  | .obj b _ => some b
def Ch.ok (w : World) : Ch → Prop
  | .blk b C T => w.heap[b]? = some (.cells C.toArray T (0, 0))
  | .own none len cap xs _ _ => len = 0 ∧ cap = 0 ∧ xs = []
  | .own (some b) len cap xs T sz => xs.length = len * sz ∧ len ≤ cap ∧ cap ≤ maxLen ∧ ∃ rest, w.heap[b]? = some (.cells (xs ++ rest).toArray T (0, 0)) ∧ (xs ++ rest).length = cap * sz
  | .obj b o => w.heap[b]? = some o
def hd (a : Option Nat) : Option Addr := a.map fun b => ⟨b, 0, none⟩
theorem Ch.ok_of {w w' : World} {c : Ch} (h : c.ok w) (he : ∀ b, c.key = some b → w'.heap[b]? = w.heap[b]?) : c.ok w' := by
  cases c with
  | blk b C T => simp only [Ch.ok] at *; rw [he b rfl]; exact h
  | obj b o => simp only [Ch.ok] at *; rw [he b rfl]; exact h
  | own a len cap xs T sz => cases a with
    | none => exact h
    | some b => simp only [Ch.ok] at *; rw [he b rfl]; exact h
theorem Ch.lt {w : World} {c : Ch} (h : c.ok w) {b : Nat} (hb : c.key = some b) : b < w.heap.size := by
  have aux : ∀ o, w.heap[b]? = some o → b < w.heap.size := fun o ho => (Array.getElem?_eq_some_iff.1 ho).1
  cases c with
  | blk b' C T => cases hb; exact aux _ h
  | obj b' o => cases hb; exact aux _ h
  | own a len cap xs T sz => cases a with
    | none => cases hb
    | some b' => cases hb; obtain ⟨_, _, _, r, h, _⟩ := h; exact aux _ h
/-- w came of w0: of w0's blocks only those of S may have turned; the chunks of L stand. -/
structure Hp (w0 w : World) (S : List Nat) (L : List Ch) : Prop where
  os : w.os = w0.os
  tape : w.tape = w0.tape
  output : w.output = w0.output
  size : w0.heap.size ≤ w.heap.size
  frame : ∀ b, b < w0.heap.size → b ∉ S → w.heap[b]? = w0.heap[b]?
  has : ∀ c ∈ L, c.ok w
  fresh : ∀ c ∈ L, ∀ b, c.key = some b → b ∈ S ∨ w0.heap.size ≤ b
  nd : L.Pairwise fun c e => ∀ b, c.key = some b → e.key ≠ some b
theorem Hp.refl (w : World) (S : List Nat) : Hp w w S [] := ⟨rfl, rfl, rfl, Nat.le_refl _, fun _ _ _ => rfl, (by simp), (by simp), .nil⟩
theorem Hp.start (w : World) (c : Ch) (b : Nat) (h : c.ok w) (hk : c.key = some b) : Hp w w [b] [c] :=
  ⟨rfl, rfl, rfl, Nat.le_refl _, fun _ _ _ => rfl, (by simpa using h), (by simp [hk]), by simp⟩
theorem Hp.drew {w0 w : World} {S L} (h : Hp w0 w S L) : Hp w0 w.drew S L :=
  ⟨h.os, h.tape, h.output, h.size, h.frame, fun c hc => Ch.ok_of (h.has c hc) (fun _ _ => rfl), h.fresh, h.nd⟩
theorem Hp.sub {w0 w : World} {S L L'} (h : Hp w0 w S L) (hs : L'.Sublist L) : Hp w0 w S L' :=
  ⟨h.os, h.tape, h.output, h.size, h.frame, fun c hc => h.has c (hs.subset hc), fun c hc => h.fresh c (hs.subset hc), h.nd.sublist hs⟩
theorem Hp.below {w0 w : World} {L} (h : Hp w0 w [] L) : RowKit.Below w0.heap.size w0 w := ⟨h.os, h.tape, h.output, h.size, fun k hk => h.frame k hk (by simp)⟩
theorem heap_alloc_new' (w : World) (o : Obj) : (w.alloc o).heap[w.heap.size]? = some o := heap_alloc_new w o
theorem heap_alloc_old' (w : World) (o : Obj) (k : Nat) (h : k ≠ w.heap.size) : (w.alloc o).heap[k]? = w.heap[k]? := by
  show (w.heap.push o)[k]? = _
  rw [Array.getElem?_push, if_neg h]
/-- a new block. -/
theorem Hp.new {w0 w : World} {S L} (h : Hp w0 w S L) (o : Obj) (c : Ch) (hk : c.key = some w.heap.size) (hc : c.ok (w.alloc o)) : Hp w0 (w.alloc o) S (L ++ [c]) := by
  refine ⟨h.os, h.tape, h.output, ?_, ?_, ?_, ?_, ?_⟩
  · have := h.size; simp; omega
  · intro b hb hn
    rw [heap_alloc_old' _ _ _ (by have := h.size; omega)]
    exact h.frame b hb hn
  · intro e he
    rcases List.mem_append.1 he with he | he
    · exact Ch.ok_of (h.has e he) fun b hb => heap_alloc_old' _ _ _ (by have := Ch.lt (h.has e he) hb; omega)
    · simp at he; subst he; exact hc
  · intro e he b hb
    rcases List.mem_append.1 he with he | he
    · exact h.fresh e he b hb
    · simp at he; subst he; rw [hk] at hb; cases hb; exact .inr h.size
  · rw [List.pairwise_append]
    refine ⟨h.nd, by simp, fun e he f hf b hb => ?_⟩
    simp at hf; subst hf
    rw [hk]; intro e'; cases e'
    have := Ch.lt (h.has e he) hb; omega
theorem Hp.alloc {w0 w : World} {S L} (h : Hp w0 w S L) (C : List Value) (T : TypeId) : Hp w0 (w.alloc (.cells C.toArray T)) S (L ++ [.blk w.heap.size C T]) :=
  h.new _ _ rfl (heap_alloc_new' w _)
theorem mem_set_cases {α : Type} {L : List α} {i : Nat} {c e : α} (h : e ∈ L.set i c) : e = c ∨ ∃ j, j ≠ i ∧ L[j]? = some e := by
  obtain ⟨j, hj⟩ := List.getElem?_of_mem h
  by_cases hij : i = j
  · subst hij
    rw [List.getElem?_set] at hj
    simp at hj
    exact .inl hj.2.symm
  · rw [List.getElem?_set_ne hij] at hj
    exact .inr ⟨j, Ne.symm hij, hj⟩
theorem pw_ne {L : List Ch} (h : L.Pairwise fun c e => ∀ b, c.key = some b → e.key ≠ some b) {i j : Nat} {c e : Ch} (hi : L[i]? = some c) (hj : L[j]? = some e) (hij : i ≠ j) {b : Nat} (hb : c.key = some b) : e.key ≠ some b := by
  rw [List.pairwise_iff_getElem] at h
  obtain ⟨hi', rfl⟩ := List.getElem?_eq_some_iff.1 hi
  obtain ⟨hj', rfl⟩ := List.getElem?_eq_some_iff.1 hj
  rcases Nat.lt_or_gt_of_ne hij with hlt | hlt
  · exact h i j hi' hj' hlt b hb
  · intro he
    exact h j i hj' hi' hlt b he hb
/-- chunk i turns: the new chunk lies in the old one's block, or in a new one; no other known block turns. -/
theorem Hp.turn {w0 w w' : World} {S L} (h : Hp w0 w S L) {i : Nat} {c c' : Ch} (hi : L[i]? = some c) (hok : c'.ok w') (hk : ∀ b, c'.key = some b → c.key = some b ∨ w.heap.size ≤ b)
    (hos : w'.os = w.os) (htape : w'.tape = w.tape) (hout : w'.output = w.output) (hsize : w.heap.size ≤ w'.heap.size)
    (hother : ∀ b, b < w.heap.size → c.key ≠ some b → w'.heap[b]? = w.heap[b]?) : Hp w0 w' S (L.set i c') := by
  have hmem := List.mem_of_getElem? hi
  refine ⟨hos.trans h.os, htape.trans h.tape, hout.trans h.output, Nat.le_trans h.size hsize, ?_, ?_, ?_, ?_⟩
  · intro b hb hn
    rw [hother b (Nat.lt_of_lt_of_le hb h.size) ?_, h.frame b hb hn]
    intro hc
    rcases h.fresh c hmem b hc with h1 | h1
    · exact hn h1
    · omega
  · intro e he
    rcases mem_set_cases he with rfl | ⟨j, hj, hje⟩
    · exact hok
    · have hm := List.mem_of_getElem? hje
      refine Ch.ok_of (h.has e hm) fun b hb => hother b (Ch.lt (h.has e hm) hb) fun hc => ?_
      exact pw_ne h.nd hi hje (Ne.symm hj) hc hb
  · intro e he b hb
    rcases mem_set_cases he with rfl | ⟨j, hj, hje⟩
    · rcases hk b hb with h1 | h1
      · exact h.fresh c hmem b h1
      · exact .inr (Nat.le_trans h.size h1)
    · exact h.fresh e (List.mem_of_getElem? hje) b hb
  · rw [List.pairwise_iff_getElem]
    intro j k hj hk' hlt b hb
    simp only [List.length_set] at hj hk'
    have key : ∀ m (hm : m < L.length), m ≠ i → (L[m]).key = some b → c'.key ≠ some b := fun m hm hne hb' hc' => by
      have hmok := h.has _ (List.getElem_mem hm)
      rcases hk b hc' with h1 | h1
      · exact pw_ne h.nd hi (List.getElem?_eq_getElem hm) (Ne.symm hne) h1 hb'
      · have := Ch.lt hmok hb'; omega
    rw [List.getElem_set] at hb ⊢
    by_cases h1 : i = j
    · rw [if_pos h1] at hb
      rw [if_neg (by omega)]
      intro he
      exact key k hk' (by omega) he hb
    · rw [if_neg h1] at hb
      by_cases h2 : i = k
      · rw [if_pos h2]; exact key j hj (Ne.symm h1) hb
      · rw [if_neg h2]
        exact (List.pairwise_iff_getElem.1 h.nd) j k hj hk' hlt b hb
/-- a row is laid anew. -/
theorem Hp.row {w0 w : World} {S L} (h : Hp w0 w S L) {i b : Nat} {c c' : Ch} {C C' : List Value} {T : TypeId} (hi : L[i]? = some c) (hk : c.key = some b) (hk' : c'.key = some b)
    (hw : w.heap[b]? = some (.cells C.toArray T (0, 0))) (hok : ∀ w' : World, w'.heap[b]? = some (.cells C'.toArray T (0, 0)) → c'.ok w') : Hp w0 (w.setRow b C'.toArray) S (L.set i c') :=
  h.turn hi (hok _ (setRow_heap w b _ _ T (0, 0) hw)) (fun b' hb' => .inl (by rw [hk] ; rw [hk'] at hb'; exact hb')) rfl rfl rfl (by simp)
    (fun b' _ hne => setRow_other w b b' _ (fun e => hne (by rw [hk, e])))
/-- a call that turns nothing that was there. -/
theorem Hp.call {w0 w w' : World} {S L L'} (h : Hp w0 w S L) (hc : Hp w w' [] L') : Hp w0 w' S (L ++ L') := by
  refine ⟨hc.os.trans h.os, hc.tape.trans h.tape, hc.output.trans h.output, Nat.le_trans h.size hc.size, ?_, ?_, ?_, ?_⟩
  · intro b hb hn
    rw [hc.frame b (Nat.lt_of_lt_of_le hb h.size) (by simp), h.frame b hb hn]
  · intro e he
    rcases List.mem_append.1 he with he | he
    · exact Ch.ok_of (h.has e he) fun b hb => hc.frame b (Ch.lt (h.has e he) hb) (by simp)
    · exact hc.has e he
  · intro e he b hb
    rcases List.mem_append.1 he with he | he
    · exact h.fresh e he b hb
    · rcases hc.fresh e he b hb with h1 | h1
      · simp at h1
      · exact .inr (Nat.le_trans h.size h1)
  · rw [List.pairwise_append]
    refine ⟨h.nd, hc.nd, fun e he f hf b hb hb' => ?_⟩
    rcases hc.fresh f hf b hb' with h1 | h1
    · simp at h1
    · have := Ch.lt (h.has e he) hb; omega
/-- a call that turns chunk i. -/
theorem Hp.callAt {w0 w w' : World} {S L L'} (h : Hp w0 w S L) {i b : Nat} {c c' : Ch} (hi : L[i]? = some c) (hk : c.key = some b) (hk' : c'.key = some b) (hc : Hp w w' [b] (c' :: L')) : Hp w0 w' S (L.set i c' ++ L') := by
  have h1 : Hp w0 w' S (L.set i c') := h.turn hi (hc.has c' (by simp)) (fun b' hb' => .inl (by rw [hk]; rw [hk'] at hb'; exact hb')) hc.os hc.tape hc.output hc.size
    (fun b' hb' hne => hc.frame b' hb' (by simp; intro e; exact hne (by rw [hk, e])))
  have hnd := List.pairwise_cons.1 hc.nd
  refine ⟨h1.os, h1.tape, h1.output, h1.size, h1.frame, ?_, ?_, ?_⟩
  · intro e he
    rcases List.mem_append.1 he with he | he
    · exact h1.has e he
    · exact hc.has e (by simp [he])
  · intro e he b' hb
    rcases List.mem_append.1 he with he | he
    · exact h1.fresh e he b' hb
    · rcases hc.fresh e (by simp [he]) b' hb with h2 | h2
      · simp at h2; subst h2; exact absurd hb (hnd.1 e he _ hk')
      · exact .inr (Nat.le_trans h.size h2)
  · rw [List.pairwise_append]
    refine ⟨h1.nd, hnd.2, fun e he f hf b' hb hb' => ?_⟩
    rcases hc.fresh f (by simp [hf]) b' hb' with h2 | h2
    · simp at h2; subst h2; exact hnd.1 f hf _ hk' hb'
    · rcases mem_set_cases he with rfl | ⟨j, hj, hje⟩
      · rw [hk'] at hb; cases hb; exact hnd.1 f hf _ hk' hb'
      · have := Ch.lt (h.has e (List.mem_of_getElem? hje)) hb; omega
/-- from the slice's beginning on the cells are vs. -/
def RdS (w : World) (a : Option Addr) (vs : List Value) : Prop :=
  vs = [] ∨ ∃ b o C T fr, a = some ⟨b, o, none⟩ ∧ w.heap[b]? = some (.cells C T fr) ∧ ∀ i v, vs[i]? = some v → C[o + i]? = some v
def Apart (a : Option Addr) (S : List Nat) : Prop := ∀ x, a = some x → x.block ∉ S
theorem apart_nil (a : Option Addr) : Apart a [] := fun _ _ => by simp
theorem RdS.of_heap {w w' : World} {a : Option Addr} {vs : List Value} (h : RdS w a vs) (he : ∀ x, a = some x → x.block < w.heap.size → w'.heap[x.block]? = w.heap[x.block]?) : RdS w' a vs := by
  rcases h with h | ⟨b, o, C, T, fr, ha, hb, hc⟩
  · exact .inl h
  · exact .inr ⟨b, o, C, T, fr, ha, by rw [he _ ha (Array.getElem?_eq_some_iff.1 hb).1]; exact hb, hc⟩
theorem Hp.rd {w0 w : World} {S L} (h : Hp w0 w S L) {a : Option Addr} {vs : List Value} (hr : RdS w0 a vs) (hap : Apart a S) : RdS w a vs :=
  hr.of_heap fun x hx hlt => h.frame _ hlt (hap x hx)
theorem RdS.cell {w : World} {a : Option Addr} {vs : List Value} (h : RdS w a vs) {i : Nat} {v : Value} (hv : vs[i]? = some v) : ∃ b o, a = some ⟨b, o, none⟩ ∧ w.cell? ⟨b, o + i, none⟩ = some v := by
  rcases h with rfl | ⟨b, o, C, T, fr, ha, hb, hc⟩
  · simp at hv
  · exact ⟨b, o, ha, by simp [World.cell?, hb, hc i v hv]⟩
theorem RdS.drop {w : World} {a : Option Addr} {vs : List Value} (h : RdS w a vs) (k : Nat) : RdS w (a.map (·.add k)) (vs.drop k) := by
  rcases h with rfl | ⟨b, o, C, T, fr, rfl, hb, hc⟩
  · exact .inl (by simp)
  · refine .inr ⟨b, o + k, C, T, fr, ?_, hb, fun i v hv => ?_⟩
    · simp only [Option.map_some, Addr.add]
      by_cases hk : k = 0
      · subst hk; simp
      · rw [if_neg hk]
    · rw [List.getElem?_drop] at hv
      have := hc (k + i) v hv
      rwa [← Nat.add_assoc] at this
theorem RdS.take {w : World} {a : Option Addr} {vs : List Value} (h : RdS w a vs) (k : Nat) : RdS w a (vs.take k) := by
  rcases h with rfl | ⟨b, o, C, T, fr, rfl, hb, hc⟩
  · exact .inl (by simp)
  · refine .inr ⟨b, o, C, T, fr, rfl, hb, fun i v hv => hc i v ?_⟩
    rw [List.getElem?_take] at hv
    split at hv
    · exact hv
    · cases hv
theorem Ch.rd_own {w : World} {a : Option Nat} {len cap : Nat} {xs : List Value} {T sz} (h : (Ch.own a len cap xs T sz).ok w) : RdS w (hd a) xs := by
  cases a with
  | none => exact .inl h.2.2
  | some b =>
    obtain ⟨_, _, _, rest, hb, _⟩ := h
    refine .inr ⟨b, 0, _, T, (0, 0), rfl, hb, fun i v hv => ?_⟩; have hi : i < xs.length := (List.getElem?_eq_some_iff.1 hv).1
    simp [List.getElem?_append_left hi, hv]
theorem Ch.rd_blk {w : World} {b : Nat} {C : List Value} {T} (h : (Ch.blk b C T).ok w) (o : Nat) : RdS w (some ⟨b, o, none⟩) (C.drop o) :=
  .inr ⟨b, o, _, T, (0, 0), rfl, h, fun i v hv => by simpa [List.getElem?_drop] using hv⟩
theorem Hp.own {w0 w : World} {S L} (h : Hp w0 w S L) {i : Nat} {a : Option Nat} {len cap : Nat} {xs : List Value} {T sz} (hi : L[i]? = some (.own a len cap xs T sz)) : RdS w (hd a) xs :=
  Ch.rd_own (h.has _ (List.mem_of_getElem? hi))
theorem Hp.blk {w0 w : World} {S L} (h : Hp w0 w S L) {i b : Nat} {C : List Value} {T} (hi : L[i]? = some (.blk b C T)) : w.heap[b]? = some (.cells C.toArray T (0, 0)) :=
  h.has _ (List.mem_of_getElem? hi)
def cellTy (P : Program) (t : TypeId) : Bool := match P.underlying t with | some (.struct _) | some (.array _ _) => false | some _ => true | none => false
def rowTy (P : Program) (t : TypeId) : Option Nat := match P.underlying t with | some (.struct _) | some (.array _ _) => (P.info? t).map (·.size) | _ => none
def cellSz (P : Program) (t : TypeId) : Option Nat := (P.info? t).map (·.size)
theorem run_isAgg_cell {P : Program} {t : TypeId} (h : cellTy P t = true) (w : World) : (isAgg t).run P w = .ok false w := by
  unfold cellTy at h
  cases hu : P.underlying t with
  | none => simp [hu] at h
  | some d => cases d <;> simp_all [isAgg, run_underlying hu]
theorem run_isAgg_row {P : Program} {t : TypeId} {k : Nat} (h : rowTy P t = some k) (w : World) : (isAgg t).run P w = .ok true w := by
  unfold rowTy at h
  cases hu : P.underlying t with
  | none => simp [hu] at h
  | some d => cases d <;> simp_all [isAgg, run_underlying hu]
theorem sz_of_row {P : Program} {t : TypeId} {k : Nat} (h : rowTy P t = some k) : cellSz P t = some k := by
  unfold rowTy at h
  cases hu : P.underlying t with
  | none => simp [hu] at h
  | some d => cases d <;> simp_all [cellSz]
theorem run_sizeOf_sz {P : Program} {t : TypeId} {k : Nat} (h : cellSz P t = some k) (w : World) : (sizeOf t).run P w = .ok k w := by
  unfold cellSz at h
  cases hi : P.info? t with
  | none => simp [hi] at h
  | some i => simp [hi] at h; simp [sizeOf, typeInfo, hi, h]
theorem run_loadCells_row {P : Program} {w : World} {b o : Nat} {C : List Value} {T : TypeId} {fr : Nat × Nat} (hb : w.heap[b]? = some (.cells C.toArray T fr)) (k : Nat) (hk : o + k ≤ C.length) :
    ∀ i acc, (loadCellsFrom ⟨b, o, none⟩ i k acc).run P w = .ok (acc ++ ((C.drop (o + i)).take k).toArray) w ∨ k + i + o > C.length := by
  induction k with
  | zero => intro i acc; left; simp [loadCellsFrom]
  | succ k ih =>
    intro i acc
    by_cases hlt : k + 1 + i + o > C.length
    · exact .inr hlt
    · left
      have hcell : w.cell? ((⟨b, o, none⟩ : Addr).add i) = some (C[o + i]'(by omega)) := by
        rw [Addr.add_mid]; simp [World.cell?, hb]
        try rw [List.getElem?_eq_getElem (by omega)]
      rcases ih (by omega) (i + 1) (acc.push (C[o + i]'(by omega))) with h | h
      · simp only [loadCellsFrom, Sem.run_bind, run_load, hcell, Result.andThen_ok, h]
        congr 1
        have e1 : C.drop (o + i) = C[o + i]'(by omega) :: C.drop (o + i + 1) := List.drop_eq_getElem_cons (by omega)
        rw [e1, List.take_succ_cons]
        apply Array.ext'
        simp [Nat.add_assoc]
      · omega
theorem run_loadAt_row {P : Program} {w : World} {b o : Nat} {C : List Value} {T : TypeId} {fr : Nat × Nat} {t : TypeId} {k : Nat} (hb : w.heap[b]? = some (.cells C.toArray T fr)) (ht : rowTy P t = some k) (hk : o + k ≤ C.length) :
    (Instr.loadAt t (.pointer (some ⟨b, o, none⟩))).run P w = .ok (.agg ((C.drop o).take k).toArray) w := by
  have h1 := run_isAgg_row ht w
  have h2 := run_sizeOf_sz (sz_of_row ht) w
  rcases run_loadCells_row (P := P) hb k hk 0 #[] with h | h
  · simp [Instr.loadAt, Instr.sureAddr, loadVar, h1, h2, loadCells, h]
  · omega
theorem run_loadAt_cell {P : Program} {w : World} {a : Addr} {t : TypeId} {v : Value} (ht : cellTy P t = true) (hv : w.cell? a = some v) :
    (Instr.loadAt t (.pointer (some a))).run P w = .ok v w := by
  simp [Instr.loadAt, Instr.sureAddr, loadVar, run_isAgg_cell ht w, hv]
theorem run_storeAt_row {P : Program} {w : World} {b o : Nat} {C : List Value} {T : TypeId} {t : TypeId} {v : Value} (hb : w.heap[b]? = some (.cells C.toArray T (0, 0)))
    (hs : cellSz P t = some v.cells.size) (hk : o + v.cells.size ≤ C.length) (h1 : v.cells.all (·.oneCell') = true) :
    (Instr.storeAt t (.pointer (some ⟨b, o, none⟩)) v).run P w = .ok () (w.setRow b (C.take o ++ v.cells.toList ++ C.drop (o + v.cells.size)).toArray) := by
  have h2 := run_sizeOf_sz hs w
  have h3 := run_storeCells_at (P := P) b o T v.cells.toList 0 C.toArray w hb (by simpa using hk) (fun x hx => by
    rw [Array.mem_toList_iff] at hx
    obtain ⟨i, hi, rfl⟩ := Array.getElem_of_mem hx
    exact (Array.all_eq_true.1 h1) i hi)
  simp only [Nat.add_zero, Array.length_toList] at h3
  simp only [List.append_assoc] at h3 ⊢
  simp [Instr.storeAt, Instr.sureAddr, storeVar, h2, h3]
section
variable {P : Program} {Q : Exit → Act → World → Prop} {n : Nat} {σ : Nat → Value} {w w0 : World} {K : Act → World → Prop}
  {ty : TypeId} {pos : String} {aft : Array Edge} {g : Option (Nat × Bool)} {d : Nat} {t yt : TypeId} {x y : Operand} {S : List Nat} {L : List Ch}
def zeroCells (P : Program) (t : TypeId) : Option (List Value) := (P.info? t).bind fun i => i.zero.map fun v => v.cells.toList
theorem run_zero {C : List Value} (h : zeroCells P t = some C) (w : World) : ∃ z, (zeroValue t).run P w = .ok z w ∧ z.cells = C.toArray := by
  unfold zeroCells at h
  cases hi : P.info? t with
  | none => simp [hi] at h
  | some i =>
    cases hz : i.zero with
    | none => simp [hi, hz] at h
    | some z => simp [hi, hz] at h; exact ⟨z, by simp [zeroValue, typeInfo, hi, hz], by rw [← h]⟩
theorem o_alloc {C : List Value} (H : Hp w0 w S L) (hz : zeroCells P t = some C)
    (h : ∀ b w', Hp w0 w' S (L ++ [.blk b C t]) → w0.heap.size ≤ b → K (mk n (up σ d (.pointer (some ⟨b, 0, none⟩)))) w') :
    Oper.wp P ⟨some d, .alloc t, ty, pos, aft, g⟩ (mk n σ) w K Q := by
  obtain ⟨z, hz1, hz2⟩ := run_zero hz w
  refine o_val (v := .pointer (some ⟨w.heap.size, 0, none⟩)) (w' := w.alloc (.cells C.toArray t)) ?_ (h _ _ (H.alloc C t) H.size)
  simp [execOp, Instr.alloc, hz1, newVar, newRow, hz2]
theorem o_box {v : Value} (H : Hp w0 w S L) (hx : ev n σ x = v)
    (h : ∀ b w', Hp w0 w' S (L ++ [.blk b v.cells.toList t]) → w0.heap.size ≤ b → K (mk n (up σ d (.pointer (some ⟨b, 0, none⟩)))) w') :
    Oper.wp P ⟨some d, .box t x, ty, pos, aft, g⟩ (mk n σ) w K Q := by
  refine o_val (v := .pointer (some ⟨w.heap.size, 0, none⟩)) (w' := w.alloc (.cells v.cells t)) ?_ (h _ _ (by simpa using H.alloc v.cells.toList t) H.size)
  simp [execOp, Instr.box, hx, newVar, newRow]
def fieldOff (P : Program) (t : TypeId) (i : Nat) : Option Nat :=
  match P.underlying t with
  | some (.struct fs) => (fs[i]?).bind fun f => (P.info? f.type).bind fun j => if j.size = 0 then none else some f.offset
  | _ => none
def arrOf (P : Program) (t : TypeId) : Option (Nat × Nat) :=
  match P.underlying t with
  | some (.array len e) => (P.info? e).map fun i => (len, i.size)
  | _ => none
def eltOf (P : Program) (t : TypeId) : Option Nat :=
  match P.underlying t with
  | some (.slice e) => (P.info? e).map fun i => i.size
  | _ => none
/-- an element's address, of an array. -/
theorem o_ia {b o len sz : Nat} {k : IntKind} {i : Int} (hx : ev n σ x = .pointer (some ⟨b, o, none⟩)) (hy : ev n σ y = .int k i) (ha : arrOf P t = some (len, sz)) (h0 : 0 ≤ i) (h1 : i < len)
    (h : K (mk n (up σ d (.pointer (some ⟨b, o + i.toNat * sz, none⟩)))) w) : Oper.wp P ⟨some d, .indexAddr t x y, ty, pos, aft, g⟩ (mk n σ) w K Q := by
  refine o_val ?_ h
  unfold arrOf at ha
  cases hu : P.underlying t with
  | none => simp [hu] at ha
  | some ds =>
    cases ds <;> simp only [hu] at ha <;> try (cases ha)
    rename_i l e
    cases hj : P.info? e with
    | none => simp [hj] at ha
    | some j =>
      simp only [hj, Option.map_some, Option.some.injEq, Prod.mk.injEq] at ha
      obtain ⟨rfl, rfl⟩ := ha
      simp [execOp, hx, hy, Instr.indexAt, run_underlying hu, asIntOf, Instr.sureAddr, h0, h1, sizeOf, typeInfo, hj, Addr.add_mid]
/-- a load of one cell, of a known block. -/
theorem o_ld {b o i : Nat} {C : List Value} {T : TypeId} {v : Value} (H : Hp w0 w S L) (hi : L[i]? = some (.blk b C T)) (hx : ev n σ x = .pointer (some ⟨b, o, none⟩)) (ht : cellTy P t = true) (hv : C[o]? = some v)
    (h : K (mk n (up σ d v)) w) : Oper.wp P ⟨some d, .load t x, ty, pos, aft, g⟩ (mk n σ) w K Q :=
  o_val (by
    have hc : w.cell? ⟨b, o, none⟩ = some v := by simp [World.cell?, H.blk hi, hv]
    simp [execOp, hx, run_loadAt_cell ht hc]) h
/-- .. of a row of cells. -/
theorem o_ldr {b o i k : Nat} {C : List Value} {T : TypeId} (H : Hp w0 w S L) (hi : L[i]? = some (.blk b C T)) (hx : ev n σ x = .pointer (some ⟨b, o, none⟩)) (ht : rowTy P t = some k) (hk : o + k ≤ C.length)
    (h : K (mk n (up σ d (.agg ((C.drop o).take k).toArray))) w) : Oper.wp P ⟨some d, .load t x, ty, pos, aft, g⟩ (mk n σ) w K Q :=
  o_val (by simp [execOp, hx, run_loadAt_row (H.blk hi) ht hk]) h
end
end Go.Proofs.Ytomjbabllcmodaa
namespace Go.Proofs.Ytomjbabllcmodaa
open Go
section
variable {P : Program} {Q : Exit → Act → World → Prop} {n : Nat} {σ : Nat → Value} {w w0 : World} {K : Act → World → Prop}
  {ty : TypeId} {pos : String} {aft : Array Edge} {g : Option (Nat × Bool)} {d : Nat} {t yt : TypeId} {x y z : Operand} {S : List Nat} {L : List Ch}
theorem splice_one (C : List Value) (o : Nat) (v : Value) (h : o < C.length) : C.take o ++ [v] ++ C.drop (o + 1) = C.set o v := by
  apply List.ext_getElem?
  intro i
  rw [List.append_assoc, List.getElem?_set]
  by_cases h1 : i < o
  · rw [List.getElem?_append_left (by simp; omega), List.getElem?_take_of_lt h1, if_neg (by omega)]
  · rw [List.getElem?_append_right (by simp; omega)]
    by_cases h2 : o = i
    · subst h2; simp [h, Nat.min_eq_left (Nat.le_of_lt h)]
    · rw [if_neg h2, List.getElem?_append_right (by simp; omega)]
      simp only [List.length_take, Nat.min_eq_left (Nat.le_of_lt h), List.length_singleton, List.getElem?_drop]
      congr 1; omega
/-- a store of one cell into a known block. -/
theorem o_st {b o i : Nat} {C : List Value} {T : TypeId} {v : Value} (H : Hp w0 w S L) (hi : L[i]? = some (.blk b C T)) (hx : ev n σ x = .pointer (some ⟨b, o, none⟩)) (hy : ev n σ y = v)
    (hs : cellSz P t = some 1) (h1 : v.oneCell' = true) (ho : o < C.length)
    (h : ∀ w', Hp w0 w' S (L.set i (.blk b (C.set o v) T)) → K (mk n σ) w') : Oper.wp P ⟨none, .store t x y, ty, pos, aft, g⟩ (mk n σ) w K Q := by
  have hc : v.cells = #[v] := by cases v <;> simp_all [Value.cells, Value.oneCell']
  have hr := run_storeAt_row (P := P) (t := t) (v := v) (H.blk hi) (o := o) (by rw [hc]; exact hs) (by rw [hc]; simp; omega) (by rw [hc]; simpa using h1)
  rw [hc] at hr
  have e : C.take o ++ (#[v] : Array Value).toList ++ C.drop (o + (#[v] : Array Value).size) = C.set o v := splice_one C o v ho
  rw [e] at hr
  refine o_skip (w' := w.setRow b (C.set o v).toArray) (by simp [execOp, hx, hy, hr]) (h _ ?_); exact H.row hi rfl rfl (H.blk hi) fun w' hw => hw
/-- a store of a row of cells. -/
theorem o_sr {b o i : Nat} {C : List Value} {T : TypeId} {vs : Array Value} (H : Hp w0 w S L) (hi : L[i]? = some (.blk b C T)) (hx : ev n σ x = .pointer (some ⟨b, o, none⟩)) (hy : ev n σ y = .agg vs)
    (hs : cellSz P t = some vs.size) (h1 : vs.all (·.oneCell') = true) (ho : o + vs.size ≤ C.length)
    (h : ∀ w', Hp w0 w' S (L.set i (.blk b (C.take o ++ vs.toList ++ C.drop (o + vs.size)) T)) → K (mk n σ) w') : Oper.wp P ⟨none, .store t x y, ty, pos, aft, g⟩ (mk n σ) w K Q := by
  have hr := run_storeAt_row (P := P) (t := t) (v := .agg vs) (H.blk hi) (o := o) hs ho h1
  refine o_skip (w' := w.setRow b (C.take o ++ vs.toList ++ C.drop (o + vs.size)).toArray) (by simp only [execOp, hx, hy, Sem.run_bind, hr]; simp [Value.cells]) (h _ ?_); exact H.row hi rfl rfl (H.blk hi) fun w' hw => hw
/-- a store of a whole row. -/
theorem o_stw {b i : Nat} {C : List Value} {T : TypeId} {vs : Array Value} (H : Hp w0 w S L) (hi : L[i]? = some (.blk b C T)) (hx : ev n σ x = .pointer (some ⟨b, 0, none⟩)) (hy : ev n σ y = .agg vs)
    (hs : cellSz P t = some vs.size) (h1 : vs.all (·.oneCell') = true) (ho : vs.size = C.length)
    (h : ∀ w', Hp w0 w' S (L.set i (.blk b vs.toList T)) → K (mk n σ) w') : Oper.wp P ⟨none, .store t x y, ty, pos, aft, g⟩ (mk n σ) w K Q := by
  refine o_sr H hi hx hy hs h1 (by omega) fun w' H' => h w' ?_
  simpa [ho] using H'
theorem Hp.conv {i : Nat} {c c' : Ch} (H : Hp w0 w S L) (hi : L[i]? = some c) (hk : c'.key = c.key) (hok : c.ok w → c'.ok w) : Hp w0 w S (L.set i c') :=
  H.turn hi (hok (H.has _ (List.mem_of_getElem? hi))) (fun b hb => .inl (by rw [← hk]; exact hb)) rfl rfl rfl (Nat.le_refl _) (fun _ _ _ => rfl)
/-- a block as a slice of its first elements. -/
theorem Hp.toOwn {i b len cap sz : Nat} {C : List Value} {T : TypeId} (H : Hp w0 w S L) (hi : L[i]? = some (.blk b C T)) (hl : len ≤ cap) (hm : cap ≤ maxLen) (hc : C.length = cap * sz) :
    Hp w0 w S (L.set i (.own (some b) len cap (C.take (len * sz)) T sz)) :=
  H.conv hi rfl fun hok => ⟨by rw [List.length_take, hc]; exact Nat.min_eq_left (Nat.mul_le_mul_right sz hl), hl, hm, C.drop (len * sz), by rw [List.take_append_drop]; exact hok, by rw [List.take_append_drop]; exact hc⟩
def sa (a : Option Addr) (l cap sz : Nat) : Option Addr := if cap = l then a else a.map (·.add (l * sz))
theorem sa_zero (a : Option Addr) (cap sz : Nat) : sa a 0 cap sz = a := by
  unfold sa
  split
  · rfl
  · cases a <;> simp [Addr.add]
theorem sb_l {s : Bool} {len cap : Nat} {k : IntKind} {l : Int} (h0 : 0 ≤ l) (h1 : l ≤ len) (w : World) : (Instr.sliceBounds s len cap (some (.int k l)) none none).run P w = .ok (l.toNat, len, cap) w := by
  simp [Instr.sliceBounds, run_sliceBound, h0, h1]
theorem sb_h {s : Bool} {len cap : Nat} {k : IntKind} {h : Int} (h0 : 0 ≤ h) (h1 : h ≤ cap) (w : World) : (Instr.sliceBounds s len cap none (some (.int k h)) none).run P w = .ok (0, h.toNat, cap) w := by
  simp [Instr.sliceBounds, run_sliceBound, h0, h1]
theorem sb_lh {s : Bool} {len cap : Nat} {k k' : IntKind} {l h : Int} (h0 : 0 ≤ l) (h1 : l ≤ h) (h2 : h ≤ cap) (w : World) : (Instr.sliceBounds s len cap (some (.int k l)) (some (.int k' h)) none).run P w = .ok (l.toNat, h.toNat, cap) w := by
  have eh : (h.toNat : Int) = h := Int.toNat_of_nonneg (by omega)
  simp [Instr.sliceBounds, run_sliceBound, h0, h1, h2, eh, (by omega : 0 ≤ h)]
theorem sb_n {s : Bool} {len cap : Nat} (w : World) : (Instr.sliceBounds s len cap none none none).run P w = .ok (0, len, cap) w := by simp [Instr.sliceBounds]
theorem run_builtin {b : Builtin} {args : Array Operand} {ats : Array TypeId} {s : Sem Value} {v : Value} {w' : World} {dst : Option Tmp} {vs : Array Value}
    (ha : args.map (ev n σ) = vs)
    (hb : ∀ cs, builtin b ats ty cs vs = (do pure (.value (← s)))) (hs : s.run P w = .ok v w') :
    (execOp (ev n σ) ⟨dst, .call ⟨.builtin b, args, ats⟩, ty, pos, aft, g⟩).run P w = .ok (.value v) w' := by
  simp [execOp, resolve, invoke, ha, hb, hs]
structure SlTy (P : Program) (t e : TypeId) (sz bytes : Nat) : Prop where
  und : P.underlying t = some (.slice e)
  row : ∃ i z, P.info? e = some i ∧ i.zero = some z ∧ i.size = sz ∧ i.bytes = bytes ∧ z.cells.size = sz
theorem SlTy.mk' {t e sz bytes : Nat} (h1 : P.underlying t = some (.slice e)) (h2 : ((P.info? e).bind fun i => i.zero.map fun z => (i.size, i.bytes, z.cells.size)) = some (sz, bytes, sz)) : SlTy P t e sz bytes := by
  refine ⟨h1, ?_⟩
  cases hi : P.info? e with
  | none => simp [hi] at h2
  | some i =>
    cases hz : i.zero with
    | none => simp [hi, hz] at h2
    | some z => simp [hi, hz] at h2; exact ⟨i, z, rfl, hz, h2.1, h2.2.1, h2.2.2⟩
theorem RdS.src {sz : Nat} {tx e' : TypeId} {a : Option Addr} {len cap : Nat} {vs : List Value} (hk : P.underlying tx = some (.slice e')) (hr : RdS w a vs) (hl : vs.length = len * sz) (hs : 0 < sz) (h1 : ∀ u ∈ vs, u.oneCell' = true) :
    Src P sz tx (.slice a len cap) len vs w := by
  by_cases h0 : vs = []
  · subst h0
    have : len = 0 := by rcases Nat.mul_eq_zero.1 hl.symm with h | h <;> omega
    subst this
    cases a with
    | none => exact Src.ofNil w hk cap
    | some a => exact Src.ofSlice w hk a 0 cap [] (by simp) (by simp) (by simp)
  · rcases hr with h | ⟨b, o, C, T, fr, rfl, hb, hc⟩
    · exact absurd h h0
    · exact Src.ofSlice w hk _ len cap vs hl (fun j u hj => by rw [Addr.add_mid]; simp [World.cell?, hb, hc j u hj]) h1
theorem slicecap_le {a b by_ : Nat} (h : a * by_ ≤ 140737488355328) (hb : b < a) : Builtin.nextslicecap a b * by_ ≤ 281474976710656 :=
  Nat.le_trans (Nat.mul_le_mul_right _ (nextslicecap_le hb)) (by rw [Nat.mul_assoc]; omega)
/-- append to a slice of the call's own. -/
theorem o_app {i : Nat} {a : Option Nat} {len cap : Nat} {xs : List Value} {e : TypeId} {sz bytes m : Nat} {tx : TypeId} {v : Value} {news : List Value} (H : Hp w0 w S L) (hi : L[i]? = some (.own a len cap xs e sz))
    (hT : SlTy P t e sz bytes) (hx : ev n σ x = .slice (hd a) len cap) (hy : ev n σ y = v) (hsrc : Src P sz tx v m news w) (_hsz : 0 < sz)
    (hlen : len + m ≤ 4611686018427387903) (hbytes : (len + m) * bytes ≤ 140737488355328)
    (h : ∀ a' cap' w', Hp w0 w' S (L.set i (.own a' (len + m) cap' (xs ++ news) e sz)) → K (mk n (up σ d (.slice (hd a') (len + m) cap'))) w') :
    Oper.wp P ⟨some d, .call ⟨.builtin .append, #[x, y], #[t, tx]⟩, ty, pos, aft, g⟩ (mk n σ) w K Q := by
  obtain ⟨inf, zv, hinf, hzv, hsize, hby, hzs⟩ := hT.row
  have hok := H.has _ (List.mem_of_getElem? hi)
  have hargs : (#[x, y] : Array Operand).map (ev n σ) = #[.slice (hd a) len cap, v] := by simp [hx, hy]
  have hxl : xs.length = len * sz := by
    cases a with
    | none => obtain ⟨rfl, rfl, rfl⟩ := hok; simp
    | some b => exact hok.1
  by_cases hroom : len + m ≤ cap
  · cases a with
    | none =>
      obtain ⟨rfl, rfl, rfl⟩ := hok
      have hm : m = 0 := by omega
      subst hm
      have hnews : news = [] := List.length_eq_zero_iff.1 (by rw [hsrc.newsLen]; simp)
      subst hnews
      refine o_val (run_builtin (s := Builtin.append_ #[t, tx] ty #[.slice none 0 0, v]) (vs := #[.slice none 0 0, v]) (v := .slice none 0 0) hargs (fun _ => rfl) ?_) (h none 0 w ?_)
      · rcases hsrc.kind with ⟨e', hk⟩ | hk <;> simp [Builtin.append_, run_underlying hT.und, run_underlying hk, sizeOf, typeInfo, hinf, hsrc.len, hsize, hsrc.cells]
      · have : L.set i (.own none (0 + 0) 0 ([] ++ []) e sz) = L := by
          apply List.ext_getElem?
          intro j
          by_cases hij : i = j
          · subst hij
            have hlt := (List.getElem?_eq_some_iff.1 hi).1
            rw [List.getElem?_set_self hlt, hi]; rfl
          · rw [List.getElem?_set_ne hij]
        rw [this]; exact H
    | some b =>
      obtain ⟨_, hle, hmx, rest, hw, hcap⟩ := hok
      have hrow := run_append_room_src (P := P) w t tx ty e inf hT.und hinf b 0 len cap v m news (by rw [hsize]; exact hsrc) hroom
        (fun j hj => by
          have : 0 + len * inf.size + j < (xs ++ rest).length := by
            rw [hcap, hsize, Nat.zero_add]
            have := hsrc.newsLen
            have h2 : (len + m) * sz ≤ cap * sz := Nat.mul_le_mul_right _ hroom
            rw [Nat.add_mul] at h2; omega
          simp only [World.cell?, hw]
          rw [List.getElem?_toArray, List.getElem?_eq_getElem this]; simp)
        (fun j hj => by simp [World.frozen?, hw])
      have hnl := hsrc.newsLen
      have hfit : len * sz + news.length ≤ (xs ++ rest).length := by
        rw [hcap, hnl, ← Nat.add_mul]; exact Nat.mul_le_mul_right _ hroom
      have hset : w.setCells b (0 + len * inf.size) news = w.setRow b (xs ++ news ++ rest.drop news.length).toArray := by
        have h1 := run_storeCells_at (P := P) b (0 + len * inf.size) e news 0 (xs ++ rest).toArray w hw (by simp only [List.size_toArray]; rw [hsize]; omega) hsrc.one
        have h2 := run_storeCells_cells (P := P) b (0 + len * inf.size) news 0 w
          (fun j hj => by
            have : 0 + len * inf.size + 0 + j < (xs ++ rest).length := by rw [hsize]; omega
            simp only [World.cell?, hw]
            rw [List.getElem?_toArray, List.getElem?_eq_getElem this]; simp)
          (fun j hj => by simp [World.frozen?, hw]) hsrc.one
        rw [h1] at h2
        simp only [Result.ok.injEq, true_and, Nat.add_zero, Nat.zero_add] at h2
        rw [Nat.zero_add, ← h2, hsize]
        congr 2
        rw [show len * sz = xs.length from hxl.symm]
        simp [List.drop_append]
      rw [hset] at hrow
      refine o_val (run_builtin (s := Builtin.append_ #[t, tx] ty #[.slice (some ⟨b, 0, none⟩) len cap, v]) (vs := #[.slice (some ⟨b, 0, none⟩) len cap, v]) hargs (fun _ => rfl) hrow) (h (some b) cap _ ?_); refine H.row hi rfl rfl hw fun w' hw' => ⟨by rw [List.length_append, hxl, hnl, Nat.add_mul], hroom, hmx, rest.drop news.length, hw', ?_⟩
      rw [← hcap]; simp only [List.length_append, List.length_drop]
      simp only [List.length_append] at hfit hcap
      rw [hxl] at *; omega
  · have hfc : (Builtin.firstCells inf.size len (.slice (hd a) len cap)).run P w.drew = .ok xs.toArray w.drew := by
      cases a with
      | none => obtain ⟨rfl, rfl, rfl⟩ := hok; exact run_firstCells_none w.drew inf.size 0 0 0
      | some b =>
        obtain ⟨h1, _, _, rest, hw, _⟩ := hok
        refine run_firstCells_some w.drew inf.size len ⟨b, 0, none⟩ len cap xs (by rw [h1, hsize]) fun j u hj => ?_
        rw [Addr.add_mid, World.cell?_drew]
        have hlt : j < xs.length := (List.getElem?_eq_some_iff.1 hj).1
        simp [World.cell?, hw, List.getElem?_append_left hlt, hj]
    have hrow := run_append_grow_src (P := P) w t tx ty e inf zv hT.und hinf hzv (hd a) len cap xs hfc v m news (by rw [hsize]; exact hsrc) (by omega) (by omega)
      (by rw [hby]; exact slicecap_le hbytes (by omega))
    have hgc := grownCap_ge w (len + m) cap e
    have hgm := grownCap_le_maxLen w (len + m) cap e (by simp [maxLen]; omega)
    generalize hcc : grownCap w (len + m) cap e = cc at *
    refine o_val (run_builtin (s := Builtin.append_ #[t, tx] ty #[.slice (hd a) len cap, v]) (vs := #[.slice (hd a) len cap, v]) hargs (fun _ => rfl) hrow) (h (some w.heap.size) cc _ ?_); have hL : (xs ++ news ++ (Builtin.zeroCells zv.cells (cc - (len + m))).toList).length = cc * sz := by
      simp only [List.length_append, Array.length_toList, size_zeroCells, hzs, hxl, hsrc.newsLen]
      rw [← Nat.add_mul, ← Nat.add_mul]; congr 1; omega
    refine H.drew.turn hi (c' := .own (some w.heap.size) (len + m) cc (xs ++ news) e sz) ⟨by rw [List.length_append, hxl, hsrc.newsLen, Nat.add_mul], hgc, hgm, (Builtin.zeroCells zv.cells (cc - (len + m))).toList, ?_, hL⟩
      (fun b hb => .inr (by cases hb; exact Nat.le_refl _)) rfl rfl rfl (by simp) (fun b hb _ => heap_alloc_old' _ _ _ (by simp at hb ⊢; omega))
    have := heap_alloc_new' w.drew (.cells ((xs ++ news).toArray ++ Builtin.zeroCells zv.cells (cc - (len + m))) e)
    simp only [World.size_drew] at this
    rw [this]
    congr 2
    apply Array.ext'
    simp
end
end Go.Proofs.Ytomjbabllcmodaa
namespace Go.Proofs.Ytomjbabllcmodaa
open Go
section
variable {P : Program} {Q : Exit → Act → World → Prop} {n : Nat} {σ : Nat → Value} {w w0 : World} {K : Act → World → Prop}
  {ty : TypeId} {pos : String} {aft : Array Edge} {g : Option (Nat × Bool)} {d : Nat} {t yt : TypeId} {x y z : Operand} {S : List Nat} {L : List Ch}
/-- 'make([]T, l, c)', elements of one cell. -/
theorem o_make {e : TypeId} {bytes l c : Nat} {k k' : IntKind} {li ci : Int} {zv : Value} (H : Hp w0 w S L) (hT : SlTy P t e 1 bytes) (hz : zeroCells P e = some [zv]) (hx : ev n σ x = .int k li) (hy : ev n σ y = .int k' ci)
    (hl : li = (l : Int)) (hc : ci = (c : Int)) (hlc : l ≤ c) (hb : bytes * c ≤ 281474976710656) (h63 : c ≤ maxLen)
    (h : ∀ b w', Hp w0 w' S (L ++ [.blk b (List.replicate c zv) e]) → w0.heap.size ≤ b → K (mk n (up σ d (.slice (some ⟨b, 0, none⟩) l c))) w') :
    Oper.wp P ⟨some d, .makeSlice t x y, ty, pos, aft, g⟩ (mk n σ) w K Q := by
  obtain ⟨i, z0, hi, hz0, hs, hby, hzs⟩ := hT.row
  subst hl hc
  have hzc : z0.cells.toList = [zv] := by simpa [zeroCells, hi, hz0] using hz
  have hzc' : z0.cells = #[zv] := by apply Array.ext'; simpa using hzc
  have h63' : (c : Int) ≤ 9223372036854775807 := Int.ofNat_le.2 h63
  have hr := run_make (P := P) (w := w) t e i z0 hT.und hi hz0 k k' (l : Int) (c : Int) (by omega) (by omega) (by rw [hby]; exact Int.ofNat_le.2 hb) h63'
  have e1 : madeCells z0.cells ((c : Int).toNat * i.size) = (List.replicate c zv).toArray := by
    rw [hzc', hs, Nat.mul_one, Int.toNat_natCast]
    apply Array.ext'
    exact toList_madeCells_one zv c
  rw [e1] at hr
  refine o_val (by simp only [execOp, hx, hy, Sem.run_bind, hr, Result.andThen_ok, Int.toNat_natCast]; rfl) (h w.heap.size _ (H.alloc _ e) H.size)
theorem run_bsl {e : TypeId} {sz bytes len : Nat} {zs : List Value} {cells : Array Value} (hT : SlTy P t e sz bytes) (hz : zeroCells P e = some zs) (_hs : 0 < sz) (hlen : len * sz ≤ 16777216) (parts : Array (Nat × Value))
    (hf : Instr.fill (fun i => some (i * sz, sz)) ((Array.range (len * sz)).map (zs.toArray[· % zs.toArray.size]!)) parts.toList = some cells) :
    (Instr.buildSlice t len parts).run P w = .ok (.slice (some ⟨w.heap.size, 0, none⟩) len len) (w.alloc (.cells cells e)) := by
  obtain ⟨i, z0, hi, hz0, hsz, hby, hzs⟩ := hT.row
  have hzc : z0.cells = zs.toArray := by
    have : z0.cells.toList = zs := by simpa [zeroCells, hi, hz0] using hz
    apply Array.ext'; simpa using this
  have h1 : (sizeOf e).run P w = .ok sz w := run_sizeOf_sz (by simp [cellSz, hi, hsz]) w
  have h2 : (zeroValue e).run P w = .ok z0 w := by simp [zeroValue, typeInfo, hi, hz0]
  have hn : ¬ (len * sz > 2 ^ 24) := by omega
  have fin : ∀ zz : Array Value, Instr.fill (fun i => some (i * sz, sz)) ((Array.range (len * sz)).map (zz[· % zz.size]!)) parts.toList = some cells →
      (match Instr.fill (fun i => some (i * sz, sz)) ((Array.range (len * sz)).map (zz[· % zz.size]!)) parts.toList with
        | some cells => (do pure (.slice (some (← newRow e cells)) len len) : Sem Value)
        | _ => stuck "buildSlice: a part of the wrong size").run P w = .ok (.slice (some ⟨w.heap.size, 0, none⟩) len len) (w.alloc (.cells cells e)) := by
    intro zz hzz
    rw [hzz]
    simp [newRow]
  unfold Instr.buildSlice
  rw [Sem.run_bind, run_underlying hT.und]
  simp only [Result.andThen_ok]
  rw [Sem.run_bind, h1]
  simp only [Result.andThen_ok]
  rw [if_neg hn]
  by_cases h0 : len * sz = 0
  · have e1 : ∀ zz : Array Value, (Array.range (len * sz)).map (zz[· % zz.size]!) = #[] := fun zz => by
      rw [h0]; apply Array.ext'; simp
    rw [if_pos h0, Sem.run_bind, Sem.run_pure]
    simp only [Result.andThen_ok]
    exact fin #[] (by rw [e1, ← e1 zs.toArray]; exact hf)
  · rw [if_neg h0, Sem.run_bind, h2]
    simp only [Result.andThen_ok]
    rw [Sem.run_bind, Sem.run_pure]
    simp only [Result.andThen_ok]
    exact fin z0.cells (by rw [hzc]; exact hf)
/-- a slice literal. -/
theorem o_bsl {e : TypeId} {sz bytes len : Nat} {parts : Array (Nat × Operand)} {zs : List Value} {pv : List (Nat × Value)} {cells : Array Value} (H : Hp w0 w S L) (hT : SlTy P t e sz bytes) (hz : zeroCells P e = some zs) (hs : 0 < sz)
    (hp0 : pvs n σ parts.toList = pv) (hlen : len * sz ≤ 16777216)
    (hf : Instr.fill (fun i => some (i * sz, sz)) ((Array.range (len * sz)).map (zs.toArray[· % zs.toArray.size]!)) pv = some cells)
    (h : ∀ b w', Hp w0 w' S (L ++ [.blk b cells.toList e]) → w0.heap.size ≤ b → K (mk n (up σ d (.slice (some ⟨b, 0, none⟩) len len))) w') :
    Oper.wp P ⟨some d, .buildSlice t len parts, ty, pos, aft, g⟩ (mk n σ) w K Q := by
  have hp : (parts.map fun (i, x) => (i, ev n σ x)).toList = pv := by rw [← hp0, pvs_eq, Array.toList_map]
  refine o_val (v := .slice (some ⟨w.heap.size, 0, none⟩) len len) (w' := w.alloc (.cells cells e)) ?_ (h _ _ (by simpa using H.alloc cells.toList e) H.size); have hr := run_bsl (P := P) (w := w) hT hz hs hlen (parts.map fun (i, x) => (i, ev n σ x)) (by rw [hp]; exact hf)
  simp only [execOp, Sem.run_bind, hr, Result.andThen_ok]
  rfl
/-- an array or struct literal. -/
theorem o_bld {parts : Array (Nat × Operand)} {pv : List (Nat × Value)} {cells : Array Value}
    (hp0 : pvs n σ parts.toList = pv) (hf : P.built t pv = some cells)
    (h : K (mk n (up σ d (.agg cells))) w) : Oper.wp P ⟨some d, .build t parts, ty, pos, aft, g⟩ (mk n σ) w K Q := by
  refine o_val ?_ h; have hp : (parts.map fun (i, x) => (i, ev n σ x)).toList = pv := by rw [← hp0, pvs_eq, Array.toList_map]
  have := run_build (P := P) w t (parts.map fun (i, x) => (i, ev n σ x)) cells (by rw [hp]; exact hf)
  simp only [execOp, Sem.run_bind, this]
  simp
/-- how a type is built: its zero, and where its parts lie. -/
structure Bld (P : Program) (t : TypeId) (zs : Array Value) (places : Nat → Option (Nat × Nat)) : Prop where
  eq : ∀ parts, P.built t parts = Instr.fill places zs parts
theorem Bld.arr {t : TypeId} {len sz : Nat} {zs : List Value} (h1 : arrOf P t = some (len, sz)) (h2 : zeroCells P t = some zs) : Bld P t zs.toArray fun i => some (i * sz, sz) := by
  constructor
  intro parts
  unfold arrOf at h1
  cases hu : P.underlying t with
  | none => simp [hu] at h1
  | some ds =>
    cases ds <;> simp only [hu] at h1 <;> try (cases h1)
    rename_i l e
    cases hj : P.info? e with
    | none => simp [hj] at h1
    | some j =>
      simp only [hj, Option.map_some, Option.some.injEq, Prod.mk.injEq] at h1
      obtain ⟨rfl, rfl⟩ := h1
      unfold zeroCells at h2
      cases hi : P.info? t with
      | none => simp [hi] at h2
      | some i =>
        cases hz : i.zero with
        | none => simp [hi, hz] at h2
        | some z =>
          simp [hi, hz] at h2
          have : z.cells = zs.toArray := by apply Array.ext'; simpa using h2
          simp only [Program.built, hi, hu, hz, hj, this]
def placesOf (P : Program) (t : TypeId) : Option (Array (Nat × Nat)) :=
  match P.underlying t with
  | some (.struct fs) => (fs.toList.mapM fun f => (P.info? f.type).map fun i => (f.offset, i.size)).map (·.toArray)
  | _ => none
theorem Bld.str {t : TypeId} {pl : Array (Nat × Nat)} {zs : List Value} (h1 : placesOf P t = some pl) (h2 : zeroCells P t = some zs) : Bld P t zs.toArray fun i => pl[i]? := by
  constructor
  intro parts
  unfold placesOf at h1
  cases hu : P.underlying t with
  | none => simp [hu] at h1
  | some ds =>
    cases ds <;> simp only [hu] at h1 <;> try (cases h1)
    rename_i fs
    cases hm : fs.toList.mapM (fun f => (P.info? f.type).map fun i => (f.offset, i.size)) with
    | none => simp [hm] at h1
    | some places =>
      simp only [hm, Option.map_some, Option.some.injEq] at h1
      subst h1
      unfold zeroCells at h2
      cases hi : P.info? t with
      | none => simp [hi] at h2
      | some i =>
        cases hz : i.zero with
        | none => simp [hi, hz] at h2
        | some z =>
          simp [hi, hz] at h2
          have : z.cells = zs.toArray := by apply Array.ext'; simpa using h2
          simp only [Program.built, hi, hu, hz, hm, this]
theorem o_bld' {parts : Array (Nat × Operand)} {zs : Array Value} {places : Nat → Option (Nat × Nat)} {pv : List (Nat × Value)} {cells : Array Value} (hB : Bld P t zs places)
    (hp0 : pvs n σ parts.toList = pv) (hf : Instr.fill places zs pv = some cells)
    (h : K (mk n (up σ d (.agg cells))) w) : Oper.wp P ⟨some d, .build t parts, ty, pos, aft, g⟩ (mk n σ) w K Q :=
  o_bld hp0 (by rw [hB.eq]; exact hf) h
def en : Nat → List Value → List (Nat × Value)
  | _, [] => []
  | i, v :: l => (i, v) :: en (i + 1) l
theorem fill_en_aux : ∀ (vs A : List Value) (B : List Value), (∀ v ∈ vs, v.oneCell' = true) → vs.length = B.length → Instr.fill (fun i => some (i * 1, 1)) (A ++ B).toArray (en A.length vs) = some (A ++ vs).toArray
  | [], A, B, _, hl => by
    have : B = [] := List.length_eq_zero_iff.1 (by simpa using hl.symm)
    subst this; simp [en, Instr.fill]
  | v :: vs, A, [], _, hl => by simp at hl
  | v :: vs, A, b :: B, h1, hl => by
    have hv := h1 v (by simp)
    have hc : v.cells = #[v] := by cases v <;> simp_all [Value.cells, Value.oneCell']
    have ih := fill_en_aux vs (A ++ [v]) B (fun u hu => h1 u (by simp [hu])) (by simpa using hl)
    simp only [List.length_append, List.length_singleton, List.append_assoc, List.singleton_append] at ih
    simp only [en, Instr.fill, hc, Nat.mul_one]
    rw [if_neg (by simp)]
    have e : (#[v] : Array Value).zipIdx = #[(v, 0)] := by simp [Array.zipIdx]
    rw [← ih]
    congr 1
    · funext i; rw [Nat.mul_one]
    · rw [e]
      apply Array.ext'
      simp []
theorem fill_en {zs : List Value} (vs : List Value) (h1 : vs.toArray.all (·.oneCell') = true) (hl : vs.length = zs.length) : Instr.fill (fun i => some (i * 1, 1)) zs.toArray (en 0 vs) = some vs.toArray := by
  have := fill_en_aux vs [] zs (by rw [List.all_toArray] at h1; simpa using h1) hl
  simpa using this
theorem o_s2b {e : TypeId} {s : ByteArray} (H : Hp w0 w S L) (hs : P.underlying t = some .string) (hd : P.underlying yt = some (.slice e)) (he : P.underlying e = some (.int .u8)) (hx : ev n σ x = .string s)
    (h : ∀ b cap ob w', Hp w0 w' S (L ++ [.obj b ob]) → w0.heap.size ≤ b → (∀ w'' : World, w''.heap[b]? = some ob → RdS w'' (some ⟨b, 0, none⟩) (s.data.toList.map V8)) → s.size ≤ cap → K (mk n (up σ d (.slice (some ⟨b, 0, none⟩) s.size cap))) w') :
    Oper.wp P ⟨some d, .convert t yt x, ty, pos, aft, g⟩ (mk n σ) w K Q := by
  have hr := run_bytes_of_string (P := P) w t yt e s hs hd he
  refine o_val (by simp only [execOp, Sem.run_bind, hx, hr, Result.andThen_ok]; rfl)
    (h w.heap.size _ _ _ (H.drew.new _ (.obj w.heap.size (.cells (bytesRow s (grownCap w s.size 0 e)) e ((bytesRow s (grownCap w s.size 0 e)).size, (bytesRow s (grownCap w s.size 0 e)).size + 1))) rfl (heap_alloc_new' w.drew _)) H.size ?_ (grownCap_ge w s.size 0 e))
  intro w'' hw
  refine .inr ⟨_, 0, _, _, _, rfl, hw, fun i v hv => ?_⟩
  rw [List.getElem?_map] at hv
  obtain ⟨u, hu, rfl⟩ := Option.map_eq_some_iff.1 hv
  have hlt := (List.getElem?_eq_some_iff.1 hu).1
  rw [Array.length_toList] at hlt
  rw [Nat.zero_add, bytesRow_at s _ i hlt]
  have : s.data.toList[i]? = some s.data[i] := by simp []
  rw [this] at hu; cases hu; rfl
theorem eqItems_u8 {e : TypeId} (he : P.underlying e = some (.int .u8)) (dd : Nat) (a b : List UInt8) (hab : a.length = b.length) (w : World) :
    ∀ is : List Nat, (∀ i ∈ is, i < a.length) → (Op.eqItems (dd + 1) e 1 (a.map V8).toArray (b.map V8).toArray is).run P w = .ok (is.all fun i => a[i]? == b[i]?) w := by
  intro is
  induction is with
  | nil => intro _; simp [Op.eqItems]
  | cons i is ih =>
    intro h
    have hi := h i (by simp)
    have hca : (part e (a.map V8).toArray (i * 1)).run P w = .ok (V8 (a[i]'hi)) w := by
      have hct : cellTy P e = true := by simp [cellTy, he]
      simp [part, run_isAgg_cell hct, hi]
    have hcb : (part e (b.map V8).toArray (i * 1)).run P w = .ok (V8 (b[i]'(by omega))) w := by
      have hct : cellTy P e = true := by simp [cellTy, he]
      simp [part, run_isAgg_cell hct, show i < b.length by omega]
    have heq : (Op.equalIn (dd + 1) e (V8 (a[i]'hi)) (V8 (b[i]'(by omega)))).run P w = .ok (a[i]'hi == b[i]'(by omega)) w := by
      simp only [Op.equalIn, Sem.run_bind, run_underlying he, Result.andThen_ok]
      simp
      rw [Bool.eq_iff_iff]; simp only [beq_iff_eq]
      rw [← UInt8.toNat_inj]; omega
    have h2 := ih (fun j hj => h j (by simp [hj]))
    simp only [Op.eqItems, Sem.run_bind, hca, hcb, heq, Result.andThen_ok]
    rw [List.all_cons, List.getElem?_eq_getElem hi, List.getElem?_eq_getElem (by omega : i < b.length)]
    by_cases hh : a[i]'hi = b[i]'(by omega)
    · simp [hh, h2]
    · simp [hh]
theorem e_retc {fn : Func} {R : Ending → World → Prop} {tt : Tmp} {rt : TypeId} {b i k : Nat} {C : List Value} {T : TypeId} (hres : fn.results = #[.cell tt rt]) (H : Hp w0 w S L) (hi : L[i]? = some (.blk b C T)) (hv : ev n σ (.tmp tt) = .pointer (some ⟨b, 0, none⟩)) (hr : rowTy P rt = some k) (hk : k = C.length)
    (hR : R (.returned (.agg C.toArray)) w) : bodyPost P fn R .ret (mk n σ) w := by
  refine ⟨mk_defers n σ, .agg C.toArray, ?_, hR⟩
  have h1 := run_loadAt_row (P := P) (o := 0) (H.blk hi) hr (by omega)
  simp only [Instr.loadAt, Instr.sureAddr, Sem.run_bind, Sem.run_pure, Result.andThen_ok] at h1
  have h2 : (mk n σ).tmps.getD tt undef = .pointer (some ⟨b, 0, none⟩) := by rw [← hv, ← mk_tmp]
  have h3 : C.toArray = ((C.drop 0).take k).toArray := by simp [hk]
  rw [h3]
  simp only [results, hres]
  simp only [mk] at h2 ⊢
  simp [Array.mapM_eq_foldlM, asAddr]
  rw [← Array.getD_eq_getD_getElem?, h2]
  simp [h1]
theorem wp_held {id : Nat} {l : List Oper} {a : Act} (S' : World → Prop) (hm : P.follows .mixedOrders = true)
    (h : wpAnyH P .any l.toArray Q S' l.length (Array.replicate l.length false) a w.drew) : (Code.region id l.toArray true).wp P Q a w :=
  wp_region_held hm (by simpa using h)
end
end Go.Proofs.Ytomjbabllcmodaa
namespace Go.Proofs.Ytomjbabllcmodaa
open Go
section
variable {P : Program} {Q : Exit → Act → World → Prop} {n : Nat} {σ : Nat → Value} {w w0 : World} {K : Act → World → Prop}
  {ty : TypeId} {pos : String} {aft : Array Edge} {g : Option (Nat × Bool)} {d : Nat} {t yt : TypeId} {x y z : Operand} {S : List Nat} {L : List Ch} {op : BinOp}
theorem r_mv {x : Operand}  :
    (execOp (ev n σ) ⟨some d, .move x, ty, pos, aft, g⟩).run P w = .ok (.value ((ev n σ x))) w :=
  (by simp [execOp])
theorem r_as {x : Operand}  :
    (execOp (ev n σ) ⟨some d, .assign x, ty, pos, aft, g⟩).run P w = .ok (.value ((ev n σ x))) w :=
  (by simp [execOp])
theorem r_pick {c x y : Operand} {b : Bool} (hc : ev n σ c = .bool b)  :
    (execOp (ev n σ) ⟨some d, .pick c x y, ty, pos, aft, g⟩).run P w = .ok (.value ((bif b then ev n σ x else ev n σ y))) w :=
  (by cases b <;> simp [execOp, hc, asBool])
theorem r_ext {x : Operand} {i : Nat} {vs : Array Value} {v : Value} (hx : ev n σ x = .tuple vs) (hv : vs[i]? = some v)  :
    (execOp (ev n σ) ⟨some d, .extract x i, ty, pos, aft, g⟩).run P w = .ok (.value (v)) w :=
  (by simp [execOp, hx, Instr.extract, hv])
theorem r_nilc {x : Operand} {a : Addr} (hx : ev n σ x = .pointer (some a))  :
    (execOp (ev n σ) ⟨some d, .nilCheck x, ty, pos, aft, g⟩).run P w = .ok (.value ((.pointer (some a)))) w :=
  (by simp [execOp, hx])
theorem r_not {x : Operand} {b : Bool} {t : TypeId} (hx : ev n σ x = .bool b)  :
    (execOp (ev n σ) ⟨some d, .unOp .not t x, ty, pos, aft, g⟩).run P w = .ok (.value ((.bool (!b)))) w :=
  (by simp [execOp, hx, Op.unary])
theorem r_bin {k : IntKind} {a b : Int} {v : Value} (hx : ev n σ x = .int k a) (hy : ev n σ y = .int k b)
    (hr : ∀ w : World, (binOp op t (.int k a) (.int k b)).run P w = .ok v w)  :
    (execOp (ev n σ) ⟨some d, .binOp op t x y yt, ty, pos, aft, g⟩).run P w = .ok (.value (v)) w :=
  (by
    have he : (eqGuard op t x y (.int k a) (.int k b)).run P w = .ok () w := by
      unfold eqGuard
      cases op <;> simp
    simp [execOp, hx, hy, he, hr])
theorem r_shift {k yk : IntKind} {a b : Int} {v : Value} (hx : ev n σ x = .int k a) (hy : ev n σ y = .int yk b) (ho : op = .shl ∨ op = .shr)
    (hr : ∀ w : World, (Op.shift op k a yk b).run P w = .ok v w)  :
    (execOp (ev n σ) ⟨some d, .binOp op t x y yt, ty, pos, aft, g⟩).run P w = .ok (.value (v)) w :=
  (by
    rcases ho with rfl | rfl <;> simp [execOp, hx, hy, eqGuard, binOp, hr])
theorem r_conv {k : IntKind} {a : Int} {ds : TypeDesc} {k' : IntKind} {v : Int} (hs : P.underlying t = some ds) (hd : P.underlying yt = some (.int k')) (hx : ev n σ x = .int k a)
    (hr : k'.wrap a = v)  :
    (execOp (ev n σ) ⟨some d, .convert t yt x, ty, pos, aft, g⟩).run P w = .ok (.value ((.int k' v))) w :=
  (by
    have h1 : (underlying t).run P w = .ok ds w := run_underlying hs w
    have h2 : (underlying yt).run P w = .ok (.int k') w := run_underlying hd w
    cases ds <;> simp [execOp, hx, convert, h1, h2, Conv.intToInt, hr])
theorem r_str {a b : ByteArray} {v : Value} (hx : ev n σ x = .string a) (hy : ev n σ y = .string b)
    (hr : ∀ w : World, (Op.stringOp op a b).run P w = .ok v w) (ho : op ≠ .shl ∧ op ≠ .shr)  :
    (execOp (ev n σ) ⟨some d, .binOp op t x y yt, ty, pos, aft, g⟩).run P w = .ok (.value (v)) w :=
  (by
    have he : (eqGuard op t x y (.string a) (.string b)).run P w = .ok () w := by
      unfold eqGuard
      cases op <;> simp
    cases op <;> simp_all [execOp, binOp])
theorem r_fa {b o i k : Nat} (hx : ev n σ x = .pointer (some ⟨b, o, none⟩)) (hf : fieldOff P t i = some k)  :
    (execOp (ev n σ) ⟨some d, .fieldAddr t x i, ty, pos, aft, g⟩).run P w = .ok (.value ((.pointer (some ⟨b, o + k, none⟩)))) w := by
  unfold fieldOff at hf
  cases hu : P.underlying t with
  | none => simp [hu] at hf
  | some ds =>
    cases ds <;> simp only [hu] at hf <;> try (cases hf)
    rename_i fs
    cases hfs : fs[i]? with
    | none => simp [hfs] at hf
    | some f =>
      cases hj : P.info? f.type with
      | none => simp [hfs, hj] at hf
      | some j =>
        simp only [hfs, hj, Option.bind_some] at hf
        split at hf
        · cases hf
        · cases hf
          rename_i hsz
          simp [execOp, hx, Instr.fieldAt, run_underlying hu, hfs, Instr.sureAddr, fieldPlace, sizeOf, typeInfo, hj, hsz, Addr.add_mid]
theorem r_ia {b o len sz : Nat} {k : IntKind} {i : Int} (hx : ev n σ x = .pointer (some ⟨b, o, none⟩)) (hy : ev n σ y = .int k i) (ha : arrOf P t = some (len, sz)) (h0 : 0 ≤ i) (h1 : i < len)  :
    (execOp (ev n σ) ⟨some d, .indexAddr t x y, ty, pos, aft, g⟩).run P w = .ok (.value ((.pointer (some ⟨b, o + i.toNat * sz, none⟩)))) w := by
  unfold arrOf at ha
  cases hu : P.underlying t with
  | none => simp [hu] at ha
  | some ds =>
    cases ds <;> simp only [hu] at ha <;> try (cases ha)
    rename_i l e
    cases hj : P.info? e with
    | none => simp [hj] at ha
    | some j =>
      simp only [hj, Option.map_some, Option.some.injEq, Prod.mk.injEq] at ha
      obtain ⟨rfl, rfl⟩ := ha
      simp [execOp, hx, hy, Instr.indexAt, run_underlying hu, asIntOf, Instr.sureAddr, h0, h1, sizeOf, typeInfo, hj, Addr.add_mid]
theorem r_ld {b o i : Nat} {C : List Value} {T : TypeId} {v : Value} (H : Hp w0 w S L) (hi : L[i]? = some (.blk b C T)) (hx : ev n σ x = .pointer (some ⟨b, o, none⟩)) (ht : cellTy P t = true) (hv : C[o]? = some v)  :
    (execOp (ev n σ) ⟨some d, .load t x, ty, pos, aft, g⟩).run P w = .ok (.value (v)) w :=
  (by
    have hc : w.cell? ⟨b, o, none⟩ = some v := by simp [World.cell?, H.blk hi, hv]
    simp [execOp, hx, run_loadAt_cell ht hc])
theorem r_ldr {b o i k : Nat} {C : List Value} {T : TypeId} (H : Hp w0 w S L) (hi : L[i]? = some (.blk b C T)) (hx : ev n σ x = .pointer (some ⟨b, o, none⟩)) (ht : rowTy P t = some k) (hk : o + k ≤ C.length)  :
    (execOp (ev n σ) ⟨some d, .load t x, ty, pos, aft, g⟩).run P w = .ok (.value ((.agg ((C.drop o).take k).toArray))) w :=
  (by simp [execOp, hx, run_loadAt_row (H.blk hi) ht hk])
theorem r_lds {b o i : Nat} {a : Option Addr} {vs : List Value} {v : Value} (hr : RdS w a vs) (ha : a = some ⟨b, o, none⟩) (hx : ev n σ x = .pointer (some ⟨b, o + i, none⟩)) (ht : cellTy P t = true) (hv : vs[i]? = some v)  :
    (execOp (ev n σ) ⟨some d, .load t x, ty, pos, aft, g⟩).run P w = .ok (.value (v)) w :=
  (by
    obtain ⟨b', o', ha', hc⟩ := hr.cell hv
    rw [ha] at ha'; cases ha'
    simp [execOp, hx, run_loadAt_cell ht hc])
theorem r_ldsr {b o i k : Nat} {a : Option Addr} {vs : List Value} (hr : RdS w a vs) (ha : a = some ⟨b, o, none⟩) (hx : ev n σ x = .pointer (some ⟨b, o + i, none⟩)) (ht : rowTy P t = some k) (hk0 : 0 < k) (hk : i + k ≤ vs.length)  :
    (execOp (ev n σ) ⟨some d, .load t x, ty, pos, aft, g⟩).run P w = .ok (.value ((.agg ((vs.drop i).take k).toArray))) w := by
  rcases hr with rfl | ⟨b', o', C, T, fr, ha', hb, hc⟩
  · simp at hk; omega
  · rw [ha] at ha'; cases ha'
    have hlen : o + vs.length ≤ C.size := by
      have := hc (vs.length - 1) (vs[vs.length - 1]'(by omega)) (List.getElem?_eq_getElem (by omega))
      have := (Array.getElem?_eq_some_iff.1 this).1
      omega
    have e := run_loadAt_row (P := P) (t := t) (k := k) (b := b) (o := o + i) (C := C.toList) (T := T) (fr := fr) (w := w) (by simpa using hb) ht (by simp; omega)
    have e2 : (C.toList.drop (o + i)).take k = (vs.drop i).take k := by
      apply List.ext_getElem?
      intro j
      by_cases hj : j < k
      · rw [List.getElem?_take_of_lt hj, List.getElem?_take_of_lt hj, List.getElem?_drop, List.getElem?_drop, List.getElem?_eq_getElem (l := vs) (by omega)]
        have := hc (i + j) _ (List.getElem?_eq_getElem (by omega))
        simpa [Nat.add_assoc] using this
      · simp [List.getElem?_take, hj]
    rw [e2] at e
    simp [execOp, hx, e]
theorem r_sl {lo hi mx : Option Operand} {a : Option Addr} {len cap sz l h m : Nat} {lv hv mv : Option Value} (hx : ev n σ x = .slice a len cap) (ht : eltOf P t = some sz)
    (hl : lo.map (ev n σ) = lv) (hh : hi.map (ev n σ) = hv) (hm : mx.map (ev n σ) = mv) (hb : ∀ w, (Instr.sliceBounds true len cap lv hv mv).run P w = .ok (l, h, m) w)  :
    (execOp (ev n σ) ⟨some d, .slice t x lo hi mx, ty, pos, aft, g⟩).run P w = .ok (.value ((.slice (sa a l m sz) (h - l) (m - l)))) w := by
  unfold eltOf at ht
  cases hu : P.underlying t with
  | none => simp [hu] at ht
  | some ds =>
    cases ds <;> simp only [hu] at ht <;> try (cases ht)
    rename_i e
    cases hj : P.info? e with
    | none => simp [hj] at ht
    | some j =>
      simp only [hj, Option.map_some, Option.some.injEq] at ht
      subst ht
      simp [execOp, hx, hl, hh, hm, Instr.sliceAt, Instr.slice, run_underlying hu, hb, sizeOf, typeInfo, hj, sa]
theorem r_sla {lo hi mx : Option Operand} {b o len sz l h m : Nat} {lv hv mv : Option Value} (hx : ev n σ x = .pointer (some ⟨b, o, none⟩)) (ht : arrOf P t = some (len, sz))
    (hl : lo.map (ev n σ) = lv) (hh : hi.map (ev n σ) = hv) (hm : mx.map (ev n σ) = mv) (hb : ∀ w, (Instr.sliceBounds false len len lv hv mv).run P w = .ok (l, h, m) w)  :
    (execOp (ev n σ) ⟨some d, .slice t x lo hi mx, ty, pos, aft, g⟩).run P w = .ok (.value ((.slice (sa (some ⟨b, o, none⟩) l m sz) (h - l) (m - l)))) w := by
  unfold arrOf at ht
  cases hu : P.underlying t with
  | none => simp [hu] at ht
  | some ds =>
    cases ds <;> simp only [hu] at ht <;> try (cases ht)
    rename_i n' e
    cases hj : P.info? e with
    | none => simp [hj] at ht
    | some j =>
      simp only [hj, Option.map_some, Option.some.injEq, Prod.mk.injEq] at ht
      obtain ⟨rfl, rfl⟩ := ht
      by_cases hml : m = l
      · simp [execOp, hx, hl, hh, hm, Instr.sliceAt, Instr.sureAddr, run_underlying hu, hb, sizeOf, typeInfo, hj, sa, hml]
      · simp [execOp, hx, hl, hh, hm, Instr.sliceAt, Instr.sureAddr, run_underlying hu, hb, sizeOf, typeInfo, hj, sa, hml]
theorem r_sls {lo hi : Option Operand} {s : ByteArray} {l h m : Nat} {lv hv : Option Value} (hu : P.underlying t = some .string) (hx : ev n σ x = .string s)
    (hl : lo.map (ev n σ) = lv) (hh : hi.map (ev n σ) = hv) (hb : ∀ w, (Instr.sliceBounds false s.size s.size lv hv none).run P w = .ok (l, h, m) w)  :
    (execOp (ev n σ) ⟨some d, .slice t x lo hi none, ty, pos, aft, g⟩).run P w = .ok (.value ((.string (s.extract l h)))) w :=
  (by simp [execOp, hx, hl, hh, Instr.sliceAt, Instr.slice, run_underlying hu, hb])
theorem r_lens {a : Option Addr} {len cap : Nat} {sz : Nat} (ht : eltOf P t = some sz) (hx : ev n σ x = .slice a len cap)  :
    (execOp (ev n σ) ⟨some d, .call ⟨.builtin .len, #[x], #[t]⟩, ty, pos, aft, g⟩).run P w = .ok (.value ((VI len))) w :=
  (run_builtin (s := Builtin.len_ #[t] ty #[.slice a len cap]) (vs := #[.slice a len cap]) (by simp [hx]) (fun _ => rfl) (by
    unfold eltOf at ht
    cases hu : P.underlying t with
    | none => simp [hu] at ht
    | some ds =>
      cases ds <;> simp only [hu] at ht <;> try (cases ht)
      simp [Builtin.len_, run_underlying hu, goInt]))
theorem r_lenstr {s : ByteArray} (hu : P.underlying t = some .string) (hx : ev n σ x = .string s)  :
    (execOp (ev n σ) ⟨some d, .call ⟨.builtin .len, #[x], #[t]⟩, ty, pos, aft, g⟩).run P w = .ok (.value ((VI s.size))) w :=
  (run_builtin (s := Builtin.len_ #[t] ty #[.string s]) (vs := #[.string s]) (by simp [hx]) (fun _ => rfl) (by
      simp [Builtin.len_, run_underlying hu, goInt]))
theorem r_b2s {e : TypeId} {a : Option Addr} {len cap : Nat} {l : List UInt8} (hs : P.underlying t = some (.slice e)) (he : P.underlying e = some (.int .u8)) (hd : P.underlying yt = some .string)
    (hx : ev n σ x = .slice a len cap) (hr : RdS w a (l.map V8)) (hl : l.length = len)  :
    (execOp (ev n σ) ⟨some d, .convert t yt x, ty, pos, aft, g⟩).run P w = .ok (.value ((.string ⟨l.toArray⟩))) w := by
  subst hl
  exact (by
    simp only [execOp, Sem.run_bind, hx]
    cases a with
    | none =>
      have : l = [] := by rcases hr with h | ⟨_, _, _, _, _, h, _⟩ <;> simp_all
      subst this
      rw [run_convert_bytes_string w t yt e none _ cap hs he hd]
      simp [Conv.bytesToString]
      rfl
    | some ad =>
      rw [run_convert_bytes_back w t yt e ad cap l hs he hd (fun j hj => by
        obtain ⟨b, o, ha, hc⟩ := hr.cell (i := j) (v := V8 l[j]) (by simp [hj])
        cases ha
        rw [Addr.add_mid]; exact hc)]
      simp)
theorem r_idxs {s : ByteArray} {k : IntKind} {i : Int} {u : UInt8} (hu : P.underlying t = some .string) (hx : ev n σ x = .string s) (hy : ev n σ y = .int k i) (h0 : 0 ≤ i) (hv : s.data.toList[i.toNat]? = some u)  :
    (execOp (ev n σ) ⟨some d, .index t x y, ty, pos, aft, g⟩).run P w = .ok (.value ((V8 u))) w := by
  have hlt : i.toNat < s.size := by
    have := (List.getElem?_eq_some_iff.1 hv).1
    simpa using this
  have e : s[i.toNat]? = some u := by
    rw [getElem?_pos s i.toNat hlt]
    have hh : i.toNat < s.data.toList.length := by simpa using hlt
    rw [List.getElem?_eq_getElem hh] at hv
    rw [← hv]; rfl
  simp [execOp, hx, hy, Instr.index, asIntOf, run_underlying hu, h0, e]
theorem r_sap {a : Option Addr} {len cap k : Nat} {e : TypeId} (hu : P.underlying t = some (.array k e)) (hx : ev n σ x = .slice a len cap) (hk : k ≤ len)  :
    (execOp (ev n σ) ⟨some d, .sliceToArrayPointer t x, ty, pos, aft, g⟩).run P w = .ok (.value ((.pointer a))) w :=
  (by simp [execOp, hx, run_arrayAt (P := P) (w := w) t e k a len cap hu hk])
theorem r_is {a : Option Addr} {b o len cap sz : Nat} {k : IntKind} {i : Int} (hx : ev n σ x = .slice a len cap) (hy : ev n σ y = .int k i) (ha : eltOf P t = some sz) (hb : a = some ⟨b, o, none⟩) (h0 : 0 ≤ i) (h1 : i < len) :
    (execOp (ev n σ) ⟨some d, .indexAddr t x y, ty, pos, aft, g⟩).run P w = .ok (.value (.pointer (some ⟨b, o + i.toNat * sz, none⟩))) w := by
  subst hb
  unfold eltOf at ha
  cases hu : P.underlying t with
  | none => simp [hu] at ha
  | some ds =>
    cases ds <;> simp only [hu] at ha <;> try (cases ha)
    rename_i e
    cases hj : P.info? e with
    | none => simp [hj] at ha
    | some j =>
      simp only [hj, Option.map_some, Option.some.injEq] at ha
      subst ha
      simp [execOp, hx, hy, Instr.indexAt, run_underlying hu, asIntOf, h0, h1, sizeOf, typeInfo, hj, Addr.add_mid]
variable {ops : Array Oper} {S' : World → Prop} {fuel : Nat} {listed : Array Bool} {dst : Option Tmp} {oo : Op}
/-- operation i only looks, and may be taken first. -/
theorem t_take (i : Nat) {v : Value} (hi : ops[i]? = some ⟨some d, oo, ty, pos, aft, none⟩) (hs : Region.noSelect ops = true) (hf : Region.free .any ops listed i = true) (hr : (Region.ready .any ops listed).contains i = true)
    (hQ : ∀ c a w, Q (.panic c) (a.put (some d) v) w → Q (.panic c) a w)
    (hy : ∀ w, S' w → (execOp (ev n σ) ⟨some d, oo, ty, pos, aft, none⟩).run P w = .ok (.value v) w) (hS : S' w)
    (h : wpAnyH P .any ops Q S' fuel (listed.setIfInBounds i true) (mk n (up σ d v)) w) : wpAnyH P .any ops Q S' (fuel + 1) listed (mk n σ) w :=
  wpAnyH_take (v := v) hi hs hf hr hQ (.inl ⟨rfl, fun w hw => by rw [mk_evalf]; exact hy w hw⟩) hS (by show wpAnyH P .any ops Q S' fuel _ ((mk n σ).put (some d) v) w; rw [mk_put]; exact h)
/-- the one operation that may come up is carried out. -/
theorem t_step (i : Nat) {a : Act} (hi : ops[i]? = some ⟨dst, oo, ty, pos, aft, none⟩) (hr : Region.ready .any ops listed = [i])
    (h : Oper.wp P ⟨dst, oo, ty, pos, aft, none⟩ a w (fun a' w' => S' w' ∧ wpAnyH P .any ops Q S' fuel (listed.setIfInBounds i true) a' w') Q) : wpAnyH P .any ops Q S' (fuel + 1) listed a w :=
  wpAnyH_all hr (by simp) (by
    simp only [List.mem_singleton, forall_eq]
    unfold wpOp
    simp only [hi]
    rw [if_pos (by simp [Region.wanted])]
    exact .inl h)
theorem t_done {a : Act} (hr : Region.ready .any ops listed = []) (h : Q .normal a w) : wpAnyH P .any ops Q S' fuel listed a w := wpAnyH_done hr h fuel
/-- whichever of the ready ones comes up. -/
theorem t_all {a : Act} (rs : List Nat) (hr : Region.ready .any ops listed = rs) (hne : rs ≠ [])
    (h : ∀ i ∈ rs, wpOp P ops Q i (fun a' w' => S' w' ∧ wpAnyH P .any ops Q S' fuel (listed.setIfInBounds i true) a' w') a w) : wpAnyH P .any ops Q S' (fuel + 1) listed a w := wpAnyH_all hr hne h
theorem all_nil {p : Nat → Prop} : ∀ i ∈ ([] : List Nat), p i := fun _ h => by cases h
theorem all_cons {p : Nat → Prop} {i : Nat} {l : List Nat} (h1 : p i) (h2 : ∀ i ∈ l, p i) : ∀ j ∈ i :: l, p j := fun j hj => by
  rcases List.mem_cons.1 hj with rfl | h
  · exact h1
  · exact h2 j h
theorem w_op (i : Nat) {a : Act} (hi : ops[i]? = some ⟨dst, oo, ty, pos, aft, none⟩) (h : Oper.wp P ⟨dst, oo, ty, pos, aft, none⟩ a w K Q) : wpOp P ops Q i K a w := by
  unfold wpOp
  simp only [hi]
  rw [if_pos (by simp [Region.wanted])]
  exact .inl h
theorem Hp.perm {L' : List Ch} (h : Hp w0 w S L) (hp : L.Perm L') : Hp w0 w S L' :=
  ⟨h.os, h.tape, h.output, h.size, h.frame, fun c hc => h.has c (hp.mem_iff.2 hc), fun c hc => h.fresh c (hp.mem_iff.2 hc),
    (hp.pairwise_iff (fun {x y} hxy b hb hx => hxy b hx hb)).1 h.nd⟩
theorem c_still {id : Nat} {a : Act} {l : List Oper} (hm : P.follows .mixedOrders = true) (hB : Region.lexB .any l.toArray = true)
    (h : wpStill P l.toArray w.drew (fun a' => Q .normal a' w.drew) l a) : (Code.region id l.toArray true).wp P Q a w := wp_region_still_lit hm hB h
theorem c_tail {id : Nat} {a : Act} {l : List Oper} (k : Nat) (hm : P.follows .mixedOrders = true) (hB : Region.lexTailB .any l.toArray k = true)
    (h : wpStill P l.toArray w.drew (fun a' => wpList P l.toArray Q (l.drop k) a' w.drew) (l.take k) a) : (Code.region id l.toArray true).wp P Q a w := wp_region_still_tail k hm hB h
variable {Qs : Act → Prop} {rest : List Oper}
theorem s_op {v : Value} (hy : (execOp (ev n σ) ⟨some d, oo, ty, pos, aft, none⟩).run P w = .ok (.value v) w) (h : wpStill P ops w Qs rest (mk n (up σ d v))) :
    wpStill P ops w Qs (⟨some d, oo, ty, pos, aft, none⟩ :: rest) (mk n σ) := by
  unfold wpStill
  rw [if_pos (by simp [Region.wanted])]
  unfold Oper.still
  rw [mk_evalf, hy]
  exact ⟨rfl, by show wpStill P ops w Qs rest ((mk n σ).put (some d) v); rw [mk_put]; exact h⟩
theorem s_yes {v : Value} {j e : Nat} {b : Bool} (he : (ops[j]?).bind (·.dst) = some e) (hb : Nat.blt e n = true) (hv : σ e = .bool b)
    (hy : (execOp (ev n σ) ⟨some d, oo, ty, pos, aft, some (j, b)⟩).run P w = .ok (.value v) w) (h : wpStill P ops w Qs rest (mk n (up σ d v))) :
    wpStill P ops w Qs (⟨some d, oo, ty, pos, aft, some (j, b)⟩ :: rest) (mk n σ) := by
  unfold wpStill
  rw [if_pos (by simp [Region.wanted, yielded_mk ops j e he b hb hv])]
  unfold Oper.still
  rw [mk_evalf, hy]
  exact ⟨rfl, by show wpStill P ops w Qs rest ((mk n σ).put (some d) v); rw [mk_put]; exact h⟩
theorem s_no {j e : Nat} {b c : Bool} (he : (ops[j]?).bind (·.dst) = some e) (hb : Nat.blt e n = true) (hv : σ e = .bool c) (hc : (c == b) = false)
    (h : wpStill P ops w Qs rest (mk n (up σ d undef))) : wpStill P ops w Qs (⟨some d, oo, ty, pos, aft, some (j, b)⟩ :: rest) (mk n σ) := by
  unfold wpStill
  rw [if_neg (by simp [Region.wanted, yielded_mk ops j e he c hb hv]; intro h'; subst h'; simp at hc), mk_put]
  exact h
theorem s_nil {a : Act} (h : Qs a) : wpStill P ops w Qs [] a := h
/-- what a call hands back, always by returning. -/
def Ret (P : Program) (f : FuncId) (vs : List Value) (w : World) (R : Value → World → Prop) : Prop := Calls P f vs.toArray w fun e w' => ∃ v, e = .returned v ∧ R v w'
theorem Ret.mono {f : FuncId} {vs : List Value} {R R' : Value → World → Prop} (h : Ret P f vs w R) (hr : ∀ v w', R v w' → R' v w') : Ret P f vs w R' :=
  Calls.mono h fun e w' ⟨v, he, hv⟩ => ⟨v, he, hr v w' hv⟩
theorem o_callR {f : FuncId} {fn : Func} {args : Array Operand} {ats : Array TypeId} {vs : List Value} {R : Value → World → Prop} (hf : P.funcs[f]? = some fn) (hb : fn.body.isSome = true) (hname : (fn.name == "runtime.NumGoroutine") = false)
    (ha : evs n σ args.toList = vs) (hc : Ret P f vs w R) (h : ∀ v w', R v w' → K (mk n (up σ d v)) w') :
    Oper.wp P ⟨some d, .call ⟨.value (.func f), args, ats⟩, ty, pos, aft, g⟩ (mk n σ) w K Q :=
  o_call hf hb hname (vs := vs.toArray) (by apply Array.ext'; rw [← ha, evs_eq]; simp) (Calls.mono hc fun e w' ⟨v, he, hv⟩ => by subst he; exact h v w' hv)
theorem s_call {f : FuncId} {fn : Func} {args : Array Operand} {ats : Array TypeId} {vs : List Value} {v : Value} (hf : P.funcs[f]? = some fn) (hb : fn.body.isSome = true) (hname : (fn.name == "runtime.NumGoroutine") = false)
    (ha : evs n σ args.toList = vs) (hc : Ret P f vs w fun x w' => x = v ∧ w' = w) (h : wpStill P ops w Qs rest (mk n (up σ d v))) :
    wpStill P ops w Qs (⟨some d, .call ⟨.value (.func f), args, ats⟩, ty, pos, aft, none⟩ :: rest) (mk n σ) := by
  unfold wpStill
  rw [if_pos (by simp [Region.wanted])]
  unfold Oper.still
  have hn : fn.body ≠ none := by cases hh : fn.body <;> simp_all
  have hnm : fn.name ≠ "runtime.NumGoroutine" := by intro e; simp [e] at hname
  have ha' : args.map (ev n σ) = vs.toArray := by apply Array.ext'; rw [← ha, evs_eq]; simp
  have : (execOp (mk n σ).eval ⟨some d, .call ⟨.value (.func f), args, ats⟩, ty, pos, aft, none⟩).run P w = .ok (.enter f vs.toArray) w := by
    rw [mk_evalf]
    simp [execOp, resolve, ev, Deferred.ofValue, invoke, callFunc, hf, hnm, hn, ha']
  rw [this]
  refine ⟨rfl, v, Calls.mono hc fun e w' ⟨x, he, hx, hw⟩ => ⟨by rw [he, hx], hw⟩, ?_⟩
  show wpStill P ops w Qs rest ((mk n σ).put (some d) v)
  rw [mk_put]; exact h
theorem ret_mk {f : FuncId} {fn : Func} {c : Code} {args : List Value} {R : Value → World → Prop} {n : Nat}
    (hf : P.funcs[f]? = some fn) (hb : fn.body = some c) (hn : fn.ntmps = n) (hle : args.length ≤ n)
    (h : c.wp P (bodyPost P fn fun e w' => ∃ v, e = .returned v ∧ R v w') (mk n (fun t => args.getD t undef)) w) : Ret P f args w R :=
  calls_mk hf hb hn hle h
end
end Go.Proofs.Ytomjbabllcmodaa
namespace Go.Proofs.Ytomjbabllcmodaa
open Go
section
variable {P : Program} {Q : Exit → Act → World → Prop} {n : Nat} {σ : Nat → Value} {w : World} {K : Act → World → Prop}
  {ty : TypeId} {pos : String} {aft : Array Edge} {g : Option (Nat × Bool)} {d : Nat} {t yt : TypeId} {x y : Operand}
theorem b_lssB {k : IntKind} {a b : Int} (v : Bool) (h : decide (a < b) = v) : (binOp .lss t (.int k a) (.int k b)).run P w = .ok (.bool v) w := by rw [← h]; exact b_lss
theorem b_gtrB {k : IntKind} {a b : Int} (v : Bool) (h : decide (b < a) = v) : (binOp .gtr t (.int k a) (.int k b)).run P w = .ok (.bool v) w := by rw [← h]; exact b_gtr
theorem b_eqlB {k : IntKind} {a b : Int} (v : Bool) (h : decide (a = b) = v) : (binOp .eql t (.int k a) (.int k b)).run P w = .ok (.bool v) w := by rw [← h]; exact b_eql
end
end Go.Proofs.Ytomjbabllcmodaa
namespace Go.Proofs.Ytomjbabllcmodaa
open Go
set_option maxRecDepth 100000
section
variable {P : Program} {Q : Exit → Act → World → Prop} {n : Nat} {σ : Nat → Value} {w w0 : World} {K : Act → World → Prop}
  {ty : TypeId} {pos : String} {aft : Array Edge} {g : Option (Nat × Bool)} {d : Nat} {t : TypeId} {x : Operand} {S : List Nat} {L : List Ch}
/-- a row that was written out as a constant text: marked. -/
def litO (C : List Value) (e : TypeId) : Obj := .cells C.toArray e (C.length, C.length + 1)
theorem o_lit {b i len cap : Nat} {C : List Value} {e : TypeId} (H : Hp w0 w S L) (hi : L[i]? = some (.blk b C e)) (hu : P.underlying t = some (.slice e)) (he : P.underlying e = some (.int .u8)) (hx : ev n σ x = .slice (some ⟨b, 0, none⟩) len cap)
    (h : ∀ w', Hp w0 w' S (L.set i (.obj b (litO C e))) → K (mk n (up σ d (.slice (some ⟨b, 0, none⟩) len cap))) w') :
    Oper.wp P ⟨some d, .convert t t x, ty, pos, aft, g⟩ (mk n σ) w K Q := by
  have hb := H.blk hi
  have hlt : b < w.heap.size := (Array.getElem?_eq_some_iff.1 hb).1
  have hsh : w.shape? b = some (e, C.length) := by simp [World.shape?, hb]
  refine o_val (v := .slice (some ⟨b, 0, none⟩) len cap) (w' := w.freeze ⟨b, C.length, none⟩ 1) ?_ (h _ ?_)
  · simp only [execOp, hx, Sem.run_bind, convert, run_underlying hu, Result.andThen_ok]
    simp [run_underlying he, markStringish, hsh]
  · have hf : ∀ k, (w.freeze ⟨b, C.length, none⟩ 1).heap[k]? = if b = k then some (litO C e) else w.heap[k]? := by
      intro k
      unfold World.freeze
      rw [if_neg (by decide)]
      simp only [Array.getElem?_modify]
      split
      · rename_i hk; subst hk
        rw [hb]; simp [litO]
      · rfl
    refine H.turn hi (c' := .obj b (litO C e)) ?_ (fun b' hb' => .inl hb') rfl rfl rfl ?_ (fun b' _ hne => ?_)
    · simp only [Ch.ok]; rw [hf, if_pos rfl]
    · unfold World.freeze; rw [if_neg (by decide)]; simp
    · rw [hf, if_neg]; intro e'; exact hne (by rw [e']; rfl)
theorem Ch.rd_lit {b : Nat} {C : List Value} {e : TypeId} {w : World} (h : (Ch.obj b (litO C e)).ok w) : RdS w (some ⟨b, 0, none⟩) C :=
  .inr ⟨b, 0, _, e, _, rfl, h, fun i v hv => by simpa using hv⟩
end
/-- a slice of bytes as a world has it. -/
structure Sl where
  a : Option Addr
  len : Nat
  cap : Nat
  l : List UInt8
def Sl.v (s : Sl) : Value := .slice s.a s.len s.cap
structure Sl.ok (s : Sl) (w : World) : Prop where
  rd : RdS w s.a (s.l.map V8)
  ln : s.l.length = s.len
  le : s.len ≤ s.cap
  mx : s.len ≤ 9223372036854775807
theorem Hp.rd' {w0 w : World} {S : List Nat} {L : List Ch} (h : Hp w0 w S L) {a : Option Addr} {vs : List Value} (hr : RdS w0 a vs) (hap : vs ≠ [] → Apart a S) : RdS w a vs := by
  by_cases hv : vs = []
  · exact .inl hv
  · exact h.rd hr (hap hv)
theorem Sl.ok.up {x : Sl} {w0 w : World} {S : List Nat} {L : List Ch} (hx : x.ok w0) (H : Hp w0 w S L) (hap : x.l ≠ [] → Apart x.a S) : x.ok w :=
  ⟨H.rd' hx.rd (fun h => hap (by simpa using h)), hx.ln, hx.le, hx.mx⟩
theorem fills (z : Value) (vs : List Value) (len : Nat) (h1 : ∀ v ∈ vs, v.oneCell' = true) (hl : vs.length = len) : Instr.fill (fun i => some (i * 1, 1)) ((Array.range (len * 1)).map (([z].toArray)[· % ([z].toArray).size]!)) (en 0 vs) = some vs.toArray := by
  have := fill_en (zs := ((Array.range (len * 1)).map (([z].toArray)[· % ([z].toArray).size]!)).toList) vs (by rw [List.all_toArray, List.all_eq_true]; exact h1) (by simp [hl])
  rwa [Array.toArray_toList] at this
theorem ok_lit {w0 w : World} {S : List Nat} {L : List Ch} (H : Hp w0 w S L) {i b cap len : Nat} {l : List UInt8} {C : List Value} {e : TypeId} (hi : L[i]? = some (.obj b (litO C e))) (hC : C = l.map V8) (hl : l.length = len) (hc : len ≤ cap) (hm : len ≤ 9223372036854775807) : (⟨some ⟨b, 0, none⟩, len, cap, l⟩ : Sl).ok w :=
  ⟨by rw [← hC]; exact Ch.rd_lit (H.has _ (List.mem_of_getElem? hi)), hl, hc, hm⟩
theorem b_remT {P : Program} {t : TypeId} {w : World} {a b : Int} (h2 : 0 < b) : (binOp .rem t (VI a) (VI b)).run P w = .ok (VI (a.tmod b)) w := by
  simp [binOp, Op.intDiv, Int.ne_of_gt h2]
theorem tmod_lt (a b : Int) (h : 0 < b) : -b < a.tmod b ∧ a.tmod b < b := by
  have h1 := Int.tmod_lt_of_pos a h
  have h2 := Int.lt_tmod_of_pos a h
  exact ⟨h2, h1⟩
theorem Hp.nilOwn {w0 w : World} {S : List Nat} {L : List Ch} (H : Hp w0 w S L) (T : TypeId) (sz : Nat) : Hp w0 w S (.own none 0 0 [] T sz :: L) :=
  ⟨H.os, H.tape, H.output, H.size, H.frame, fun c hc => by
    rcases List.mem_cons.1 hc with rfl | h
    · exact ⟨rfl, rfl, rfl⟩
    · exact H.has c h, fun c hc b hk => by
    rcases List.mem_cons.1 hc with rfl | h
    · cases hk
    · exact H.fresh c h b hk, List.pairwise_cons.2 ⟨fun _ _ _ h => (by cases h), H.nd⟩⟩
end Go.Proofs.Ytomjbabllcmodaa
namespace Go.Proofs.Ytomjbabllcmodaa
open Go Go.ChangeShapes Go.WideShapes Go.ChangeAt Go.RowKit
theorem Try.own : ownKnob Try.prog.godebug = none := by kernel_rfl
theorem Try.laidOut : laidOutB Try.prog = true := by kernel_rfl
section
variable {H : Type} {enc : TypeId × Value → H} {P : Program}
theorem trodAll_stays (hl : laidOutB P = true) {W W' : World} (hb : Below W.heap.size W W') :
    ∀ {ts : List TypeId} {vs : List Value} {ds : List (DataW H)} {ps : List MemPlace}, (∀ t ∈ ts, P.readableRec t = true ∧ t < P.types.size) → DataW.TrodAll enc P W 0 (fun _ => true) true ts vs ds ps → (∀ x ∈ ps, x.block < W.heap.size) →
      DataW.TrodAll enc P W' 0 (fun b => decide (b < W.heap.size)) true ts vs ds ps
  | [], _, _, _, _, h, _ => by
    obtain ⟨rfl, rfl, rfl⟩ := trodAll_nil h
    exact trodAll_mk0
  | t :: ts, _, _, _, ht, h, hlt => by
    obtain ⟨v, vs, d, ds, p, q, rfl, rfl, rfl, h1, h2⟩ := trodAll_cons h
    exact ⟨p, q, Below.trod hl (ht t (by simp)).1 (ht t (by simp)).2 h1 hb (fun x hx => hlt x (by simp [hx])), trodAll_stays hl hb (fun u hu => ht u (by simp [hu])) h2 (fun x hx => hlt x (by simp [hx])), rfl⟩
theorem trod_bool (tb : TypeId) (hb : P.underlying tb = some .bool) (w : World) (b : Bool) (base : Nat) (sp : Nat → Bool) (held : Bool) : DataW.Trod enc P w base sp held tb (.bool b) (.lit (.bool b)) [] := ⟨1, by simp [DataW.trod, hb, Value.cells]⟩
/-- what a law leaves: true, and all as it was. -/
theorem post_law {f : Func} {s : ChangeSpec} {apart fresh handsOn : Bool} {W W' : World} {args : Array Value} {ds gs : List (DataW H)} {before : List MemPlace} {tb : TypeId} (hl : laidOutB P = true)
    (hts : ∀ t ∈ f.params.toList, P.readableRec t = true ∧ t < P.types.size) (hW : DataW.Whole enc P f.params.toList s.vars apart W args.toList ds gs before) (hH : Hp W W' [] []) (hv : s.vars = [])
    (hs : s.fn H ds = { results := [.lit (.bool true)], args := ds }) (hr : f.resultTypes = #[tb]) (hb : P.underlying tb = some .bool) : s.post enc P f apart fresh handsOn false W args (.bool true) W' := by
  have hlt := hW.lt
  have hW' := hW
  obtain ⟨p, q, hA, hV, rfl, _, _⟩ := hW
  rw [hv] at hV
  cases gs with
  | cons g gs => simp [DataW.TrodVars] at hV
  | nil =>
    have hq : q = [] := by simpa [DataW.TrodVars] using hV
    subst hq
    have hbel := hH.below
    have hs' : s.fn H (ds ++ []) = { results := [.lit (.bool true)], args := ds } := by rw [List.append_nil]; exact hs
    have hvl : (Value.bool true).resultList f.resultTypes.size = [.bool true] := by rw [hr]; rfl
    refine ⟨ds, [], p ++ [], [], p, [], hW', ?_, ?_, ?_, hbel.frame _, fun h => by cases h⟩
    · rw [hs', hvl, hr]
      exact trodAll_mk1 (trod_bool tb hb W' true _ _ _)
    · rw [hs']
      exact trodAll_stays hl hbel hts hA (fun x hx => hlt x (by simp [hx]))
    · rw [hs', hv]; rfl
theorem law_calls {f : FuncId} {fn : Func} {s : ChangeSpec} {apart fresh handsOn : Bool} {W : World} {args : Array Value} {ds gs : List (DataW H)} {before : List MemPlace} {tb : TypeId} (hl : laidOutB P = true)
    (hts : ∀ t ∈ fn.params.toList, P.readableRec t = true ∧ t < P.types.size) (hW : DataW.Whole enc P fn.params.toList s.vars apart W args.toList ds gs before) (hv : s.vars = [])
    (hs : s.fn H ds = { results := [.lit (.bool true)], args := ds }) (hr : fn.resultTypes = #[tb]) (hb : P.underlying tb = some .bool)
    (h : Ret P f args.toList W fun v w' => v = .bool true ∧ Hp W w' [] []) : Calls P f args W fun e W' => ∃ v, e = .returned v ∧ s.post enc P fn apart fresh handsOn false W args v W' := by
  have h' : Calls P f args W fun e w' => ∃ v, e = .returned v ∧ v = .bool true ∧ Hp W w' [] [] := by simpa [Ret] using h
  exact Calls.mono h' fun e w' ⟨v, he, hv', hH⟩ => ⟨v, he, by subst hv'; exact post_law hl hts hW hH hv hs hr hb⟩
end
/-- the facts on the types of a law's parameters. -/
def tyOk (P : Program) (ts : List TypeId) : Bool := ts.all fun t => P.readableRec t && decide (t < P.types.size)
theorem tyOk_all {ts : List TypeId} (h : tyOk Try.prog ts = true) : ∀ t ∈ ts, Try.prog.readableRec t = true ∧ t < Try.prog.types.size := by
  intro t ht
  have := List.all_eq_true.1 h t ht
  simpa using this
theorem cut_of (P : Program) (cs : List Char) (h : P.initOrder = String.ofList cs) (hb : ((behindMainWord (wordsSigns cs)).head? == some "cut".toList) = true) : ∃ rest, behindMainWord (wordsSigns P.initOrder.toList) = "cut".toList :: rest := by
  rw [h, String.toList_ofList]
  generalize behindMainWord (wordsSigns cs) = l at hb
  cases l with
  | nil => simp at hb
  | cons c r => exact ⟨r, by simpa using hb⟩
set_option maxRecDepth 100000 in
theorem Try.cut : ∃ rest, behindMainWord (wordsSigns Try.prog.initOrder.toList) = "cut".toList :: rest := by
  refine cut_of Try.prog _ rfl ?_
  kernel_rfl
theorem strip_cut (rest : List (List Char)) : stripLifts liftWords ("cut".toList :: rest) = ([], "cut".toList :: rest) := by
  kernel_rfl
theorem headLifts_cut {P : Program} {rest : List (List Char)} (h : behindMainWord (wordsSigns P.initOrder.toList) = "cut".toList :: rest) : P.headLifts = [] := by
  unfold Program.headLifts
  rw [h, strip_cut]
  simp
theorem lifts_cut {P : Program} {rest : List (List Char)} (h : behindMainWord (wordsSigns P.initOrder.toList) = "cut".toList :: rest) : P.liftsFinal = false := by
  unfold Program.liftsFinal
  rw [h, headLifts_cut h]
  simp
theorem make_cut {P : Program} {rest : List (List Char)} (h : behindMainWord (wordsSigns P.initOrder.toList) = "cut".toList :: rest) : P.make = some .cut := by
  unfold Program.make
  rw [h]
  simp
theorem enter_cut {P : Program} {rest : List (List Char)} (h : behindMainWord (wordsSigns P.initOrder.toList) = "cut".toList :: rest) (h1 : P.laysLater = false) (h2 : P.bearsReflect = false) (h3 : P.doorFits [] = true) : P.mayEnter = true := by
  unfold Program.mayEnter
  rw [h]
  simp only [strip_cut, h1, h2, h3]
  simp
theorem joined_of (P : Program) (f : FuncId) (fn : Func) (s : ChangeSpec) (c : OpenClaim) (h1 : laidOutB P = true) (h2 : mapsRowed P = true) (h3 : P.stops = []) (h4 : P.stopKnobs = []) (h5 : P.stopsHeard = true) (h6 : P.mayEnter = true) (h7: P.liftsFinal = false) (h8 : P.make = some .cut) (pk : Bool) (h9 : P.plainKeys = pk)
    (r : (c.wf (OpenSpec.ofChange s) && fn.params.all (P.readableRec ·) && namedTie P c.named s.vars &&
  (c.stops == []) && (c.knobs == []) && 
  (c.inPlace == P.inPlace f) && (c.unfollowed == P.unfollowed f) && (c.recurses == P.recurses f) && (c.named == P.varsNamed f)) = true)
    (r2 : ((c.maps == (fn.params.toList ++ s.plain.varTypes P).any (P.mapsRec ·)) && (c.ifaces == (fn.params.toList ++ s.plain.varTypes P).any (P.ifacesRec ·)) && (c.mapsOut == P.mapsAmong fn.resultTypes.toList) &&
  (c.loops == (fn.params.toList ++ s.plain.varTypes P).any (P.loopsFrom ·)) && (c.wideKeys == (fn.params.toList ++ s.plain.varTypes P ++ fn.resultTypes.toList).any (P.wideKeysFrom ·)) &&
  s.vars.all (P.varReadable ·) && fn.resultTypes.all (fun t => P.readableRec t && decide (t < P.types.size)) && (c.ifacesOut == fn.resultTypes.toList.any (P.ifacesRec ·)) && (c.loopsOut == fn.resultTypes.toList.any (P.loopsFrom ·)) && (c.plainKeys == pk) && c.shortTexts.isNone && (c.lifted == false) && (some Make.cut == some c.make) && (c.kinds == (if c.domain.isEmpty then [] else fn.params.toList.map fun t => match P.underlying t with | some (.int k) => some k | _ => none)) && (c.pinned == c.pinnedBy) &&
  (c.veiled == (fn.params.toList ++ s.plain.varTypes P ++ fn.resultTypes.toList).any (P.veiledRec ·)) && c.veiledFits P fn.params.toList (fn.params.toList ++ s.plain.varTypes P ++ fn.resultTypes.toList)) = true) : joinedFacts P f fn s c = true := by
  simp only [Bool.and_eq_true] at r r2
  obtain ⟨⟨⟨⟨⟨⟨⟨⟨k1, k4⟩, k5⟩, k6⟩, k8⟩, k10⟩, k11⟩, k12⟩, k13⟩ := r
  obtain ⟨⟨⟨⟨⟨⟨⟨⟨⟨⟨⟨⟨⟨⟨⟨⟨m1, m2⟩, m3⟩, m4⟩, m5⟩, m6⟩, m7⟩, m8⟩, m9⟩, m10⟩, m11⟩, m12⟩, m13⟩, m14⟩, m15⟩, m16⟩, m17⟩ := r2
  unfold joinedFacts
  rw [h3, h4, h7, h8, h9]
  simp only [Bool.and_eq_true]
  exact ⟨⟨⟨⟨⟨⟨⟨⟨⟨⟨⟨⟨⟨⟨⟨⟨⟨⟨⟨⟨⟨⟨⟨⟨⟨⟨⟨⟨⟨⟨⟨k1, h1⟩, h2⟩, k4⟩, k5⟩, k6⟩, rfl⟩, k8⟩, rfl⟩, k10⟩, k11⟩, k12⟩, k13⟩, m1⟩, m2⟩, m3⟩, m4⟩, m5⟩, m6⟩, m7⟩, m8⟩, m9⟩, m10⟩, m11⟩, h5⟩, h6⟩, m12⟩, m13⟩, m14⟩, m15⟩, m16⟩, m17⟩
theorem Try.mapsRowed : mapsRowed Try.prog = true := by kernel_rfl
theorem Try.stops : Try.prog.stops = [] := by kernel_rfl
theorem Try.stopKnobs : Try.prog.stopKnobs = [] := by kernel_rfl
theorem Try.stopsHeard : Try.prog.stopsHeard = true := by kernel_rfl
theorem Try.laysLater : Try.prog.laysLater = false := by kernel_rfl
theorem Try.bearsReflect : Try.prog.bearsReflect = false := by kernel_rfl
theorem Try.doorFits : Try.prog.doorFits [] = true := by kernel_rfl
theorem Try.mayEnter : Try.prog.mayEnter = true := Try.cut.elim fun _ h => enter_cut h Try.laysLater Try.bearsReflect Try.doorFits
theorem Try.liftsFinal : Try.prog.liftsFinal = false := Try.cut.elim fun _ h => lifts_cut h
theorem Try.make : Try.prog.make = some .cut := Try.cut.elim fun _ h => make_cut h
theorem Try.plainKeys : Try.prog.plainKeys = false := by kernel_rfl
end Go.Proofs.Ytomjbabllcmodaa
namespace Go.Proofs.Ytomjbabllcmodaa
open Go Go.ChangeShapes Go.WideShapes Go.ChangeAt Go.RowKit Go.Deep
set_option maxRecDepth 100000
section
variable {H : Type} {enc : TypeId × Value → H} {W : World}
instance : Inhabited Sl := ⟨⟨none, 0, 0, []⟩⟩
end
end Go.Proofs.Ytomjbabllcmodaa
namespace Go.Proofs.Ytomjbabllcmodaa
open Go
section
variable {P : Program} {Q : Exit → Act → World → Prop} {n : Nat} {σ : Nat → Value} {w w0 : World} {K : Act → World → Prop}
  {ty : TypeId} {pos : String} {aft : Array Edge} {g : Option (Nat × Bool)} {d : Nat} {t yt : TypeId} {x y z : Operand} {S : List Nat} {L : List Ch}
theorem Sl.ok.addr {s : Sl} (h : s.ok w) (hp : 0 < s.len) : ∃ b o, s.a = some ⟨b, o, none⟩ := by
  rcases h.rd with h' | ⟨b, o, C, T, fr, ha, hb, hc⟩
  · have := h.ln
    rw [List.map_eq_nil_iff.1 h'] at this
    simp at this; omega
  · exact ⟨b, o, ha⟩
theorem Sl.get (s : List UInt8) (k : Nat) (h : k < s.length) : (s.map V8)[k]? = some (V8 (s.getD k 0)) := by
  simp [List.getD_eq_getElem?_getD, h]
theorem RdS.addr {a : Option Addr} {vs : List Value} (h : RdS w a vs) (hp : 0 < vs.length) : ∃ b o, a = some ⟨b, o, none⟩ := by
  rcases h with rfl | ⟨b, o, C, T, fr, ha, hb, hc⟩
  · simp at hp
  · exact ⟨b, o, ha⟩
/-- an element's address. -/
theorem r_isN {a : Option Addr} {b o len cap sz : Nat} {kk : IntKind} {i : Int} (k : Nat) (hx : ev n σ x = .slice a len cap) (hy : ev n σ y = .int kk i) (ha : eltOf P t = some sz) (hb : a = some ⟨b, o, none⟩) (hi : i = (k : Int)) (h1 : k < len) :
    (execOp (ev n σ) ⟨some d, .indexAddr t x y, ty, pos, aft, g⟩).run P w = .ok (.value (.pointer (some ⟨b, o + k * sz, none⟩))) w := by
  subst hi
  exact r_is hx hy ha hb (by omega) (by omega)
theorem r_iaN {b o len sz : Nat} {kk : IntKind} {i : Int} (k : Nat) (hx : ev n σ x = .pointer (some ⟨b, o, none⟩)) (hy : ev n σ y = .int kk i) (ha : arrOf P t = some (len, sz)) (hi : i = (k : Int)) (h1 : k < len) :
    (execOp (ev n σ) ⟨some d, .indexAddr t x y, ty, pos, aft, g⟩).run P w = .ok (.value (.pointer (some ⟨b, o + k * sz, none⟩))) w := by
  subst hi
  exact r_ia hx hy ha (by omega) (by omega)
/-- a byte of a slice. -/
theorem r_ldB {s : Sl} {b o k : Nat} (hs : s.ok w) (ha : s.a = some ⟨b, o, none⟩) (hx : ev n σ x = .pointer (some ⟨b, o + k * 1, none⟩)) (ht : cellTy P t = true) (hk : k < s.len) :
    (execOp (ev n σ) ⟨some d, .load t x, ty, pos, aft, g⟩).run P w = .ok (.value (V8 (s.l.getD k 0))) w :=
  r_lds (i := k * 1) hs.rd ha hx ht (by rw [Nat.mul_one]; exact Sl.get _ _ (by rw [hs.ln]; exact hk))
/-- a whole array. -/
theorem r_ldA {b i k : Nat} {C : List Value} {T : TypeId} (H : Hp w0 w S L) (hi : L[i]? = some (.blk b C T)) (hx : ev n σ x = .pointer (some ⟨b, 0, none⟩)) (ht : rowTy P t = some k) (hk : C.length = k) :
    (execOp (ev n σ) ⟨some d, .load t x, ty, pos, aft, g⟩).run P w = .ok (.value (.agg C.toArray)) w := by
  have h := r_ldr (P := P) (t := t) (d := d) (ty := ty) (pos := pos) (aft := aft) (g := g) H hi hx ht (by omega)
  rw [h, List.drop_zero, List.take_of_length_le (Nat.le_of_eq hk)]
theorem r_ldAA {b i k : Nat} {l : List UInt8} {T : TypeId} (H : Hp w0 w S L) (hi : L[i]? = some (.blk b (l.map V8) T)) (hx : ev n σ x = .pointer (some ⟨b, 0, none⟩)) (ht : rowTy P t = some k) (hk : l.length = k) :
    (execOp (ev n σ) ⟨some d, .load t x, ty, pos, aft, g⟩).run P w = .ok (.value (.agg (l.map V8).toArray)) w :=
  r_ldA H hi hx ht (by rw [List.length_map, hk])
theorem o_stA {b i k : Nat} {l l' : List UInt8} {T : TypeId} (H : Hp w0 w S L) (hi : L[i]? = some (.blk b (l.map V8) T)) (hx : ev n σ x = .pointer (some ⟨b, 0, none⟩)) (hy : ev n σ y = .agg (l'.map V8).toArray)
    (hs : cellSz P t = some k) (h1 : l.length = k) (h2 : l'.length = k)
    (h : ∀ w', Hp w0 w' S (L.set i (.blk b (l'.map V8) T)) → K (mk n σ) w') : Oper.wp P ⟨none, .store t x y, ty, pos, aft, g⟩ (mk n σ) w K Q :=
  o_stw H hi hx hy (by rw [hs, List.size_toArray, List.length_map, h2]) (by rw [List.all_toArray]; simp [Value.oneCell']) (by rw [List.size_toArray, List.length_map, h2, List.length_map, h1]) fun w' H' => h w' H'
theorem e_retA {fn : Func} {R : Ending → World → Prop} {tt : Tmp} {rt : TypeId} {b i k : Nat} {l : List UInt8} {T : TypeId} (hres : fn.results = #[.cell tt rt]) (H : Hp w0 w S L) (hi : L[i]? = some (.blk b (l.map V8) T)) (hv : ev n σ (.tmp tt) = .pointer (some ⟨b, 0, none⟩)) (hr : rowTy P rt = some k) (hk : l.length = k)
    (hR : R (.returned (.agg (l.map V8).toArray)) w) : bodyPost P fn R .ret (mk n σ) w :=
  e_retc hres H hi hv hr (by rw [List.length_map, hk]) hR
theorem r_mvV {v : Value} (hx : ev n σ x = v) : (execOp (ev n σ) ⟨some d, .move x, ty, pos, aft, g⟩).run P w = .ok (.value v) w := by rw [← hx]; exact r_mv
theorem r_asV {v : Value} (hx : ev n σ x = v) : (execOp (ev n σ) ⟨some d, .assign x, ty, pos, aft, g⟩).run P w = .ok (.value v) w := by rw [← hx]; exact r_as
/-- the array at a slice's head. -/
theorem r_ldSA {s : Sl} {b o k : Nat} (hs : s.ok w) (ha : s.a = some ⟨b, o, none⟩) (hx : ev n σ x = .pointer s.a) (ht : rowTy P t = some k) (hk0 : 0 < k) (hk : k ≤ s.len) :
    (execOp (ev n σ) ⟨some d, .load t x, ty, pos, aft, g⟩).run P w = .ok (.value (.agg ((s.l.take k).map V8).toArray)) w := by
  rw [ha] at hx
  have := r_ldsr (P := P) (w := w) (t := t) (d := d) (ty := ty) (pos := pos) (aft := aft) (g := g) (i := 0) hs.rd ha hx ht hk0 (by simp only [List.length_map]; have := hs.ln; omega)
  rwa [List.drop_zero, ← List.map_take] at this
theorem r_ldSE {s : Sl} {b o k : Nat} (hs : s.ok w) (ha : s.a = some ⟨b, o, none⟩) (hx : ev n σ x = .pointer s.a) (ht : rowTy P t = some k) (hk0 : 0 < k) (hk : s.len = k) :
    (execOp (ev n σ) ⟨some d, .load t x, ty, pos, aft, g⟩).run P w = .ok (.value (.agg (s.l.map V8).toArray)) w := by
  have := r_ldSA (P := P) (w := w) (t := t) (d := d) (ty := ty) (pos := pos) (aft := aft) (g := g) hs ha hx ht hk0 (Nat.le_of_eq hk.symm)
  rwa [List.take_of_length_le (by have := hs.ln; omega)] at this
/-- an array or struct literal. -/
theorem r_bld' {parts : Array (Nat × Operand)} {zs : Array Value} {places : Nat → Option (Nat × Nat)} {pv : List (Nat × Value)} {cells : Array Value} (hB : Bld P t zs places)
    (hp0 : pvs n σ parts.toList = pv) (hf : Instr.fill places zs pv = some cells) :
    (execOp (ev n σ) ⟨some d, .build t parts, ty, pos, aft, g⟩).run P w = .ok (.value (.agg cells)) w := by
  have hp : (parts.map fun (i, x) => (i, ev n σ x)).toList = pv := by rw [← hp0, pvs_eq, Array.toList_map]
  have := run_build (P := P) w t (parts.map fun (i, x) => (i, ev n σ x)) cells (by rw [hp, hB.eq]; exact hf)
  simp only [execOp, Sem.run_bind, this]
  simp
/-- an array as a slice: its first h bytes, room for m. -/
theorem r_slA {lo hi mx : Option Operand} {b len sz h m : Nat} {lv hv mv : Option Value} (hx : ev n σ x = .pointer (some ⟨b, 0, none⟩)) (ht : arrOf P t = some (len, sz))
    (hl : lo.map (ev n σ) = lv) (hh : hi.map (ev n σ) = hv) (hm : mx.map (ev n σ) = mv) (hb : ∀ w, (Instr.sliceBounds false len len lv hv mv).run P w = .ok (0, h, m) w) :
    (execOp (ev n σ) ⟨some d, .slice t x lo hi mx, ty, pos, aft, g⟩).run P w = .ok (.value (.slice (some ⟨b, 0, none⟩) h m)) w := by
  have := r_sla (P := P) (w := w) (d := d) (ty := ty) (pos := pos) (aft := aft) (g := g) hx ht hl hh hm hb
  rwa [sa_zero, Nat.sub_zero, Nat.sub_zero] at this
def Sl.cut (s : Sl) (l h m : Nat) : Sl := ⟨sa s.a l m 1, h - l, m - l, (s.l.drop l).take (h - l)⟩
theorem Sl.ok.cut {s : Sl} (hs : s.ok w) {l h m : Nat} (h1 : l ≤ h) (h2 : h ≤ s.len) (h3 : h ≤ m) (_h4 : m ≤ s.cap) : (s.cut l h m).ok w := by
  refine ⟨?_, ?_, by simp only [Sl.cut]; omega, by have := hs.mx; simp only [Sl.cut]; omega⟩
  · unfold Sl.cut
    simp only
    by_cases hml : m = l
    · have : (s.l.drop l).take (h - l) = [] := by rw [show h - l = 0 by omega, List.take_zero]
      rw [this]; exact .inl rfl
    · have e : sa s.a l m 1 = s.a.map (·.add (l * 1)) := by unfold sa; rw [if_neg hml]
      rw [e, Nat.mul_one, List.map_take, List.map_drop]
      exact (hs.rd.drop l).take _
  · have := hs.ln
    simp only [Sl.cut, List.length_take, List.length_drop]; omega
theorem r_slS {lo hi mx : Option Operand} {s : Sl} (l h m : Nat) {lv hv mv : Option Value} (hx : ev n σ x = s.v) (ht : eltOf P t = some 1)
    (hl : lo.map (ev n σ) = lv) (hh : hi.map (ev n σ) = hv) (hm : mx.map (ev n σ) = mv) (hb : ∀ w, (Instr.sliceBounds true s.len s.cap lv hv mv).run P w = .ok (l, h, m) w) :
    (execOp (ev n σ) ⟨some d, .slice t x lo hi mx, ty, pos, aft, g⟩).run P w = .ok (.value (s.cut l h m).v) w :=
  r_sl (P := P) (w := w) (d := d) (ty := ty) (pos := pos) (aft := aft) (g := g) hx ht hl hh hm hb
/-- bounds, by numbers. -/
theorem sbn {s : Bool} {len cap : Nat} (w : World) : (Instr.sliceBounds s len cap none none none).run P w = .ok (0, len, cap) w := sb_n w
theorem sbl {s : Bool} {len cap : Nat} {k : IntKind} {i : Int} (l : Nat) (e : i = (l : Int)) (h1 : l ≤ len) (w : World) : (Instr.sliceBounds s len cap (some (.int k i)) none none).run P w = .ok (l, len, cap) w := by
  subst e; exact sb_l (by omega) (by omega) w
theorem sbh {s : Bool} {len cap : Nat} {k : IntKind} {i : Int} (h : Nat) (e : i = (h : Int)) (h1 : h ≤ cap) (w : World) : (Instr.sliceBounds s len cap none (some (.int k i)) none).run P w = .ok (0, h, cap) w := by
  subst e; exact sb_h (by omega) (by omega) w
theorem sblh {s : Bool} {len cap : Nat} {k k' : IntKind} {i j : Int} (l h : Nat) (e : i = (l : Int)) (e' : j = (h : Int)) (h1 : l ≤ h) (h2 : h ≤ cap) (w : World) : (Instr.sliceBounds s len cap (some (.int k i)) (some (.int k' j)) none).run P w = .ok (l, h, cap) w := by
  subst e e'; exact sb_lh (by omega) (by omega) (by omega) w
theorem Hp.slOwn (H : Hp w0 w S L) {i : Nat} {a : Option Nat} {len cap : Nat} {l : List UInt8} {T : TypeId} (hi : L[i]? = some (.own a len cap (l.map V8) T 1)) : (⟨hd a, len, cap, l⟩ : Sl).ok w := by
  have h := H.has _ (List.mem_of_getElem? hi)
  refine ⟨Ch.rd_own h, ?_, ?_, ?_⟩
  · cases a with
    | none => obtain ⟨h1, h2, h3⟩ := h; simp only [List.map_eq_nil_iff] at h3; rw [h3, h1]; rfl
    | some b => obtain ⟨h1, _⟩ := h; simpa using h1
  · cases a with
    | none => obtain ⟨h1, h2, h3⟩ := h; simp only; omega
    | some b => exact h.2.1
  · cases a with
    | none => obtain ⟨h1, h2, h3⟩ := h; simp only; omega
    | some b => have := h.2.1; have := h.2.2.1; simp only [maxLen] at *; omega
theorem Hp.ownLen (H : Hp w0 w S L) {i : Nat} {a : Option Nat} {len cap : Nat} {xs : List Value} {T : TypeId} {sz : Nat} (hi : L[i]? = some (.own a len cap xs T sz)) : xs.length = len * sz ∧ len ≤ cap ∧ cap ≤ maxLen := by
  have h := H.has _ (List.mem_of_getElem? hi)
  cases a with
  | none => obtain ⟨rfl, rfl, rfl⟩ := h; simp [maxLen]
  | some b => exact ⟨h.1, h.2.1, h.2.2.1⟩
theorem Hp.ownAddr (H : Hp w0 w S L) {i : Nat} {a : Option Nat} {len cap : Nat} {xs : List Value} {T : TypeId} {sz : Nat} (hi : L[i]? = some (.own a len cap xs T sz)) (h0 : 0 < len) : ∃ b, hd a = some ⟨b, 0, none⟩ := by
  have h := H.has _ (List.mem_of_getElem? hi)
  cases a with
  | none => obtain ⟨h1, _⟩ := h; omega
  | some b => exact ⟨b, rfl⟩
theorem Hp.rot {c : Ch} (H : Hp w0 w S (L ++ [c])) : Hp w0 w S (c :: L) := H.perm (List.perm_append_singleton _ _)
theorem Hp.nilEnd (H : Hp w0 w S L) (T : TypeId) (sz : Nat) : Hp w0 w S (L ++ [.own none 0 0 [] T sz]) :=
  (H.nilOwn T sz).perm (List.perm_append_singleton _ _).symm
/-- .. with room only. -/
theorem o_makeB0 {e : TypeId} {kx ky : IntKind} {li ci : Int} (c : Nat) (H : Hp w0 w S L) (hT : SlTy P t e 1 1) (hz : zeroCells P e = some [V8 0]) (hx : ev n σ x = .int kx li) (hy : ev n σ y = .int ky ci)
    (hl : li = 0) (hc : ci = (c : Int)) (hm : c ≤ 281474976710656)
    (h : ∀ b w', Hp w0 w' S (L ++ [.own (some b) 0 c (([] : List UInt8).map V8) e 1]) → w0.heap.size ≤ b → K (mk n (up σ d (.slice (hd (some b)) 0 c))) w') :
    Oper.wp P ⟨some d, .makeSlice t x y, ty, pos, aft, g⟩ (mk n σ) w K Q := by
  have hmx : c ≤ maxLen := Nat.le_trans hm (by decide)
  refine o_make (l := 0) (c := c) H hT hz hx hy hl hc (Nat.zero_le _) (by omega) hmx fun b w' H' hb => h b w' ?_ hb
  have := H'.toOwn (i := L.length) (len := 0) (cap := c) (sz := 1) (b := b) (C := List.replicate c (V8 0)) (T := e) (by simp) (Nat.zero_le _) hmx (by simp)
  rw [List.set_append_right _ _ (Nat.le_refl _), Nat.sub_self] at this
  simpa using this
/-- a literal of bytes. -/
theorem o_bslB {e : TypeId} {len : Nat} {parts : Array (Nat × Operand)} (l : List UInt8) (H : Hp w0 w S L) (hT : SlTy P t e 1 1) (hz : zeroCells P e = some [V8 0])
    (hp : pvs n σ parts.toList = en 0 (l.map V8)) (hlen : l.length = len) (hm : len ≤ 16777216)
    (h : ∀ b w', Hp w0 w' S (L ++ [.own (some b) len len (l.map V8) e 1]) → w0.heap.size ≤ b → K (mk n (up σ d (.slice (hd (some b)) len len))) w') :
    Oper.wp P ⟨some d, .buildSlice t len parts, ty, pos, aft, g⟩ (mk n σ) w K Q := by
  refine o_bsl H hT hz (by decide) hp (by omega) (fills _ (l.map V8) len (by simp [Value.oneCell']) (by simpa using hlen)) fun b w' H' hb => h b w' ?_ hb
  have := H'.toOwn (i := L.length) (len := len) (cap := len) (sz := 1) (b := b) (C := l.map V8) (T := e) (by simp) (Nat.le_refl _) (Nat.le_trans hm (by decide)) (by simpa using hlen)
  rw [List.set_append_right _ _ (Nat.le_refl _), Nat.sub_self, List.take_of_length_le (by simp; omega)] at this
  simpa using this
/-- bytes behind bytes of one's own. -/
theorem o_appB {i : Nat} {a : Option Nat} {len cap len' : Nat} {l l' : List UInt8} {e e' : TypeId} {tx : TypeId} {s : Sl} (el : l ++ s.l = l') (en : len + s.len = len') (H : Hp w0 w S L) (hi : L[i]? = some (.own a len cap (l.map V8) e 1)) (hT : SlTy P t e 1 1) (hu : P.underlying tx = some (.slice e'))
    (hx : ev n σ x = .slice (hd a) len cap) (hy : ev n σ y = s.v) (hs : s.ok w) (hm : len' ≤ 140737488355328)
    (h : ∀ a' cap' w', Hp w0 w' S (L.set i (.own a' len' cap' (l'.map V8) e 1)) → K (mk n (up σ d (.slice (hd a') len' cap'))) w') :
    Oper.wp P ⟨some d, .call ⟨.builtin .append, #[x, y], #[t, tx]⟩, ty, pos, aft, g⟩ (mk n σ) w K Q := by
  subst el en
  refine o_app (m := s.len) (news := s.l.map V8) H hi hT hx hy (RdS.src hu hs.rd (by simp [hs.ln]) (by decide) (by simp [Value.oneCell'])) (by decide) (by omega) (by omega) fun a' cap' w' H' => h a' cap' w' ?_
  rw [List.map_append]; exact H'
/-- .. into an array. -/
theorem o_stAB {b k i : Nat} {l : List UInt8} {T : TypeId} {u : UInt8} (H : Hp w0 w S L) (hi : L[i]? = some (.blk b (l.map V8) T)) (hx : ev n σ x = .pointer (some ⟨b, 0 + k * 1, none⟩))
    (hy : ev n σ y = V8 u) (hs : cellSz P t = some 1) (hk : k < l.length)
    (h : ∀ w', Hp w0 w' S (L.set i (.blk b ((l.set k u).map V8) T)) → K (mk n σ) w') : Oper.wp P ⟨none, .store t x y, ty, pos, aft, g⟩ (mk n σ) w K Q := by
  refine o_st H hi hx hy hs rfl (by simpa using hk) fun w' H' => h w' ?_
  rw [← List.map_set, Nat.mul_one, Nat.zero_add] at H'
  exact H'
theorem Sl.ok_nil (w : World) : (⟨none, 0, 0, []⟩ : Sl).ok w := ⟨.inl rfl, rfl, Nat.le_refl _, by decide⟩
theorem Hp.toBlkB (H : Hp w0 w S L) {i b len : Nat} {l : List UInt8} {T : TypeId} (hi : L[i]? = some (.own (some b) len len (l.map V8) T 1)) : Hp w0 w S (L.set i (.blk b (l.map V8) T)) := by
  refine H.conv hi rfl fun hok => ?_
  obtain ⟨h1, h2, h3, rest, hw, h5⟩ := hok
  have : rest = [] := List.length_eq_zero_iff.1 (by simp only [List.length_append] at h5; omega)
  subst this
  rw [List.append_nil] at hw
  exact hw
theorem w_u64_N {a : Int} (k : Nat) (h : a = (k : Int)) : IntKind.u64.wrap a = ((UInt64.ofNat k).toNat : Int) := by
  subst h
  have := w_u64_i (a := (k : Int)) (by omega)
  rwa [Int.toNat_natCast] at this
theorem w_u8_N {a : Int} (k : Nat) (h : a = (k : Int)) : IntKind.u8.wrap a = ((UInt8.ofNat k).toNat : Int) := by
  subst h
  have := w_u8_i (a := (k : Int)) (by omega)
  rwa [Int.toNat_natCast] at this
theorem b_mul_u64N {t : TypeId} {a b : Nat} : (binOp .mul t (V64 (UInt64.ofNat a)) (V64 (UInt64.ofNat b))).run P w = .ok (V64 (UInt64.ofNat (a * b))) w := by
  rw [UInt64.ofNat_mul]; exact b_mul_u64
theorem b_add_u64N {t : TypeId} {a b : Nat} : (binOp .add t (V64 (UInt64.ofNat a)) (V64 (UInt64.ofNat b))).run P w = .ok (V64 (UInt64.ofNat (a + b))) w := by
  rw [UInt64.ofNat_add]; exact b_add_u64
theorem sh_N (m : Nat) (h : m < 64) : (((UInt64.ofNat m).toNat : Nat) : Int).toNat = m := by
  rw [UInt64.toNat_ofNat']; omega
theorem b_shr_u64N {x : UInt64} (m : Nat) (h : m < 64) : (Op.shift .shr .u64 (x.toNat : Int) .u64 ((UInt64.ofNat m).toNat : Int)).run P w = .ok (V64 (x >>> UInt64.ofNat m)) w := by
  have := b_shr_u64 (P := P) (w := w) (x := x) (yk := .u64) (c := ((UInt64.ofNat m).toNat : Int)) (by omega) (by rw [UInt64.toNat_ofNat']; omega)
  rwa [sh_N m h] at this
theorem b_shl_u64N {x : UInt64} (m : Nat) (h : m < 64) : (Op.shift .shl .u64 (x.toNat : Int) .u64 ((UInt64.ofNat m).toNat : Int)).run P w = .ok (V64 (x <<< UInt64.ofNat m)) w := by
  have := b_shl_u64 (P := P) (w := w) (x := x) (yk := .u64) (c := ((UInt64.ofNat m).toNat : Int)) (by omega) (by rw [UInt64.toNat_ofNat']; omega)
  rwa [sh_N m h] at this
theorem ba_loop (b : ByteArray) : ∀ (k i : Nat) (r : List UInt8), b.size - i = k → ByteArray.toList.loop b i r = r.reverse ++ b.data.toList.drop i := by
  intro k
  induction k with
  | zero =>
    intro i r h
    have hd : b.data.toList.drop i = [] := List.drop_of_length_le (by have : b.data.toList.length = b.size := rfl; omega)
    rw [ByteArray.toList.loop, if_neg (by omega), hd, List.append_nil]
  | succ k ih =>
    intro i r h
    have hlt : i < b.size := by omega
    have hl : i < b.data.toList.length := hlt
    rw [ByteArray.toList.loop, if_pos hlt, ih (i + 1) _ (by omega), List.drop_eq_getElem_cons hl]
    have : b.get! i = b.data.toList[i] := by
      show b.data[i]! = _
      rw [getElem!_pos b.data i hlt]; rfl
    rw [this]; simp
theorem ba_toList (l : List UInt8) : (⟨l.toArray⟩ : ByteArray).toList = l := by
  rw [ByteArray.toList, ba_loop _ _ 0 [] rfl]; simp
theorem beq_dec (a b : List UInt8) : (a == b) = decide (a = b) := by
  rw [Bool.eq_iff_iff]; simp
theorem run_streq {a b : List UInt8} (w : World) : (Op.stringOp .eql ⟨a.toArray⟩ ⟨b.toArray⟩).run P w = .ok (.bool (decide (a = b))) w := by
  rw [b_seql, ba_toList, ba_toList, beq_dec]
theorem r_streq {a b : List UInt8} (hx : ev n σ x = .string ⟨a.toArray⟩) (hy : ev n σ y = .string ⟨b.toArray⟩) :
    (execOp (ev n σ) ⟨some d, .binOp .eql t x y yt, ty, pos, aft, g⟩).run P w = .ok (.value (.bool (decide (a = b)))) w :=
  r_str hx hy (fun w => run_streq w) (by decide)
theorem r_strne {a b : List UInt8} (hx : ev n σ x = .string ⟨a.toArray⟩) (hy : ev n σ y = .string ⟨b.toArray⟩) :
    (execOp (ev n σ) ⟨some d, .binOp .neq t x y yt, ty, pos, aft, g⟩).run P w = .ok (.value (.bool (!decide (a = b)))) w :=
  r_str hx hy (fun w => by rw [b_sneq, ba_toList, ba_toList, beq_dec]) (by decide)
theorem r_b2S {s : Sl} {e : TypeId} (hs : P.underlying t = some (.slice e)) (he : P.underlying e = some (.int .u8)) (hd : P.underlying yt = some .string) (hx : ev n σ x = s.v) (hok : s.ok w) :
    (execOp (ev n σ) ⟨some d, .convert t yt x, ty, pos, aft, g⟩).run P w = .ok (.value (.string ⟨s.l.toArray⟩)) w :=
  r_b2s hs he hd hx hok.rd hok.ln
/-- bytes of a text. -/
theorem o_s2B {e : TypeId} {l : List UInt8} (H : Hp w0 w S L) (hs : P.underlying t = some .string) (hd : P.underlying yt = some (.slice e)) (he : P.underlying e = some (.int .u8)) (hx : ev n σ x = .string ⟨l.toArray⟩) (hm : l.length ≤ 1099511627776)
    (h : ∀ b cap ob w', Hp w0 w' S (L ++ [.obj b ob]) → w0.heap.size ≤ b → (∀ w'' : World, Ch.ok w'' (.obj b ob) → (⟨some ⟨b, 0, none⟩, l.length, cap, l⟩ : Sl).ok w'') → K (mk n (up σ d (.slice (some ⟨b, 0, none⟩) l.length cap))) w') :
    Oper.wp P ⟨some d, .convert t yt x, ty, pos, aft, g⟩ (mk n σ) w K Q := by
  refine o_s2b H hs hd he hx fun b cap ob w' H' hb hr hc => h b cap ob w' H' hb fun w'' hw => ⟨hr w'' hw, rfl, ?_, ?_⟩
  · exact hc
  · simp only; omega
end
def resF (tmps : Array Value) : ResultVar → Sem Value
  | .tmp t => pure (tmps.getD t undef)
  | .cell a t => do loadVar t (← asAddr (tmps.getD a undef))
def resOk (P : Program) (n : Nat) (σ : Nat → Value) (w : World) : List ResultVar → List Value → Prop
  | [], [] => True
  | .tmp t :: rs, v :: vs => ev n σ (.tmp t) = v ∧ resOk P n σ w rs vs
  | .cell a t :: rs, v :: vs => (∃ b C T k, ev n σ (.tmp a) = .pointer (some ⟨b, 0, none⟩) ∧ w.heap[b]? = some (.cells (List.toArray C) T (0, 0)) ∧ ((rowTy P t = some k ∧ C.length = k ∧ v = .agg C.toArray) ∨ (cellTy P t = true ∧ C[0]? = some v))) ∧ resOk P n σ w rs vs
  | _, _ => False
theorem run_resF {P : Program} {n : Nat} {σ : Nat → Value} {w : World} : ∀ (rs : List ResultVar) (vs : List Value) (acc : Array Value), resOk P n σ w rs vs →
    (rs.foldlM (fun acc r => do let v ← resF (mk n σ).tmps r; pure (acc.push v)) acc : Sem (Array Value)).run P w = .ok (acc ++ vs.toArray) w
  | [], [], acc, _ => by simp
  | .tmp t :: rs, v :: vs, acc, h => by
    have h1 : (mk n σ).tmps.getD t undef = v := by rw [mk_tmp]; exact h.1
    have e : (resF (mk n σ).tmps (.tmp t)).run P w = .ok v w := by simp [resF, h1]
    rw [List.foldlM_cons, Sem.run_bind, Sem.run_bind, e]
    simp only [Result.andThen_ok, Sem.run_pure]
    rw [run_resF rs vs _ h.2]
    congr 1
    simp
  | .cell a t :: rs, v :: vs, acc, h => by
    obtain ⟨⟨b, C, T, k, h1, h2, h3⟩, h4⟩ := h
    have e1 : (mk n σ).tmps.getD a undef = .pointer (some ⟨b, 0, none⟩) := by rw [mk_tmp]; exact h1
    have e2 : (loadVar t ⟨b, 0, none⟩).run P w = .ok v w := by
      rcases h3 with ⟨hr, hk, rfl⟩ | ⟨hc, hv⟩
      · have := run_loadAt_row (P := P) (t := t) (k := k) (o := 0) h2 hr (by omega)
        simp only [Instr.loadAt, Instr.sureAddr, Sem.run_bind, Sem.run_pure, Result.andThen_ok] at this
        rw [this, List.drop_zero, List.take_of_length_le (by omega)]
      · have := run_loadAt_cell (P := P) (t := t) (a := ⟨b, 0, none⟩) (v := v) (w := w) hc (by simp [World.cell?, h2, hv])
        simpa only [Instr.loadAt, Instr.sureAddr, Sem.run_bind, Sem.run_pure, Result.andThen_ok] using this
    have e : (resF (mk n σ).tmps (.cell a t)).run P w = .ok v w := by simp [resF, e1, asAddr, e2]
    rw [List.foldlM_cons, Sem.run_bind, Sem.run_bind, e]
    simp only [Result.andThen_ok, Sem.run_pure]
    rw [run_resF rs vs _ h4]
    congr 1
    simp
theorem e_retN {P : Program} {n : Nat} {σ : Nat → Value} {w : World} {fn : Func} {R : Ending → World → Prop} (rs : List ResultVar) (vs : List Value) (hres : fn.results = rs.toArray) (h1 : (vs.length == 1) = false) (hv : resOk P n σ w rs vs)
    (hR : R (.returned (.tuple vs.toArray)) w) : bodyPost P fn R .ret (mk n σ) w := by
  refine ⟨mk_defers n σ, .tuple vs.toArray, ?_, hR⟩
  have h2 := run_resF (P := P) (w := w) rs vs #[] hv
  have h3 : (fn.results.mapM (resF (mk n σ).tmps)).run P w = .ok vs.toArray w := by
    rw [hres, Array.mapM_eq_foldlM, List.foldlM_toArray]
    simpa using h2
  have h4 : results fn (mk n σ).tmps = (do let vs ← fn.results.mapM (resF (mk n σ).tmps); pure (if h : vs.size = 1 then vs[0] else .tuple vs)) := by
    unfold results
    congr 1
  rw [h4, Sem.run_bind, h3]
  have : ¬ vs.length = 1 := by simpa using h1
  simp [this]
theorem Hp.resR {P : Program} {n : Nat} {σ : Nat → Value} {w0 w : World} {S : List Nat} {L : List Ch} (H : Hp w0 w S L) {a t b i k : Nat} {C : List Value} {T : TypeId} {rs : List ResultVar} {vs : List Value} (hi : L[i]? = some (.blk b C T)) (hv : ev n σ (.tmp a) = .pointer (some ⟨b, 0, none⟩)) (hr : rowTy P t = some k) (hk : C.length = k)
    (h : resOk P n σ w rs vs) : resOk P n σ w (.cell a t :: rs) (.agg C.toArray :: vs) :=
  ⟨⟨b, C, T, k, hv, H.blk hi, .inl ⟨hr, hk, rfl⟩⟩, h⟩
theorem resT {P : Program} {n : Nat} {σ : Nat → Value} {w : World} {t : Nat} {v : Value} {rs : List ResultVar} {vs : List Value} (hv : ev n σ (.tmp t) = v) (h : resOk P n σ w rs vs) : resOk P n σ w (.tmp t :: rs) (v :: vs) := ⟨hv, h⟩
theorem resZ {P : Program} {n : Nat} {σ : Nat → Value} {w : World} : resOk P n σ w [] [] := trivial
section
variable {P : Program} {Q : Exit → Act → World → Prop} {n : Nat} {σ : Nat → Value} {w : World} {c : Code} {ι κ ξ ο π : Type}
theorem c_loop2 (pat : ι → κ → List (Nat × Value)) (A : ι → κ → World → Prop) (μ : ι → κ → Nat) (i : ι) (k : κ) (hp : fits σ (pat i k)) (hA : A i k w)
    (h : ∀ i k τ w, A i k w → c.wp P (Exit.then (Rnd n (fun x : ι × κ => pat x.1 x.2) (fun x => A x.1 x.2) (fun x => μ x.1 x.2) (μ i k)) Q) (mk n (ups τ (pat i k))) w) : (Code.loop c).wp P Q (mk n σ) w :=
  c_loop (fun x : ι × κ => pat x.1 x.2) (fun x => A x.1 x.2) (fun x => μ x.1 x.2) (i, k) hp hA fun x τ w hA => h x.1 x.2 τ w hA
theorem c_loop3 (pat : ι → κ → ξ → List (Nat × Value)) (A : ι → κ → ξ → World → Prop) (μ : ι → κ → ξ → Nat) (i : ι) (k : κ) (x : ξ) (hp : fits σ (pat i k x)) (hA : A i k x w)
    (h : ∀ i k x τ w, A i k x w → c.wp P (Exit.then (Rnd n (fun y : ι × κ × ξ => pat y.1 y.2.1 y.2.2) (fun y => A y.1 y.2.1 y.2.2) (fun y => μ y.1 y.2.1 y.2.2) (μ i k x)) Q) (mk n (ups τ (pat i k x))) w) : (Code.loop c).wp P Q (mk n σ) w :=
  c_loop (fun y : ι × κ × ξ => pat y.1 y.2.1 y.2.2) (fun y => A y.1 y.2.1 y.2.2) (fun y => μ y.1 y.2.1 y.2.2) (i, k, x) hp hA fun y τ w hA => h y.1 y.2.1 y.2.2 τ w hA
theorem c_loop4 (pat : ι → κ → ξ → ο → List (Nat × Value)) (A : ι → κ → ξ → ο → World → Prop) (μ : ι → κ → ξ → ο → Nat) (i : ι) (k : κ) (x : ξ) (o : ο) (hp : fits σ (pat i k x o)) (hA : A i k x o w)
    (h : ∀ i k x o τ w, A i k x o w → c.wp P (Exit.then (Rnd n (fun y : ι × κ × ξ × ο => pat y.1 y.2.1 y.2.2.1 y.2.2.2) (fun y => A y.1 y.2.1 y.2.2.1 y.2.2.2) (fun y => μ y.1 y.2.1 y.2.2.1 y.2.2.2) (μ i k x o)) Q) (mk n (ups τ (pat i k x o))) w) : (Code.loop c).wp P Q (mk n σ) w :=
  c_loop (fun y : ι × κ × ξ × ο => pat y.1 y.2.1 y.2.2.1 y.2.2.2) (fun y => A y.1 y.2.1 y.2.2.1 y.2.2.2) (fun y => μ y.1 y.2.1 y.2.2.1 y.2.2.2) (i, k, x, o) hp hA fun y τ w hA => h y.1 y.2.1 y.2.2.1 y.2.2.2 τ w hA
theorem c_loop5 (pat : ι → κ → ξ → ο → π → List (Nat × Value)) (A : ι → κ → ξ → ο → π → World → Prop) (μ : ι → κ → ξ → ο → π → Nat) (i : ι) (k : κ) (x : ξ) (o : ο) (p : π) (hp : fits σ (pat i k x o p)) (hA : A i k x o p w)
    (h : ∀ i k x o p τ w, A i k x o p w → c.wp P (Exit.then (Rnd n (fun y : ι × κ × ξ × ο × π => pat y.1 y.2.1 y.2.2.1 y.2.2.2.1 y.2.2.2.2) (fun y => A y.1 y.2.1 y.2.2.1 y.2.2.2.1 y.2.2.2.2) (fun y => μ y.1 y.2.1 y.2.2.1 y.2.2.2.1 y.2.2.2.2) (μ i k x o p)) Q) (mk n (ups τ (pat i k x o p))) w) : (Code.loop c).wp P Q (mk n σ) w :=
  c_loop (fun y : ι × κ × ξ × ο × π => pat y.1 y.2.1 y.2.2.1 y.2.2.2.1 y.2.2.2.2) (fun y => A y.1 y.2.1 y.2.2.1 y.2.2.2.1 y.2.2.2.2) (fun y => μ y.1 y.2.1 y.2.2.1 y.2.2.2.1 y.2.2.2.2) (i, k, x, o, p) hp hA fun y τ w hA => h y.1 y.2.1 y.2.2.1 y.2.2.2.1 y.2.2.2.2 τ w hA
end
end Go.Proofs.Ytomjbabllcmodaa
namespace Go.Proofs.Ytomjbabllcmodaa
open Go
section
variable {P : Program} {Q : Exit → Act → World → Prop} {n : Nat} {σ : Nat → Value} {w w0 : World} {K : Act → World → Prop}
  {ty : TypeId} {pos : String} {aft : Array Edge} {g : Option (Nat × Bool)} {d : Nat} {t yt : TypeId} {x y z : Operand} {S : List Nat} {L : List Ch}
/-- a whole struct stored. -/
theorem o_stW {b i k : Nat} {C C' : List Value} {T : TypeId} (H : Hp w0 w S L) (hi : L[i]? = some (.blk b C T)) (hx : ev n σ x = .pointer (some ⟨b, 0, none⟩)) (hy : ev n σ y = .agg C'.toArray)
    (hs : cellSz P t = some k) (h1 : C'.all (·.oneCell') = true) (hk : C.length = k) (hk' : C'.length = k)
    (h : ∀ w', Hp w0 w' S (L.set i (.blk b C' T)) → K (mk n σ) w') : Oper.wp P ⟨none, .store t x y, ty, pos, aft, g⟩ (mk n σ) w K Q :=
  o_stw H hi hx hy (by rw [hs, List.size_toArray, hk']) (by rw [List.all_toArray]; exact h1) (by rw [List.size_toArray, hk, hk']) fun w' H' => h w' H'
/-- slices of structs: what stands there. -/
structure Gl (α : Type) where
  a : Option Addr
  len : Nat
  cap : Nat
  l : List α
def Gl.v {α : Type} (s : Gl α) : Value := .slice s.a s.len s.cap
structure Gl.ok {α : Type} (enc : α → List Value) (sz : Nat) (s : Gl α) (w : World) : Prop where
  rd : RdS w s.a (s.l.flatMap enc)
  ln : s.l.length = s.len
  le : s.len ≤ s.cap
  mx : s.cap ≤ maxLen
  sz : ∀ c ∈ s.l, (enc c).length = sz
theorem Gl.ok.up {α : Type} {enc : α → List Value} {sz : Nat} {s : Gl α} (hs : s.ok enc sz w0) (H : Hp w0 w [] L) : s.ok enc sz w := ⟨H.rd hs.rd (apart_nil _), hs.ln, hs.le, hs.mx, hs.sz⟩
theorem flat_len {α : Type} {enc : α → List Value} {sz : Nat} : ∀ {l : List α}, (∀ c ∈ l, (enc c).length = sz) → (l.flatMap enc).length = l.length * sz
  | [], _ => by simp
  | c :: l, h => by
    rw [List.flatMap_cons, List.length_append, h c (by simp), flat_len (l := l) (fun c hc => h c (by simp [hc])), List.length_cons, Nat.succ_mul, Nat.add_comm]
theorem flat_at {α : Type} {enc : α → List Value} {sz : Nat} {c : α} : ∀ {l : List α} {k : Nat}, (∀ c ∈ l, (enc c).length = sz) → l[k]? = some c → ((l.flatMap enc).drop (k * sz)).take sz = enc c
  | [], k, _, h => by simp at h
  | b :: l, 0, hs, h => by
    simp at h; subst h
    have := hs b (by simp)
    rw [Nat.zero_mul, List.drop_zero, List.flatMap_cons, ← this, List.take_left]
  | b :: l, k + 1, hs, h => by
    have hb := hs b (by simp)
    rw [Nat.succ_mul, Nat.add_comm, List.flatMap_cons, ← List.drop_drop, ← hb, List.drop_left, hb]
    exact flat_at (fun c hc => hs c (by simp [hc])) (by simpa using h)
theorem Gl.ok.addr {α : Type} {enc : α → List Value} {sz : Nat} {s : Gl α} (h : s.ok enc sz w) (hz : 0 < sz) (hp : 0 < s.len) : ∃ b o, s.a = some ⟨b, o, none⟩ :=
  h.rd.addr (by rw [flat_len h.sz, h.ln]; exact Nat.mul_pos hp hz)
theorem r_ldRow {α : Type} {enc : α → List Value} {sz : Nat} {s : Gl α} {b o k : Nat} {c : α} (hs : s.ok enc sz w) (ha : s.a = some ⟨b, o, none⟩) (hx : ev n σ x = .pointer (some ⟨b, o + k * sz, none⟩)) (ht : rowTy P t = some sz) (hz : 0 < sz) (hk : s.l[k]? = some c) :
    (execOp (ev n σ) ⟨some d, .load t x, ty, pos, aft, g⟩).run P w = .ok (.value (.agg (enc c).toArray)) w := by
  have hlt : k < s.l.length := (List.getElem?_eq_some_iff.1 hk).1
  have := r_ldsr (P := P) (w := w) (t := t) (d := d) (ty := ty) (pos := pos) (aft := aft) (g := g) hs.rd ha hx ht hz (by
    rw [flat_len hs.sz]
    have : (k + 1) * sz ≤ s.l.length * sz := Nat.mul_le_mul_right _ hlt
    rw [Nat.succ_mul] at this; exact this)
  rwa [flat_at hs.sz hk] at this
/-- a field of a struct of a slice. -/
theorem r_ldFld {α : Type} {enc : α → List Value} {sz off : Nat} {s : Gl α} {b o k : Nat} {c : α} {v : Value} (hs : s.ok enc sz w) (ha : s.a = some ⟨b, o, none⟩) (hx : ev n σ x = .pointer (some ⟨b, o + k * sz + off, none⟩)) (ht : cellTy P t = true) (hk : s.l[k]? = some c) (hoff : off < sz) (hv : (enc c)[off]? = some v) :
    (execOp (ev n σ) ⟨some d, .load t x, ty, pos, aft, g⟩).run P w = .ok (.value v) w := by
  refine r_lds (i := k * sz + off) hs.rd ha (by rw [hx, Nat.add_assoc]) ht ?_
  have h := flat_at hs.sz hk
  rw [← h, List.getElem?_take_of_lt hoff, List.getElem?_drop] at hv
  exact hv
theorem Hp.glOwn {α : Type} {enc : α → List Value} (H : Hp w0 w S L) {i : Nat} {a : Option Nat} {len cap sz : Nat} {l : List α} {T : TypeId} (hi : L[i]? = some (.own a len cap (l.flatMap enc) T sz)) (hz : 0 < sz) (hs : ∀ c ∈ l, (enc c).length = sz) : (⟨hd a, len, cap, l⟩ : Gl α).ok enc sz w := by
  have h := H.ownLen hi
  refine ⟨H.own hi, ?_, h.2.1, h.2.2, hs⟩
  have h1 := h.1
  rw [flat_len hs] at h1
  exact Nat.eq_of_mul_eq_mul_right hz h1
/-- structs behind structs of one's own. -/
theorem o_appG {α : Type} {enc : α → List Value} {i : Nat} {a : Option Nat} {len cap len' sz bytes : Nat} {l l' : List α} {e e' : TypeId} {tx : TypeId} {s : Gl α} (el : l ++ s.l = l') (en : len + s.len = len') (H : Hp w0 w S L) (hi : L[i]? = some (.own a len cap (l.flatMap enc) e sz)) (hT : SlTy P t e sz bytes) (hu : P.underlying tx = some (.slice e'))
    (hx : ev n σ x = .slice (hd a) len cap) (hy : ev n σ y = s.v) (hs : s.ok enc sz w) (hz : 0 < sz) (h1 : ∀ c ∈ s.l, (enc c).all (·.oneCell') = true) (hm : len' ≤ 68719476736) (hb : bytes ≤ 2048)
    (h : ∀ a' cap' w', Hp w0 w' S (L.set i (.own a' len' cap' (l'.flatMap enc) e sz)) → K (mk n (up σ d (.slice (hd a') len' cap'))) w') :
    Oper.wp P ⟨some d, .call ⟨.builtin .append, #[x, y], #[t, tx]⟩, ty, pos, aft, g⟩ (mk n σ) w K Q := by
  subst el en
  have h1' : ∀ u ∈ s.l.flatMap enc, u.oneCell' = true := by
    intro u hu
    obtain ⟨c, hc, huc⟩ := List.mem_flatMap.1 hu
    exact List.all_eq_true.1 (h1 c hc) u huc
  refine o_app (m := s.len) (news := s.l.flatMap enc) H hi hT hx hy (RdS.src hu hs.rd (by rw [flat_len hs.sz, hs.ln]) hz h1') hz (by omega) (Nat.le_trans (Nat.mul_le_mul hm hb) (by decide)) fun a' cap' w' H' => h a' cap' w' ?_
  rw [List.flatMap_append]; exact H'
theorem fill_row (sz : Nat) (zs vs : List Value) (h1 : zs.length = sz) (h2 : vs.length = sz) : Instr.fill (fun i => some (i * sz, sz)) zs.toArray [(0, .agg vs.toArray)] = some vs.toArray := by
  have h : ∀ (vs done zs : List Value), zs.length = vs.length → (vs.zipIdx done.length).foldl (fun (acc : Array Value) (p : Value × Nat) => acc.setIfInBounds p.2 p.1) (done ++ zs).toArray = (done ++ vs).toArray := by
    intro vs
    induction vs with
    | nil => intro done zs hz; have : zs = [] := List.length_eq_zero_iff.1 (by simpa using hz); subst this; simp
    | cons v vs ih =>
      intro done zs hz
      cases zs with
      | nil => simp at hz
      | cons z zs =>
        have := ih (done ++ [v]) zs (by simpa using hz)
        simp only [List.length_append, List.length_singleton, List.append_assoc, List.singleton_append] at this
        rw [← this, List.zipIdx_cons, List.foldl_cons]
        congr 1
        simp []
  have := h vs [] zs (by omega)
  simp only [Instr.fill, Value.cells, Nat.zero_mul]
  rw [if_neg (by simp [h1, h2])]
  simpa [Nat.zero_add] using this
/-- a literal of one struct, or of none. -/
theorem o_bslG1 {α : Type} {enc : α → List Value} {e : TypeId} {sz bytes : Nat} {parts : Array (Nat × Operand)} {zs : List Value} (c : α) (H : Hp w0 w S L) (hT : SlTy P t e sz bytes) (hz : zeroCells P e = some zs) (_hzs : zs.length = sz) (h0 : 0 < sz) (hsm : sz ≤ 16777216)
    (hp : pvs n σ parts.toList = [(0, .agg (enc c).toArray)]) (hc : (enc c).length = sz)
    (h : ∀ b w', Hp w0 w' S (L ++ [.own (some b) 1 1 ([c].flatMap enc) e sz]) → w0.heap.size ≤ b → K (mk n (up σ d (.slice (hd (some b)) 1 1))) w') :
    Oper.wp P ⟨some d, .buildSlice t 1 parts, ty, pos, aft, g⟩ (mk n σ) w K Q := by
  refine o_bsl (cells := (enc c).toArray) H hT hz h0 hp (by omega) ?_ fun b w' H' hb => h b w' ?_ hb
  · have hzl : ((Array.range (1 * sz)).map (zs.toArray[· % zs.toArray.size]!)).toList.length = sz := by simp
    have := fill_row sz ((Array.range (1 * sz)).map (zs.toArray[· % zs.toArray.size]!)).toList (enc c) hzl hc
    rwa [Array.toArray_toList] at this
  · have := H'.toOwn (i := L.length) (len := 1) (cap := 1) (sz := sz) (b := b) (C := enc c) (T := e) (by simp) (Nat.le_refl _) (by decide) (by omega)
    rw [List.set_append_right _ _ (Nat.le_refl _), Nat.sub_self, List.take_of_length_le (by omega)] at this
    simpa using this
/-- an array within a struct as a slice. -/
theorem r_slAo {lo hi mx : Option Operand} {b o len sz h m : Nat} {lv hv mv : Option Value} (hx : ev n σ x = .pointer (some ⟨b, o, none⟩)) (ht : arrOf P t = some (len, sz))
    (hl : lo.map (ev n σ) = lv) (hh : hi.map (ev n σ) = hv) (hm : mx.map (ev n σ) = mv) (hb : ∀ w, (Instr.sliceBounds false len len lv hv mv).run P w = .ok (0, h, m) w) :
    (execOp (ev n σ) ⟨some d, .slice t x lo hi mx, ty, pos, aft, g⟩).run P w = .ok (.value (.slice (some ⟨b, o, none⟩) h m)) w := by
  have := r_sla (P := P) (w := w) (d := d) (ty := ty) (pos := pos) (aft := aft) (g := g) hx ht hl hh hm hb
  rwa [sa_zero, Nat.sub_zero, Nat.sub_zero] at this
theorem w_u64_I (a : Int) : IntKind.u64.wrap a = ((UInt64.ofInt a).toNat : Int) := by
  rw [wrap_u64]
  simp only [UInt64.ofInt, UInt64.toNat_ofNat']
  omega
/-- a byte of a text. -/
theorem r_idxS {kk : IntKind} {i : Int} {l : List UInt8} (k : Nat) (hu : P.underlying t = some .string) (hx : ev n σ x = .string ⟨l.toArray⟩) (hy : ev n σ y = .int kk i) (hi : i = (k : Int)) (hk : k < l.length) :
    (execOp (ev n σ) ⟨some d, .index t x y, ty, pos, aft, g⟩).run P w = .ok (.value (V8 (l.getD k 0))) w := by
  subst hi
  exact r_idxs hu hx hy (by omega) (by simp [List.getD_eq_getElem?_getD, hk])
end
end Go.Proofs.Ytomjbabllcmodaa
namespace Go.Proofs.Ytomjbabllcmodaa
open Go
section
variable {P : Program} {Q : Exit → Act → World → Prop} {n : Nat} {σ : Nat → Value} {w : World} {ty : TypeId} {pos : String} {aft : Array Edge} {d : Nat} {Qs : Act → Prop}
theorem yielded_non (ops : Array Oper) (j d : Nat) (h : (ops[j]?).bind (·.dst) = some d) (hd : Nat.blt d n = true) (hv : σ d = undef) :
    yielded ops (mk n σ).tmps j = none := by
  have hd' : d < n := by rw [Nat.blt_eq] at hd; exact hd
  unfold yielded
  simp [h, mk, hd', hv, undef]
theorem l_non {ops : Array Oper} {rest : List Oper} {op : Op} {j e : Nat} {b : Bool}
    (he : (ops[j]?).bind (·.dst) = some e) (hb : Nat.blt e n = true) (hv : σ e = undef)
    (h : wpList P ops Q rest (mk n (up σ d undef)) w) : wpList P ops Q (⟨some d, op, ty, pos, aft, some (j, b)⟩ :: rest) (mk n σ) w := by
  have hw := yielded_non ops j e he hb hv
  unfold wpList
  rw [if_neg (by simp [Region.wanted, hw]), mk_put]
  exact h
theorem s_non {ops : Array Oper} {rest : List Oper} {oo : Op} {j e : Nat} {b : Bool}
    (he : (ops[j]?).bind (·.dst) = some e) (hb : Nat.blt e n = true) (hv : σ e = undef)
    (h : wpStill P ops w Qs rest (mk n (up σ d undef))) : wpStill P ops w Qs (⟨some d, oo, ty, pos, aft, some (j, b)⟩ :: rest) (mk n σ) := by
  have hw := yielded_non ops j e he hb hv
  unfold wpStill
  rw [if_neg (by simp [Region.wanted, hw]), mk_put]
  exact h
end
end Go.Proofs.Ytomjbabllcmodaa
namespace Go.Proofs.Ytomjbabllcmodaa
open Go
section
variable {P : Program} {Q : Exit → Act → World → Prop} {n : Nat} {σ : Nat → Value} {w w0 : World} {K : Act → World → Prop}
  {ty : TypeId} {pos : String} {aft : Array Edge} {g : Option (Nat × Bool)} {d : Nat} {t yt : TypeId} {x y : Operand} {S : List Nat} {L : List Ch}
theorem part_cell {e : TypeId} (he : cellTy P e = true) {xs : Array Value} {off : Nat} {v : Value} (hx : xs[off]? = some v) : (part e xs off).run P w = .ok v w := by simp [part, run_isAgg_cell he, hx]
theorem eqI_u8s {t e : TypeId} {m : Nat} (hu : P.underlying t = some (.array m e)) (he : P.underlying e = some (.int .u8)) (hc : cellSz P e = some 1) (dd : Nat) (a b : List UInt8) (ha : a.length = m) (hb : b.length = m) :
    (Op.equalIn (dd + 2) t (.agg (a.map V8).toArray) (.agg (b.map V8).toArray)).run P w = .ok (decide (a = b)) w := by
  cases hi : P.info? e with
  | none => simp [cellSz, hi] at hc
  | some i =>
    have hco : P.cellsOf e = 1 := by simpa [cellSz, hi, Program.cellsOf] using hc
    rw [run_equalIn_array w (dd + 1) _ _ hu hi, hco, eqItems_u8 he dd a b (by omega) w _ (by simp [ha])]
    congr 1
    rw [Bool.eq_iff_iff]
    simp only [List.all_eq_true, List.mem_range, beq_iff_eq, decide_eq_true_eq]
    constructor
    · intro h
      apply List.ext_getElem?
      intro j
      by_cases hj : j < m
      · exact h j hj
      · rw [List.getElem?_eq_none (by omega), List.getElem?_eq_none (by omega)]
    · rintro rfl j _; rfl
end
end Go.Proofs.Ytomjbabllcmodaa
namespace Go.Proofs.Ytomjbabllcmodaa
open Go Go.MapKept
set_option linter.unusedSectionVars false
section
variable {κ : Type} [DecidableEq κ]
def ment (kv : κ → Value) (x : κ × Value × Nat) : MapEntry := { key := kv x.1, val := x.2.1, born := x.2.2 }
def midx (k : κ) : List (κ × Value × Nat) → Nat → Option (Nat × Value)
  | [], _ => none
  | x :: L, i => if k = x.1 then some (i, x.2.1) else midx k L (i + 1)
/-- what stands under a key. -/
def mget (L : List (κ × Value × Nat)) (k : κ) : Option Value :=
  match L with
  | [] => none
  | x :: L => if k = x.1 then some x.2.1 else mget L k
def mput (k : κ) (v : Value) (c : Nat) : List (κ × Value × Nat) → List (κ × Value × Nat)
  | [] => [(k, v, c)]
  | x :: L => if k = x.1 then (k, v, x.2.2) :: L else x :: mput k v c L
def mclk (L : List (κ × Value × Nat)) (k : κ) (c : Nat) : Nat := if (mget L k).isSome then c else c + 1
def mdel (k : κ) : List (κ × Value × Nat) → List (κ × Value × Nat)
  | [] => []
  | x :: L => if k = x.1 then L else x :: mdel k L
structure MOk (L : List (κ × Value × Nat)) (c : Nat) : Prop where
  keys : (L.map (·.1)).Nodup
  born : (L.map (·.2.2)).Nodup
  old : ∀ x ∈ L, x.2.2 < c
omit [DecidableEq κ] in
theorem MOk.nil : MOk ([] : List (κ × Value × Nat)) 0 := ⟨List.nodup_nil, List.nodup_nil, fun _ h => by cases h⟩
theorem mget_put (k j : κ) (v : Value) (c : Nat) : ∀ L : List (κ × Value × Nat), mget (mput k v c L) j = if j = k then some v else mget L j
  | [] => by simp [mput, mget]
  | x :: L => by
    rw [mput]
    by_cases h : k = x.1
    · rw [if_pos h, mget, mget, ← h]; simp only
      by_cases hj : j = k <;> simp [hj]
    · rw [if_neg h, mget, mget, mget_put k j v c L]
      by_cases hj : j = x.1
      · rw [if_pos hj, if_pos hj, if_neg (fun e : j = k => h (e.symm.trans hj))]
      · rw [if_neg hj, if_neg hj]
theorem mput_keys (k : κ) (v : Value) (c : Nat) : ∀ (L : List (κ × Value × Nat)) (j : κ), j ∈ (mput k v c L).map (·.1) ↔ j = k ∨ j ∈ L.map (·.1)
  | [], j => by simp [mput]
  | x :: L, j => by
    rw [mput]
    by_cases h : k = x.1
    · rw [if_pos h]; simp [h]
    · rw [if_neg h, List.map_cons, List.mem_cons, mput_keys k v c L j, List.map_cons, List.mem_cons]
      constructor
      · rintro (h1 | h1 | h1) <;> simp [h1]
      · rintro (h1 | h1 | h1) <;> simp [h1]
theorem mput_born (k : κ) (v : Value) (c : Nat) : ∀ (L : List (κ × Value × Nat)) (x : κ × Value × Nat), x ∈ mput k v c L → x.2.2 = c ∧ mget L k = none ∨ ∃ y ∈ L, x.2.2 = y.2.2
  | [], x, h => by
    simp only [mput, List.mem_singleton] at h
    subst h; exact .inl ⟨rfl, rfl⟩
  | y :: L, x, h => by
    rw [mput] at h
    by_cases hk : k = y.1
    · rw [if_pos hk] at h
      rcases List.mem_cons.1 h with rfl | h
      · exact .inr ⟨y, List.mem_cons_self .., rfl⟩
      · exact .inr ⟨x, List.mem_cons_of_mem _ h, rfl⟩
    · rw [if_neg hk] at h
      rcases List.mem_cons.1 h with rfl | h
      · exact .inr ⟨x, List.mem_cons_self .., rfl⟩
      · rcases mput_born k v c L x h with ⟨h1, h2⟩ | ⟨z, hz, h2⟩
        · exact .inl ⟨h1, by rw [mget, if_neg hk]; exact h2⟩
        · exact .inr ⟨z, List.mem_cons_of_mem _ hz, h2⟩
theorem MOk.put {L : List (κ × Value × Nat)} {c : Nat} (h : MOk L c) (k : κ) (v : Value) : MOk (mput k v c L) (mclk L k c) := by
  refine ⟨?_, ?_, fun x hx => ?_⟩
  · have hk := h.keys
    clear h
    induction L with
    | nil => simp [mput]
    | cons x L ih =>
      rw [mput]
      rw [List.map_cons, List.nodup_cons] at hk
      by_cases e : k = x.1
      · rw [if_pos e, List.map_cons, List.nodup_cons]; exact ⟨by simp only; rw [e]; exact hk.1, hk.2⟩
      · rw [if_neg e, List.map_cons, List.nodup_cons]
        refine ⟨fun hm => ?_, ih hk.2⟩
        rcases (mput_keys k v c L x.1).1 hm with h1 | h1
        · exact e h1.symm
        · exact hk.1 h1
  · have hb := h.born
    have ho := h.old
    clear h
    induction L with
    | nil => simp [mput]
    | cons x L ih =>
      rw [mput]
      rw [List.map_cons, List.nodup_cons] at hb
      by_cases e : k = x.1
      · rw [if_pos e, List.map_cons, List.nodup_cons]; exact hb
      · rw [if_neg e, List.map_cons, List.nodup_cons]
        refine ⟨fun hm => ?_, ih hb.2 (fun y hy => ho y (List.mem_cons_of_mem _ hy))⟩
        obtain ⟨y, hy, he⟩ := List.mem_map.1 hm
        rcases mput_born k v c L y hy with ⟨h1, _⟩ | ⟨z, hz, h2⟩
        · have := ho x (List.mem_cons_self ..); omega
        · exact hb.1 (List.mem_map.2 ⟨z, hz, by rw [← h2, he]⟩)
  · unfold mclk
    rcases mput_born k v c L x hx with ⟨h1, h2⟩ | ⟨z, hz, h2⟩
    · rw [h2]; simp only [Option.isSome_none]; rw [if_neg (by decide)]; omega
    · have := h.old z hz
      split <;> omega
/-- keys of a type: how they are found. -/
structure KeyOf (P : Program) (kt : TypeId) (kv : κ → Value) : Prop where
  chk : ∀ (e : Bool) (k : κ) (w : World), (Instr.checkKey e 10000 kt (kv k)).run P w = .ok () w
  fnd : ∀ (k : κ) (L : List (κ × Value × Nat)) (w : World), (Instr.findKey kt (kv k) (L.map (ment kv))).run P w = .ok (midx k L 0) w
  same : ∀ k, Instr.sameBits 10000 (kv k) (kv k) = true
/-- .. where they are asked by the operator. -/
theorem findAsking_ask {P : Program} {kt : TypeId} {kv : κ → Value} {w : World} (he : ∀ k j : κ, (Op.equal kt (kv k) (kv j)).run P w = .ok (decide (k = j)) w) (k : κ) : ∀ (L : List (κ × Value × Nat)) (i : Nat), (Instr.findAsking kt (kv k) (L.map (ment kv)) i).run P w = .ok (midx k L i) w
  | [], i => rfl
  | x :: L, i => by
    rw [List.map_cons, Instr.findAsking, Sem.run_bind]
    show ((Op.equal kt (kv k) (kv x.1)).run P w).andThen _ = _
    rw [he, midx]
    by_cases h : k = x.1
    · rw [decide_eq_true h, if_pos h]; rfl
    · rw [decide_eq_false h, if_neg h]; exact findAsking_ask he k L (i + 1)
theorem KeyOf.ask {P : Program} {kt : TypeId} {kv : κ → Value} (hwide : (match P.underlying kt with | some (.array _ _) | some (.struct _) => true | _ => false) = true) (hc : ∀ (e : Bool) (k : κ) (w : World), (Instr.checkKey e 10000 kt (kv k)).run P w = .ok () w)
    (he : ∀ (k j : κ) (w : World), (Op.equal kt (kv k) (kv j)).run P w = .ok (decide (k = j)) w) (hs : ∀ k, Instr.sameBits 10000 (kv k) (kv k) = true) : KeyOf P kt kv :=
  ⟨hc, fun k L w => by rw [run_findKey_eq w hwide]; exact findAsking_ask (fun a b => he a b w) k L 0, hs⟩
/-- a map's block. -/
def mobj (kv : κ → Value) (L : List (κ × Value × Nat)) (c : Nat) : Obj := .map (L.map (ment kv)).toArray c
theorem midx_get (k : κ) : ∀ (L : List (κ × Value × Nat)) (i : Nat), (midx k L i).map (·.2) = mget L k
  | [], _ => rfl
  | x :: L, i => by
    rw [midx, mget]
    by_cases h : k = x.1
    · rw [if_pos h, if_pos h]; rfl
    · rw [if_neg h, if_neg h]; exact midx_get k L (i + 1)
end
section
variable {κ : Type} [DecidableEq κ] {P : Program} {Q : Exit → Act → World → Prop} {n : Nat} {σ : Nat → Value} {w w0 : World} {K : Act → World → Prop}
  {ty : TypeId} {pos : String} {aft : Array Edge} {g : Option (Nat × Bool)} {d : Nat} {t kt et : TypeId} {x y : Operand} {S : List Nat} {L : List Ch}
/-- 'make' of a map. -/
theorem o_mmake (kv : κ → Value) (H : Hp w0 w S L) (h : ∀ b w', Hp w0 w' S (L ++ [.obj b (mobj kv [] 0)]) → w0.heap.size ≤ b → K (mk n (up σ d (.map (some b)))) w') : Oper.wp P ⟨some d, .makeMap t none, ty, pos, aft, g⟩ (mk n σ) w K Q := by
  refine o_val (v := .map (some w.heap.size)) (w' := w.alloc (.map #[] 0)) ?_ (h w.heap.size _ (H.new _ (.obj w.heap.size (mobj kv [] 0)) rfl (heap_alloc_new' w _)) H.size)
  rfl
/-- a look-up. -/
theorem r_look {kv : κ → Value} {M : List (κ × Value × Nat)} {c i b : Nat} {k : κ} {z : Value} (H : Hp w0 w S L) (hi : L[i]? = some (.obj b (mobj kv M c))) (hu : P.underlying t = some (.map kt et)) (hK : KeyOf P kt kv) (hz : ∀ w, (zeroValue et).run P w = .ok z w)
    (hx : ev n σ x = .map (some b)) (hy : ev n σ y = kv k) (ok : Bool) :
    (execOp (ev n σ) ⟨some d, .lookup t x y ok, ty, pos, aft, g⟩).run P w = .ok (.value (if ok then .tuple #[(mget M k).getD z, .bool (mget M k).isSome] else (mget M k).getD z)) w := by
  have hb : w.heap[b]? = some (.map (M.map (ment kv)).toArray c) := H.has _ (List.mem_of_getElem? hi)
  have hg : (Instr.lookup t (.map (some b)) (kv k) ok).run P w = .ok (if ok then .tuple #[(mget M k).getD z, .bool (mget M k).isSome] else (mget M k).getD z) w := by
    unfold Instr.lookup
    simp only [Sem.run_bind, run_underlying hu, Result.andThen_ok, MapKept.run_getObj_map hb, hK.chk]
    have hf := hK.fnd k M w
    rw [← midx_get k M 0]
    cases hm : midx k M 0 with
    | none => rw [hm] at hf; cases ok <;> simp [hf, hz]
    | some r => rw [hm] at hf; cases ok <;> simp [hf]
  simp only [execOp, hx, hy, Sem.run_bind, hg, Result.andThen_ok]
  rfl
theorem keyStays (k : κ) {kv : κ → Value} (hK : KeyOf P kt kv) : (Instr.keyThatStays (kv k) (kv k)).run P w = .ok (kv k) w := by
  unfold Instr.keyThatStays
  rw [if_pos (hK.same k)]; rfl
theorem midx_some {k : κ} : ∀ {M : List (κ × Value × Nat)} {i j : Nat} {v : Value}, midx k M i = some (j, v) → ∃ x m, j = i + m ∧ M[m]? = some x ∧ x.1 = k ∧ x.2.1 = v
  | [], _, _, _, h => by cases h
  | x :: M, i, j, v, h => by
    rw [midx] at h
    by_cases hk : k = x.1
    · rw [if_pos hk] at h; cases h; exact ⟨x, 0, rfl, rfl, hk.symm, rfl⟩
    · rw [if_neg hk] at h
      obtain ⟨y, m, h1, h2, h3⟩ := midx_some h
      exact ⟨y, m + 1, by omega, h2, h3⟩
theorem mput_none {k : κ} {v : Value} {c : Nat} : ∀ {M : List (κ × Value × Nat)} {i : Nat}, midx k M i = none → mput k v c M = M ++ [(k, v, c)] ∧ mget M k = none
  | [], _, _ => ⟨rfl, rfl⟩
  | x :: M, i, h => by
    rw [midx] at h
    by_cases hk : k = x.1
    · rw [if_pos hk] at h; cases h
    · rw [if_neg hk] at h
      obtain ⟨h1, h2⟩ := mput_none (v := v) (c := c) h
      rw [mput, if_neg hk, h1, mget, if_neg hk]; exact ⟨rfl, h2⟩
theorem mput_some {kv : κ → Value} {k : κ} {v u : Value} {c : Nat} : ∀ {M : List (κ × Value × Nat)} {i j : Nat}, midx k M i = some (j, u) → ((M.map (ment kv)).modify (j - i) fun e => { e with key := kv k, val := v }) = (mput k v c M).map (ment kv) ∧ mget M k = some u ∧ i ≤ j
  | [], _, _, h => by cases h
  | x :: M, i, j, h => by
    rw [midx] at h
    by_cases hk : k = x.1
    · rw [if_pos hk] at h; cases h
      rw [mput, if_pos hk, mget, if_pos hk, Nat.sub_self]
      exact ⟨by simp [ment], rfl, Nat.le_refl _⟩
    · rw [if_neg hk] at h
      obtain ⟨h1, h2, h3⟩ := mput_some (kv := kv) (v := v) (c := c) h
      rw [mput, if_neg hk, mget, if_neg hk]
      refine ⟨?_, h2, by omega⟩
      rw [show j - i = (j - (i + 1)) + 1 by omega, List.map_cons, List.modify_succ_cons, h1, List.map_cons]
/-- 'm[k] = v'. -/
theorem o_mput {kv : κ → Value} {M : List (κ × Value × Nat)} {c i b : Nat} {k : κ} {v : Value} {z : Operand} (H : Hp w0 w S L) (hi : L[i]? = some (.obj b (mobj kv M c))) (hu : P.underlying t = some (.map kt et)) (hK : KeyOf P kt kv)
    (hx : ev n σ x = .map (some b)) (hy : ev n σ y = kv k) (hv : ev n σ z = v) (h : ∀ w', Hp w0 w' S (L.set i (.obj b (mobj kv (mput k v c M) (mclk M k c)))) → K (mk n σ) w') :
    Oper.wp P ⟨none, .mapUpdate t x y z, ty, pos, aft, g⟩ (mk n σ) w K Q := by
  have hb : w.heap[b]? = some (.map (M.map (ment kv)).toArray c) := H.has _ (List.mem_of_getElem? hi)
  have hset := heap_set (o' := mobj kv (mput k v c M) (mclk M k c)) hb
  have hg : (Instr.mapUpdate t (.map (some b)) (kv k) v).run P w = .ok () { w with heap := w.heap.setIfInBounds b (mobj kv (mput k v c M) (mclk M k c)) } := by
    unfold Instr.mapUpdate
    simp only [Sem.run_bind, run_underlying hu, Result.andThen_ok, MapKept.run_getObj_map hb, hK.chk]
    have hf := hK.fnd k M w
    cases hm : midx k M 0 with
    | none =>
      rw [hm] at hf
      obtain ⟨h1, h2⟩ := mput_none (v := v) (c := c) hm
      have e : mobj kv (mput k v c M) (mclk M k c) = .map ((M.map (ment kv)).toArray.push { key := kv k, val := v, born := c }) (c + 1) := by
        rw [mobj, h1, mclk, h2]; simp [ment]
      rw [e]
      simp [hf, MapKept.run_setObj_map _ hb]
    | some r =>
      obtain ⟨j, u⟩ := r
      rw [hm] at hf
      obtain ⟨h1, h2, _⟩ := mput_some (kv := kv) (v := v) (c := c) hm
      obtain ⟨xx, m, hj, hM, hk1, _⟩ := midx_some hm
      rw [Nat.sub_zero] at h1
      have hjm : j = m := by omega
      subst hjm
      have e : mobj kv (mput k v c M) (mclk M k c) = .map ((M.map (ment kv)).toArray.modify j fun e => { e with key := kv k, val := v }) c := by
        rw [mobj, ← h1, mclk, h2]; simp
      have hold : (((M.map (ment kv)).toArray[j]?).map (·.key)).getD (kv k) = kv k := by
        simp [hM, ment, hk1]
      have hst := keyStays (w := w) k hK
      rw [e]
      simp only [hf, Result.andThen_ok]
      rw [Sem.run_bind, hold, hst, Result.andThen_ok, MapKept.run_setObj_map _ hb]
  refine o_skip (w' := { w with heap := w.heap.setIfInBounds b (mobj kv (mput k v c M) (mclk M k c)) }) ?_ (h _ ?_)
  · simp only [execOp, hx, hy, hv, Sem.run_bind, hg, Result.andThen_ok]; rfl
  · refine H.turn hi (c' := .obj b (mobj kv (mput k v c M) (mclk M k c))) hset.1 (fun b' hb' => .inl hb') rfl rfl rfl (by simp) (fun b' _ hne => ?_)
    exact hset.2 b' (fun e => hne (by rw [e]; rfl))
end
end Go.Proofs.Ytomjbabllcmodaa
namespace Go.Proofs.Ytomjbabllcmodaa
open Go Go.MapKept
set_option linter.unusedSectionVars false
section
variable {κ : Type} [DecidableEq κ] {P : Program} {Q : Exit → Act → World → Prop} {n : Nat} {σ : Nat → Value} {w w0 : World} {K : Act → World → Prop}
  {ty : TypeId} {pos : String} {aft : Array Edge} {g : Option (Nat × Bool)} {d : Nat} {t kt et : TypeId} {x y : Operand} {S : List Nat} {L : List Ch}
theorem Hp.mset {kv : κ → Value} {M M' : List (κ × Value × Nat)} {c c' i b : Nat} (H : Hp w0 w S L) (hi : L[i]? = some (.obj b (mobj kv M c))) : Hp w0 { w with heap := w.heap.setIfInBounds b (mobj kv M' c') } S (L.set i (.obj b (mobj kv M' c'))) := by
  have hb : w.heap[b]? = some (.map (M.map (ment kv)).toArray c) := H.has _ (List.mem_of_getElem? hi)
  have hset := heap_set (o' := mobj kv M' c') hb
  refine H.turn hi (c' := .obj b (mobj kv M' c')) hset.1 (fun b' hb' => .inl hb') rfl rfl rfl (by simp) (fun b' _ hne => ?_)
  exact hset.2 b' (fun e => hne (by rw [e]; rfl))
theorem mdel_some {kv : κ → Value} {k : κ} {u : Value} : ∀ {M : List (κ × Value × Nat)} {i j : Nat}, midx k M i = some (j, u) → (M.map (ment kv)).eraseIdx (j - i) = (mdel k M).map (ment kv) ∧ i ≤ j
  | [], _, _, h => by cases h
  | x :: M, i, j, h => by
    rw [midx] at h
    by_cases hk : k = x.1
    · rw [if_pos hk] at h; cases h
      rw [mdel, if_pos hk, Nat.sub_self]
      exact ⟨rfl, Nat.le_refl _⟩
    · rw [if_neg hk] at h
      obtain ⟨h1, h3⟩ := mdel_some (kv := kv) h
      rw [mdel, if_neg hk]
      refine ⟨?_, by omega⟩
      rw [show j - i = (j - (i + 1)) + 1 by omega, List.map_cons, List.eraseIdx_cons_succ, h1, List.map_cons]
/-- an entry's stamp. -/
def mborn (M : List (κ × Value × Nat)) (k : κ) : Nat :=
  match M with
  | [] => 0
  | x :: M => if k = x.1 then x.2.2 else mborn M k
theorem mborn_mem {k : κ} : ∀ {M : List (κ × Value × Nat)}, (mget M k).isSome = true → mborn M k ∈ M.map (·.2.2)
  | [], h => by cases h
  | x :: M, h => by
    rw [mget] at h
    rw [mborn]
    by_cases hk : k = x.1
    · rw [if_pos hk]; exact List.mem_cons_self ..
    · rw [if_neg hk] at h ⊢; exact List.mem_cons_of_mem _ (mborn_mem h)
theorem mset_idx {kv : κ → Value} {k : κ} {v : Value} {c : Nat} : ∀ {M : List (κ × Value × Nat)}, (M.map (·.2.2)).Nodup → (mget M k).isSome = true →
    ∃ j, (M.map (ment kv)).findIdx? (fun e => (e.born : Int) == ((mborn M k : Nat) : Int)) = some j ∧ (M.map (ment kv)).modify j (fun e => { e with val := v }) = (mput k v c M).map (ment kv)
  | [], _, h => by cases h
  | x :: M, hn, h => by
    rw [List.map_cons, List.nodup_cons] at hn
    rw [mget] at h
    rw [mborn, mput]
    by_cases hk : k = x.1
    · rw [if_pos hk, if_pos hk]
      exact ⟨0, by simp [ment, List.findIdx?_cons], by simp [ment, hk]⟩
    · rw [if_neg hk] at h
      rw [if_neg hk, if_neg hk]
      obtain ⟨j, h1, h2⟩ := mset_idx (kv := kv) (v := v) (c := c) hn.2 h
      have hne : ¬ ((x.2.2 : Int) = ((mborn M k : Nat) : Int)) := fun e => hn.1 (by have : x.2.2 = mborn M k := by omega
                                                                                    rw [this]; exact mborn_mem h)
      refine ⟨j + 1, ?_, by rw [List.map_cons, List.modify_succ_cons, h2, List.map_cons]⟩
      rw [List.map_cons, List.findIdx?_cons, h1]
      simp [ment, hne]
theorem mborn_put {k : κ} {v : Value} {c : Nat} : ∀ {M : List (κ × Value × Nat)}, (mborn (mput k v c M) k = if (mget M k).isSome then mborn M k else c) ∧ (mget (mput k v c M) k).isSome = true
  | [] => by simp [mput, mborn, mget]
  | x :: M => by
    rw [mput, mget]
    by_cases hk : k = x.1
    · rw [if_pos hk, if_pos hk]; simp [mborn, mget, hk]
    · rw [if_neg hk, if_neg hk]
      obtain ⟨h1, h2⟩ := mborn_put (k := k) (v := v) (c := c) (M := M)
      rw [mborn, if_neg hk, h1, mborn, if_neg hk, mget, if_neg hk]
      exact ⟨rfl, h2⟩
theorem midx_born {kv : κ → Value} {k : κ} {u : Value} : ∀ {M : List (κ × Value × Nat)} {i j : Nat}, midx k M i = some (j, u) → (((M.map (ment kv))[j - i]?).map (·.born)).getD 0 = mborn M k
  | [], _, _, h => by cases h
  | x :: M, i, j, h => by
    have h0 := h
    rw [midx] at h
    by_cases hk : k = x.1
    · rw [if_pos hk] at h; cases h
      rw [mborn, if_pos hk, Nat.sub_self]; simp [ment]
    · rw [if_neg hk] at h
      have h3 := (mdel_some (kv := kv) h).2
      rw [mborn, if_neg hk, ← midx_born (kv := kv) h, show j - i = (j - (i + 1)) + 1 by omega, List.map_cons, List.getElem?_cons_succ]
/-- an entry is there, or is made. -/
theorem o_ment {kv : κ → Value} {M : List (κ × Value × Nat)} {c i b : Nat} {k : κ} {z : Value} (H : Hp w0 w S L) (hi : L[i]? = some (.obj b (mobj kv M c))) (hu : P.underlying t = some (.map kt et)) (hK : KeyOf P kt kv) (hz : ∀ w, (zeroValue et).run P w = .ok z w)
    (hx : ev n σ x = .map (some b)) (hy : ev n σ y = kv k) (h : ∀ w', Hp w0 w' S (L.set i (.obj b (mobj kv (mput k ((mget M k).getD z) c M) (mclk M k c)))) → K (mk n (up σ d (.tuple #[(mget M k).getD z, VI ((mborn (mput k ((mget M k).getD z) c M) k : Nat) : Int)]))) w') :
    Oper.wp P ⟨some d, .mapEntry t x y, ty, pos, aft, g⟩ (mk n σ) w K Q := by
  have hb : w.heap[b]? = some (.map (M.map (ment kv)).toArray c) := H.has _ (List.mem_of_getElem? hi)
  have hg : (Instr.mapEntry t (.map (some b)) (kv k)).run P w = .ok (.tuple #[(mget M k).getD z, VI ((mborn (mput k ((mget M k).getD z) c M) k : Nat) : Int)]) { w with heap := w.heap.setIfInBounds b (mobj kv (mput k ((mget M k).getD z) c M) (mclk M k c)) } := by
    rw [mborn_put.1]
    unfold Instr.mapEntry
    simp only [Sem.run_bind, run_underlying hu, Result.andThen_ok, MapKept.run_getObj_map hb, hK.chk]
    have hf := hK.fnd k M w
    cases hm : midx k M 0 with
    | none =>
      rw [hm] at hf
      obtain ⟨h1, h2⟩ := mput_none (v := (mget M k).getD z) (c := c) hm
      have e : mobj kv (mput k ((mget M k).getD z) c M) (mclk M k c) = .map ((M.map (ment kv)).toArray.push { key := kv k, val := z, born := c }) (c + 1) := by
        rw [mobj, h1, mclk, h2]; simp [ment]
      rw [e, h2]
      simp [hf, hz, MapKept.run_setObj_map _ hb, goInt]
    | some r =>
      obtain ⟨j, u⟩ := r
      rw [hm] at hf
      obtain ⟨h1, h2, _⟩ := mput_some (kv := kv) (v := u) (c := c) hm
      have hbn := midx_born (kv := kv) hm
      obtain ⟨xx, m, hj, hM, hk1, hk2⟩ := midx_some hm
      rw [Nat.sub_zero] at h1 hbn
      have hjm : j = m := by omega
      subst hjm
      have e : mobj kv (mput k ((mget M k).getD z) c M) (mclk M k c) = .map ((M.map (ment kv)).toArray.modify j fun e => { e with key := kv k }) c := by
        rw [h2, Option.getD_some, mobj, ← h1, mclk, h2]
        simp only [Option.isSome_some, if_true, List.modify_toArray]
        congr 2
        apply List.ext_getElem?
        intro q
        rw [List.getElem?_modify, List.getElem?_modify]
        by_cases hq : j = q
        · subst hq; simp [hM, ment, hk2]
        · simp [hq]
      have hold : (((M.map (ment kv)).toArray[j]?).map (·.key)).getD (kv k) = kv k := by
        simp [hM, ment, hk1]
      have hst := keyStays (w := w) k hK
      have hbn' : (((M.map (ment kv)).toArray[j]?).map (fun x => (x.born : Int))).getD 0 = ((mborn M k : Nat) : Int) := by rw [← hbn]; simp [hM]
      rw [e, h2]
      simp only [hf, Result.andThen_ok]
      rw [Sem.run_bind, hold, hst, Result.andThen_ok, Sem.run_bind, MapKept.run_setObj_map _ hb, Result.andThen_ok, hbn']
      rfl
  refine o_val (v := .tuple #[(mget M k).getD z, VI ((mborn (mput k ((mget M k).getD z) c M) k : Nat) : Int)]) (w' := { w with heap := w.heap.setIfInBounds b (mobj kv (mput k ((mget M k).getD z) c M) (mclk M k c)) }) ?_ (h _ (H.mset hi))
  simp only [execOp, hx, hy, Sem.run_bind, hg, Result.andThen_ok]; rfl
/-- the entry of a stamp gets a value. -/
theorem o_mset {kv : κ → Value} {M : List (κ × Value × Nat)} {c c' i b : Nat} {k : κ} {v : Value} {z : Operand} (H : Hp w0 w S L) (hi : L[i]? = some (.obj b (mobj kv M c))) (hM : MOk M c) (hs : (mget M k).isSome = true)
    (hx : ev n σ x = .map (some b)) (hy : ev n σ y = VI ((mborn M k : Nat) : Int)) (hv : ev n σ z = v) (h : ∀ w', Hp w0 w' S (L.set i (.obj b (mobj kv (mput k v c' M) c))) → K (mk n σ) w') :
    Oper.wp P ⟨none, .entryStore t x y z, ty, pos, aft, g⟩ (mk n σ) w K Q := by
  have hb : w.heap[b]? = some (.map (M.map (ment kv)).toArray c) := H.has _ (List.mem_of_getElem? hi)
  obtain ⟨j, h1, h2⟩ := mset_idx (kv := kv) (v := v) (c := c') hM.born hs
  have hg : (Instr.entryStore t (.map (some b)) (VI ((mborn M k : Nat) : Int)) v).run P w = .ok () { w with heap := w.heap.setIfInBounds b (mobj kv (mput k v c' M) c) } := by
    have e : mobj kv (mput k v c' M) c = .map ((M.map (ment kv)).toArray.modify j fun e => { e with val := v }) c := by rw [mobj, ← h2]; simp
    unfold Instr.entryStore
    rw [e]
    have h1' : (M.map (ment kv)).toArray.findIdx? (fun e => (e.born : Int) == ((mborn M k : Nat) : Int)) = some j := by simpa using h1
    simp [MapKept.run_getObj_map hb, asInt, asIntOf, h1', MapKept.run_setObj_map _ hb]
  exact o_skip (w' := { w with heap := w.heap.setIfInBounds b (mobj kv (mput k v c' M) c) }) (by simp only [execOp, hx, hy, hv, Sem.run_bind, hg, Result.andThen_ok]; rfl) (h _ (H.mset hi))
end
end Go.Proofs.Ytomjbabllcmodaa
namespace Go.Proofs.Ytomjbabllcmodaa
open Go
/-- 32 bytes. -/
abbrev Id32 := { l : List UInt8 // l.length = 32 }
section
variable {P : Program} {Q : Exit → Act → World → Prop} {n : Nat} {σ : Nat → Value} {w w0 : World} {K : Act → World → Prop}
  {ty : TypeId} {pos : String} {aft : Array Edge} {g : Option (Nat × Bool)} {d : Nat} {t e k' yt : TypeId} {x y : Operand} {S : List Nat} {L : List Ch}
theorem r_stradd {a b : List UInt8} (hx : ev n σ x = .string ⟨a.toArray⟩) (hy : ev n σ y = .string ⟨b.toArray⟩) (hl : a.length + b.length ≤ 9223372036854775807) :
    (execOp (ev n σ) ⟨some d, .binOp .add t x y yt, ty, pos, aft, g⟩).run P w = .ok (.value (.string ⟨(a ++ b).toArray⟩)) w :=
  r_str hx hy (fun w => by
    have e1 : ((⟨a.toArray⟩ : ByteArray) ++ ⟨b.toArray⟩) = ⟨(a ++ b).toArray⟩ := by
      apply ByteArray.ext
      rw [ByteArray.data_append]
      simp
    have e2 : ¬ ((((⟨a.toArray⟩ : ByteArray).size + (⟨b.toArray⟩ : ByteArray).size : Nat) : Int) > IntKind.i64.max) := by
      have h1 : (⟨a.toArray⟩ : ByteArray).size = a.length := rfl
      have h2 : (⟨b.toArray⟩ : ByteArray).size = b.length := rfl
      have h3 : IntKind.i64.max = 9223372036854775807 := rfl
      omega
    simp only [Op.stringOp, if_neg e2, e1]
    rfl) (by decide)
end
end Go.Proofs.Ytomjbabllcmodaa
namespace Go.Proofs.Ytomjbabllcmodaa
open Go
def keys (L : List Ch) : List Nat := L.filterMap Ch.key
/-- chunks that stand in a world, no two of one block. -/
def Own (w : World) (L : List Ch) : Prop := (∀ c ∈ L, c.ok w) ∧ L.Pairwise fun c e => ∀ b, c.key = some b → e.key ≠ some b
theorem Hp.owns {w0 w : World} {S : List Nat} {L : List Ch} (h : Hp w0 w S L) : Own w L := ⟨h.has, h.nd⟩
theorem Own.sub {w : World} {L L' : List Ch} (h : Own w L) (hs : L'.Sublist L) : Own w L' := ⟨fun c hc => h.1 c (hs.subset hc), h.2.sublist hs⟩
theorem nd_symm {c e : Ch} (h : ∀ b, c.key = some b → e.key ≠ some b) : ∀ b, e.key = some b → c.key ≠ some b := fun b h1 h2 => h b h2 h1
theorem Hp.permL {w0 w : World} {S : List Nat} {L L' : List Ch} (h : Hp w0 w S L) (hp : L.Perm L') : Hp w0 w S L' :=
  ⟨h.os, h.tape, h.output, h.size, h.frame, fun c hc => h.has c (hp.mem_iff.2 hc), fun c hc => h.fresh c (hp.mem_iff.2 hc), h.nd.perm hp (fun h => nd_symm h)⟩
theorem perm_front {α : Type} {c : α} : ∀ {L : List α} {j : Nat}, L[j]? = some c → L.Perm (c :: L.eraseIdx j)
  | a :: L, 0, h => by cases h; exact .refl _
  | a :: L, j + 1, h => by
    have := perm_front (L := L) (j := j) h
    exact (List.Perm.cons a this).trans (.swap ..)
theorem mem_keys {L : List Ch} {b : Nat} : b ∈ keys L ↔ ∃ c ∈ L, c.key = some b := List.mem_filterMap
theorem Own.start {w : World} {L : List Ch} (h : Own w L) : Hp w w (keys L) L :=
  ⟨rfl, rfl, rfl, Nat.le_refl _, fun _ _ _ => rfl, h.1, fun c hc b hb => .inl (mem_keys.2 ⟨c, hc, hb⟩), h.2⟩
theorem Hp.callG {w0 w w' : World} {S : List Nat} {L L1 L1' Lr : List Ch} (h : Hp w0 w S L) (hL : L = L1 ++ Lr) (hc : Hp w w' (keys L1) L1') : Hp w0 w' S (Lr ++ L1') := by
  subst hL
  obtain ⟨n1, n2, n3⟩ := List.pairwise_append.1 h.nd
  have out : ∀ e ∈ Lr, ∀ b, e.key = some b → b < w.heap.size ∧ b ∉ keys L1 := fun e he b hb =>
    ⟨Ch.lt (h.has e (List.mem_append_right _ he)) hb, fun hm => by
      obtain ⟨c, hcm, hcb⟩ := mem_keys.1 hm
      exact n3 c hcm e he b hcb hb⟩
  refine ⟨hc.os.trans h.os, hc.tape.trans h.tape, hc.output.trans h.output, Nat.le_trans h.size hc.size, fun b hlt hn => ?_, fun c hcm => ?_, fun c hcm b hb => ?_, ?_⟩
  · have hk : b ∉ keys L1 := fun hm => by
      obtain ⟨c, hcm, hcb⟩ := mem_keys.1 hm
      rcases h.fresh c (List.mem_append_left _ hcm) b hcb with h1 | h1
      · exact hn h1
      · omega
    exact (hc.frame b (Nat.lt_of_lt_of_le hlt h.size) hk).trans (h.frame b hlt hn)
  · rcases List.mem_append.1 hcm with h1 | h1
    · exact Ch.ok_of (h.has c (List.mem_append_right _ h1)) fun b hb => hc.frame b (out c h1 b hb).1 (out c h1 b hb).2
    · exact hc.has c h1
  · rcases List.mem_append.1 hcm with h1 | h1
    · exact h.fresh c (List.mem_append_right _ h1) b hb
    · rcases hc.fresh c h1 b hb with h2 | h2
      · obtain ⟨e, hem, heb⟩ := mem_keys.1 h2
        exact h.fresh e (List.mem_append_left _ hem) b heb
      · exact .inr (Nat.le_trans h.size h2)
  · refine List.pairwise_append.2 ⟨n2, hc.nd, fun e he c hcm b hb hb2 => ?_⟩
    have ho := out e he b hb
    rcases hc.fresh c hcm b hb2 with h2 | h2
    · exact ho.2 h2
    · omega
theorem Hp.own1 {w0 w : World} {S : List Nat} {L L1 Lr : List Ch} (h : Hp w0 w S L) (hL : L = L1 ++ Lr) : Own w L1 := by
  subst hL; exact h.owns.sub (List.sublist_append_left ..)
theorem Hp.ownP {w0 w : World} {S : List Nat} {L LL L1 Lr : List Ch} (h : Hp w0 w S L) (hp : L.Perm LL) (hL : LL = L1 ++ Lr) : Own w L1 := (h.permL hp).own1 hL
theorem Hp.callP {w0 w w' : World} {S : List Nat} {L LL L1 L1' Lr L' : List Ch} (h : Hp w0 w S L) (hp : L.Perm LL) (hL : LL = L1 ++ Lr) (hc : Hp w w' (keys L1) L1') (hq : (Lr ++ L1').Perm L') : Hp w0 w' S L' :=
  ((h.permL hp).callG hL hc).permL hq
end Go.Proofs.Ytomjbabllcmodaa
namespace Go.Proofs.Ytomjbabllcmodaa
open Go Go.MapKept
set_option maxRecDepth 100000
section
variable {κ α : Type} [DecidableEq κ] {enc : α → Value} {M : List (κ × Value × Nat)} {F : κ → Option α}
/-- a map's entries are those of a function. -/
def MIs (enc : α → Value) (M : List (κ × Value × Nat)) (F : κ → Option α) : Prop := ∀ k, mget M k = (F k).map enc
def fput (F : κ → Option α) (k : κ) (v : α) : κ → Option α := fun j => if j = k then some v else F j
theorem MIs.nil : MIs enc ([] : List (κ × Value × Nat)) (fun _ => none) := fun _ => rfl
theorem MIs.put (h : MIs enc M F) (k : κ) (v : α) (c : Nat) : MIs enc (mput k (enc v) c M) (fput F k v) := fun j => by
  rw [mget_put, fput, h j]; split <;> rfl
theorem MIs.ent (h : MIs enc M F) (k : κ) (v : α) {X : Value} {c : Nat} : MIs enc (mput k (enc v) 0 (mput k X c M)) (fput F k v) := fun j => by
  rw [mget_put, mget_put, fput, h j]; split <;> rfl
theorem mput_cc {k : κ} {v : Value} (c c' : Nat) : ∀ {M : List (κ × Value × Nat)}, (mget M k).isSome = true → mput k v c M = mput k v c' M
  | [], h => by cases h
  | x :: M, h => by
    rw [mget] at h
    rw [mput, mput]
    by_cases hk : k = x.1
    · rw [if_pos hk, if_pos hk]
    · rw [if_neg hk] at h; rw [if_neg hk, if_neg hk, mput_cc c c' h]
theorem MOk.ent {k : κ} {X v : Value} {c c1 : Nat} (h : MOk (mput k X c M) c1) : MOk (mput k v 0 (mput k X c M)) c1 := by
  have h1 := h.put k v
  have h2 : mclk (mput k X c M) k c1 = c1 := if_pos mborn_put.2
  rw [h2, mput_cc c1 0 mborn_put.2] at h1
  exact h1
theorem MIs.getD (h : MIs enc M F) (k : κ) (z : α) : (mget M k).getD (enc z) = enc ((F k).getD z) := by
  rw [h k]; cases F k <;> rfl
theorem MIs.isSome (h : MIs enc M F) (k : κ) : (mget M k).isSome = (F k).isSome := by
  rw [h k]; cases F k <;> rfl
end
section
variable {κ α : Type} [DecidableEq κ] {P : Program} {n : Nat} {σ : Nat → Value} {w w0 : World}
  {ty : TypeId} {pos : String} {aft : Array Edge} {g : Option (Nat × Bool)} {d : Nat} {t kt et : TypeId} {x y : Operand} {S : List Nat} {L : List Ch}
/-- a look-up, told by the function. -/
theorem r_lookF {kv : κ → Value} {enc : α → Value} {M : List (κ × Value × Nat)} {F : κ → Option α} {c i b : Nat} {k : κ} (z : α) (hF : MIs enc M F) (H : Hp w0 w S L) (hi : L[i]? = some (.obj b (mobj kv M c))) (hu : P.underlying t = some (.map kt et)) (hK : KeyOf P kt kv) (hz : ∀ w, (zeroValue et).run P w = .ok (enc z) w)
    (hx : ev n σ x = .map (some b)) (hy : ev n σ y = kv k) :
    (execOp (ev n σ) ⟨some d, .lookup t x y false, ty, pos, aft, g⟩).run P w = .ok (.value (enc ((F k).getD z))) w := by
  have := r_look (P := P) (ty := ty) (pos := pos) (aft := aft) (g := g) (d := d) H hi hu hK hz hx hy false
  rw [hF.getD] at this
  exact this
theorem r_lookT {kv : κ → Value} {enc : α → Value} {M : List (κ × Value × Nat)} {F : κ → Option α} {c i b : Nat} {k : κ} (z : α) (hF : MIs enc M F) (H : Hp w0 w S L) (hi : L[i]? = some (.obj b (mobj kv M c))) (hu : P.underlying t = some (.map kt et)) (hK : KeyOf P kt kv) (hz : ∀ w, (zeroValue et).run P w = .ok (enc z) w)
    (hx : ev n σ x = .map (some b)) (hy : ev n σ y = kv k) :
    (execOp (ev n σ) ⟨some d, .lookup t x y true, ty, pos, aft, g⟩).run P w = .ok (.value (.tuple #[enc ((F k).getD z), .bool (F k).isSome])) w := by
  have := r_look (P := P) (ty := ty) (pos := pos) (aft := aft) (g := g) (d := d) H hi hu hK hz hx hy true
  rw [hF.getD, hF.isSome] at this
  exact this
end
end Go.Proofs.Ytomjbabllcmodaa
namespace Go.Proofs.Ytomjbabllcmodaa
open Go Go.MapKept
set_option linter.unusedSectionVars false
section
variable {κ α : Type} [DecidableEq κ] {P : Program} {Q : Exit → Act → World → Prop} {n : Nat} {σ : Nat → Value} {w w0 : World} {K : Act → World → Prop}
  {ty : TypeId} {pos : String} {aft : Array Edge} {g : Option (Nat × Bool)} {d : Nat} {t kt et : TypeId} {x : Operand} {S : List Nat} {L : List Ch}
/-- an iterator: which keys it has met. -/
def itO (b : Nat) (M : List (κ × Value × Nat)) (c : Nat) (vis : List κ) : Obj := .mapIter (some b) c (vis.map (mborn M)).toArray c
theorem o_range {kv : κ → Value} {M : List (κ × Value × Nat)} {c i b : Nat} (H : Hp w0 w S L) (hi : L[i]? = some (.obj b (mobj kv M c))) (hu : P.underlying t = some (.map kt et)) (hx : ev n σ x = .map (some b))
    (h : ∀ r w', Hp w0 w' S (L ++ [.obj r (itO b M c [])]) → w0.heap.size ≤ r → K (mk n (up σ d (.pointer (some ⟨r, 0, none⟩)))) w') : Oper.wp P ⟨some d, .range t x, ty, pos, aft, g⟩ (mk n σ) w K Q := by
  have hb : w.heap[b]? = some (.map (M.map (ment kv)).toArray c) := H.has _ (List.mem_of_getElem? hi)
  have hg := run_range_map w t kt et b _ c hu hb
  refine o_val (v := .pointer (some ⟨w.heap.size, 0, none⟩)) (w' := w.alloc (.mapIter (some b) c #[] c)) ?_ (h w.heap.size _ (H.new _ (.obj w.heap.size (itO b M c [])) rfl (heap_alloc_new' w _)) H.size)
  simp only [execOp, hx, Sem.run_bind, hg, Result.andThen_ok]
  rfl
theorem mget_mem {M : List (κ × Value × Nat)} {k : κ} {v : Value} (h : mget M k = some v) : ∃ x ∈ M, x.1 = k ∧ x.2.1 = v ∧ x.2.2 = mborn M k := by
  induction M with
  | nil => cases h
  | cons y M ih =>
    rw [mget] at h
    by_cases e : k = y.1
    · rw [if_pos e] at h; cases h
      exact ⟨y, List.mem_cons_self .., e.symm, rfl, by rw [mborn, if_pos e]⟩
    · rw [if_neg e] at h
      obtain ⟨x, hx, h1, h2, h3⟩ := ih h
      exact ⟨x, List.mem_cons_of_mem _ hx, h1, h2, by rw [mborn, if_neg e]; exact h3⟩
theorem mget_of {M : List (κ × Value × Nat)} (hn : (M.map (·.1)).Nodup) {x : κ × Value × Nat} (h : x ∈ M) : mget M x.1 = some x.2.1 ∧ mborn M x.1 = x.2.2 := by
  induction M with
  | nil => cases h
  | cons y M ih =>
    rw [List.map_cons, List.nodup_cons] at hn
    rw [mget, mborn]
    rcases List.mem_cons.1 h with rfl | h
    · rw [if_pos rfl, if_pos rfl]; exact ⟨rfl, rfl⟩
    · have hne : x.1 ≠ y.1 := fun e => hn.1 (by rw [← e]; exact List.mem_map.2 ⟨x, h, rfl⟩)
      rw [if_neg hne, if_neg hne]; exact ih hn.2 h
theorem born_inj {M : List (κ × Value × Nat)} (hb : (M.map (·.2.2)).Nodup) {x y : κ × Value × Nat} (hx : x ∈ M) (hy : y ∈ M) (e : x.2.2 = y.2.2) : x = y := by
  induction M with
  | nil => cases hx
  | cons z M ih =>
    rw [List.map_cons, List.nodup_cons] at hb
    rcases List.mem_cons.1 hx with h1 | hx
    · rcases List.mem_cons.1 hy with h2 | hy
      · rw [h1, h2]
      · exact absurd (List.mem_map.2 ⟨y, hy, by rw [← e, h1]⟩) hb.1
    · rcases List.mem_cons.1 hy with h2 | hy
      · exact absurd (List.mem_map.2 ⟨x, hx, by rw [e, h2]⟩) hb.1
      · exact ih hb.2 hx hy
theorem o_next {kv : κ → Value} {enc : α → Value} {M : List (κ × Value × Nat)} {F : κ → Option α} {c i j b r : Nat} {vis : List κ} (H : Hp w0 w S L) (hi : L[i]? = some (.obj b (mobj kv M c))) (hj : L[j]? = some (.obj r (itO b M c vis)))
    (hM : MOk M c) (hF : MIs enc M F) (hv : ∀ k ∈ vis, (F k).isSome = true) (hx : ev n σ x = .pointer (some ⟨r, 0, none⟩))
    (h1 : (∀ k, (F k).isSome = true → k ∈ vis) → ∀ w', Hp w0 w' S L → K (mk n (up σ d (.tuple #[.bool false]))) w')
    (h2 : ∀ k a, F k = some a → k ∉ vis → ∀ w', Hp w0 w' S (L.set j (.obj r (itO b M c (vis ++ [k])))) → K (mk n (up σ d (.tuple #[.bool true, kv k, enc a]))) w') :
    Oper.wp P ⟨some d, .next x false, ty, pos, aft, g⟩ (mk n σ) w K Q := by
  have hb : w.heap[b]? = some (.map (M.map (ment kv)).toArray c) := H.has _ (List.mem_of_getElem? hi)
  have hr : w.heap[r]? = some (.mapIter (some b) c (vis.map (mborn M)).toArray c) := H.has _ (List.mem_of_getElem? hj)
  have hin : ∀ k ∈ vis, ∃ y ∈ M, y.1 = k ∧ y.2.2 = mborn M k := fun k hk => by
    have h3 := hv k hk
    rw [← hF.isSome] at h3
    obtain ⟨v, hv'⟩ := Option.isSome_iff_exists.1 h3
    obtain ⟨y, hy, e1, _, e3⟩ := mget_mem hv'
    exact ⟨y, hy, e1, e3⟩
  rcases run_next_at (P := P) w ty r b c c _ _ c hr hb (fun y hy => by
      simp only [List.mem_map] at hy
      obtain ⟨z, hz, rfl⟩ := hy
      exact hM.old z hz) (Nat.le_refl c) with ⟨h0, hrun⟩ | ⟨e, he, w1, hw1, hrun⟩
  · refine o_val (v := .tuple #[.bool false]) (w' := w) ?_ (h1 (fun k hk => ?_) w H)
    · simp only [execOp, hx, Sem.run_bind, hrun, Result.andThen_ok]; rfl
    · rw [← hF.isSome] at hk
      obtain ⟨v, hv'⟩ := Option.isSome_iff_exists.1 hk
      obtain ⟨y, hy, e1, _, e3⟩ := mget_mem hv'
      have hemp := Array.eq_empty_of_size_eq_zero h0
      rw [leftOf, Array.filter_eq_empty_iff] at hemp
      have := hemp (ment kv y) (by simp only [List.mem_toArray]; exact List.mem_map.2 ⟨y, hy, rfl⟩)
      simp only [ment, Bool.not_eq_true, Bool.not_eq_false', List.contains_toArray, List.contains_iff_mem, List.mem_map] at this
      obtain ⟨k', hk', e4⟩ := this
      obtain ⟨z, hz, f1, f3⟩ := hin k' hk'
      have := born_inj hM.born hz hy (by rw [f3, e4])
      rw [← e1, ← this, f1]; exact hk'
  · have hsp : ∃ y ∈ M, e = ment kv y ∧ ∀ k ∈ vis, mborn M k ≠ y.2.2 := by
      rw [leftOf] at he
      simp only [Array.mem_toList_iff, Array.mem_filter, List.mem_toArray, List.mem_map] at he
      obtain ⟨⟨y, hy, rfl⟩, hc⟩ := he
      refine ⟨y, hy, rfl, fun k hk e => ?_⟩
      have : ((vis.map (mborn M)).toArray.contains (ment kv y).born) = true := by
        simp only [List.contains_toArray, List.contains_iff_mem, List.mem_map]
        exact ⟨k, hk, e⟩
      rw [this] at hc; cases hc
    obtain ⟨y, hy, rfl, hny⟩ := hsp
    obtain ⟨g1, g2⟩ := mget_of hM.keys hy
    have hFa : ∃ a, F y.1 = some a ∧ enc a = y.2.1 := by
      have := hF y.1
      rw [g1] at this
      cases hf : F y.1 with
      | none => rw [hf] at this; cases this
      | some a => rw [hf] at this; exact ⟨a, rfl, (Option.some.inj this).symm⟩
    obtain ⟨a, ha, hea⟩ := hFa
    have hH1 : Hp w0 w1 S L := by
      rcases hw1 with rfl | rfl
      · exact H
      · exact H.drew
    have hr1 : w1.heap[r]? = some (.mapIter (some b) c (vis.map (mborn M)).toArray c) := by rcases hw1 with rfl | rfl <;> exact hr
    have hito : (Obj.mapIter (some b) c ((vis.map (mborn M)).toArray.push (ment kv y).born) c) = itO b M c (vis ++ [y.1]) := by
      rw [itO, List.map_append, List.map_cons, List.map_nil, g2]; simp [ment]
    rw [hito] at hrun
    have hset := heap_set (o' := itO b M c (vis ++ [y.1])) hr1
    refine o_val (v := .tuple #[.bool true, kv y.1, enc a]) (w' := ChangeMaps.setBlock w1 r (itO b M c (vis ++ [y.1]))) ?_ (h2 y.1 a ha (fun hk => hny _ hk g2) _ ?_)
    · simp only [execOp, hx, Sem.run_bind, hrun, Result.andThen_ok, hea]; rfl
    · refine hH1.turn hj (c' := .obj r (itO b M c (vis ++ [y.1]))) hset.1 (fun b' hb' => .inl hb') rfl rfl rfl (by simp [ChangeMaps.setBlock]) (fun b' _ hne => ?_)
      exact hset.2 b' (fun e => hne (by rw [e]; rfl))
theorem r_entry {kv : κ → Value} {enc : α → Value} {M : List (κ × Value × Nat)} {F : κ → Option α} {c i j b r : Nat} {vis : List κ} {k : κ} {a : α} (H : Hp w0 w S L) (hi : L[i]? = some (.obj b (mobj kv M c))) (hj : L[j]? = some (.obj r (itO b M c (vis ++ [k]))))
    (hM : MOk M c) (hF : MIs enc M F) (ha : F k = some a) (hx : ev n σ x = .pointer (some ⟨r, 0, none⟩)) :
    (execOp (ev n σ) ⟨some d, .entry x, ty, pos, aft, g⟩).run P w = .ok (.value (.tuple #[kv k, enc a])) w := by
  have hb : w.heap[b]? = some (.map (M.map (ment kv)).toArray c) := H.has _ (List.mem_of_getElem? hi)
  have hr : w.heap[r]? = some (.mapIter (some b) c ((vis ++ [k]).map (mborn M)).toArray c) := H.has _ (List.mem_of_getElem? hj)
  have hg := hF k
  rw [ha] at hg
  obtain ⟨y, hy, e1, e2, e3⟩ := mget_mem hg
  have hrun := run_entry_at (P := P) w r b c ((vis.map (mborn M)).toArray) _ c (ment kv y) (by rw [hr]; simp [ment, e3]) hb (by simp only []; exact List.mem_map.2 ⟨y, hy, rfl⟩) (by
    have := hM.born
    simpa [List.map_map, Function.comp_def, ment] using this)
  simp only [execOp, hx, Sem.run_bind, hrun, Result.andThen_ok, ment, e1, e2]
  rfl
end
theorem nd_le {α : Type} [DecidableEq α] : ∀ {l m : List α}, l.Nodup → (∀ x ∈ l, x ∈ m) → l.length ≤ m.length
  | [], m, _, _ => Nat.zero_le _
  | a :: l, m, hn, hs => by
    rw [List.nodup_cons] at hn
    have h1 := nd_le (l := l) (m := m.erase a) hn.2 (fun x hx => (List.mem_erase_of_ne (fun e => hn.1 (by rw [← e]; exact hx))).2 (hs x (List.mem_cons_of_mem _ hx)))
    have h2 := List.length_erase_of_mem (hs a (List.mem_cons_self ..))
    have h3 := List.length_pos_of_mem (hs a (List.mem_cons_self ..))
    rw [List.length_cons]; omega
theorem vis_le {κ α : Type} [DecidableEq κ] {enc : α → Value} {M : List (κ × Value × Nat)} {F : κ → Option α} (hF : MIs enc M F) {vis : List κ} (hn : vis.Nodup) (hv : ∀ k ∈ vis, (F k).isSome = true) : vis.length ≤ M.length := by
  have := nd_le (m := M.map (·.1)) hn (fun x hx => by
    have h1 := hv x hx
    rw [← hF.isSome] at h1
    obtain ⟨v, h2⟩ := Option.isSome_iff_exists.1 h1
    obtain ⟨y, hy, e, _⟩ := mget_mem h2
    exact List.mem_map.2 ⟨y, hy, e⟩)
  rwa [List.length_map] at this
theorem vis_snoc {κ α : Type} [DecidableEq κ] {F : κ → Option α} {vis : List κ} {k : κ} {a : α} (hn : vis.Nodup) (hv : ∀ k ∈ vis, (F k).isSome = true) (hf : F k = some a) (hk : k ∉ vis) : (vis ++ [k]).Nodup ∧ ∀ j ∈ vis ++ [k], (F j).isSome = true := by
  refine ⟨?_, fun j hj => ?_⟩
  · rw [List.nodup_append]
    refine ⟨hn, by simp, fun x hx y hy e => ?_⟩
    rw [List.mem_singleton] at hy
    exact hk (by rw [← hy, ← e]; exact hx)
  · rcases List.mem_append.1 hj with h | h
    · exact hv j h
    · rw [List.mem_singleton.1 h, hf]; rfl
end Go.Proofs.Ytomjbabllcmodaa
namespace Go.Proofs.Ytomjbabllcmodaa
open Go
/-- C is A, then B at a of b cells, then D. -/
structure Cut3 (C A B D : List Value) (a b : Nat) : Prop where
  e : C = A ++ (B ++ D)
  ha : A.length = a
  hb : B.length = b
section
variable {C A B D V : List Value} {a b : Nat}
theorem Cut3.get {v : Value} (h : Cut3 C A [v] D a 1) : C[a]? = some v := by
  rw [h.e, ← h.ha, List.getElem?_append_right (Nat.le_refl _), Nat.sub_self]; rfl
theorem Cut3.seg (h : Cut3 C A B D a b) : (C.drop a).take b = B := by
  rw [h.e, ← h.ha, ← h.hb, List.drop_left, List.take_left]
theorem Cut3.le (h : Cut3 C A B D a b) : a + b ≤ C.length := by
  rw [h.e, List.length_append, List.length_append, h.ha, h.hb]; omega
theorem Cut3.put (h : Cut3 C A B D a b) : C.take a ++ V ++ C.drop (a + b) = A ++ (V ++ D) := by
  rw [h.e, ← h.ha, ← h.hb, List.take_left, ← List.drop_drop, List.drop_left, List.drop_left, List.append_assoc]
theorem Cut3.set1 {v u : Value} (h : Cut3 C A [v] D a 1) : C.set a u = A ++ ([u] ++ D) := by
  rw [h.e, ← h.ha, List.set_append_right _ _ (Nat.le_refl _), Nat.sub_self]; rfl
theorem fill_step {places : Nat → Option (Nat × Nat)} {k : Nat} {v : Value} {rest : List (Nat × Value)} (hp : places k = some (a, b)) (h : Cut3 C A B D a b) (hv : v.cells.toList = V) (hl : V.length = b) :
    Instr.fill places C.toArray ((k, v) :: rest) = Instr.fill places (A ++ (V ++ D)).toArray rest := by
  have hs : v.cells.size = b := by rw [← hl, ← hv, Array.length_toList]
  have hn : ¬ ((v.cells.size ≠ b || a + v.cells.size > C.toArray.size) = true) := by
    have := h.le
    simp [hs]; omega
  have h2 : ∀ (vs done zs : List Value), zs.length = vs.length → (vs.zipIdx done.length).foldl (fun (acc : Array Value) (p : Value × Nat) => acc.setIfInBounds (A.length + p.2) p.1) (A ++ done ++ zs ++ D).toArray = (A ++ done ++ vs ++ D).toArray := by
    intro vs
    induction vs with
    | nil => intro done zs hz; have : zs = [] := List.length_eq_zero_iff.1 (by simpa using hz); subst this; simp
    | cons v vs ih =>
      intro done zs hz
      cases zs with
      | nil => simp at hz
      | cons z zs =>
        have := ih (done ++ [v]) zs (by simpa using hz)
        simp only [List.length_append, List.length_singleton, List.append_assoc, List.cons_append, List.nil_append] at this
        rw [List.zipIdx_cons, List.foldl_cons]
        simp only [List.append_assoc, List.cons_append]
        rw [← this]
        congr 1
        simp []
  have h3 := h2 V [] B (by rw [hl, h.hb])
  simp only [Instr.fill, hp]
  rw [if_neg hn]
  simp only [List.append_nil, List.length_nil] at h3
  rw [h.ha] at h3
  have e1 : v.cells.zipIdx.foldl (fun (acc : Array Value) (p : Value × Nat) => acc.setIfInBounds (a + p.2) p.1) C.toArray = (A ++ (V ++ D)).toArray := by
    rw [h.e, ← List.append_assoc, ← List.append_assoc, ← h3]
    have : v.cells.zipIdx = (V.zipIdx 0).toArray := by rw [← hv]; simp [← Array.toList_inj]
    rw [this]; simp
  first | exact congrArg (fun z => Instr.fill places z rest) e1 | (rw [← e1])
inductive Fills (places : Nat → Option (Nat × Nat)) : List Value → List (Nat × Value) → List Value → Prop
  | nil (C : List Value) : Fills places C [] C
  | cons {C A B D V E : List Value} {a b k : Nat} {v : Value} {rest : List (Nat × Value)} : places k = some (a, b) → Cut3 C A B D a b → v.cells.toList = V → V.length = b → Fills places (A ++ (V ++ D)) rest E → Fills places C ((k, v) :: rest) E
theorem Fills.run {places : Nat → Option (Nat × Nat)} {C E : List Value} {pv : List (Nat × Value)} (h : Fills places C pv E) : Instr.fill places C.toArray pv = some E.toArray := by
  induction h with
  | nil C => rfl
  | cons hp hc hv hl _ ih => rw [fill_step hp hc hv hl, ih]
end
section
variable {P : Program} {Q : Exit → Act → World → Prop} {n : Nat} {σ : Nat → Value} {w w0 : World} {K : Act → World → Prop}
  {ty : TypeId} {pos : String} {aft : Array Edge} {g : Option (Nat × Bool)} {d : Nat} {t : TypeId} {x y : Operand} {S : List Nat} {L : List Ch} {C A B D : List Value} {a k : Nat}
theorem r_bldG {parts : Array (Nat × Operand)} {zs : Array Value} {places : Nat → Option (Nat × Nat)} {pv : List (Nat × Value)} {Z E : List Value} (hB : Bld P t zs places) (hz : zs = Z.toArray) (hp0 : pvs n σ parts.toList = pv) (hf : Fills places Z pv E) :
    (execOp (ev n σ) ⟨some d, .build t parts, ty, pos, aft, g⟩).run P w = .ok (.value (.agg E.toArray)) w :=
  r_bld' hB hp0 (by rw [hz]; exact hf.run)
/-- a part of a struct in memory. -/
theorem r_l1 {b i : Nat} {v : Value} {T : TypeId} (H : Hp w0 w S L) (hi : L[i]? = some (.blk b C T)) (hx : ev n σ x = .pointer (some ⟨b, a, none⟩)) (ht : cellTy P t = true) (h : Cut3 C A [v] D a 1) :
    (execOp (ev n σ) ⟨some d, .load t x, ty, pos, aft, g⟩).run P w = .ok (.value v) w := r_ld H hi hx ht h.get
theorem r_lk {b i : Nat} {T : TypeId} (H : Hp w0 w S L) (hi : L[i]? = some (.blk b C T)) (hx : ev n σ x = .pointer (some ⟨b, a, none⟩)) (ht : rowTy P t = some k) (h : Cut3 C A B D a k) :
    (execOp (ev n σ) ⟨some d, .load t x, ty, pos, aft, g⟩).run P w = .ok (.value (.agg B.toArray)) w := by
  rw [← h.seg]; exact r_ldr H hi hx ht h.le
theorem o_s1 {b i : Nat} {v u : Value} {T : TypeId} (H : Hp w0 w S L) (hi : L[i]? = some (.blk b C T)) (hx : ev n σ x = .pointer (some ⟨b, a, none⟩)) (hy : ev n σ y = u) (hs : cellSz P t = some 1) (h1 : u.oneCell' = true) (hc : Cut3 C A [v] D a 1)
    (h : ∀ w', Hp w0 w' S (L.set i (.blk b (A ++ ([u] ++ D)) T)) → K (mk n σ) w') : Oper.wp P ⟨none, .store t x y, ty, pos, aft, g⟩ (mk n σ) w K Q := by
  refine o_st H hi hx hy hs h1 (by have := hc.le; omega) fun w' H' => h w' ?_
  rwa [hc.set1] at H'
theorem o_sk {b i : Nat} {V : List Value} {T : TypeId} (H : Hp w0 w S L) (hi : L[i]? = some (.blk b C T)) (hx : ev n σ x = .pointer (some ⟨b, a, none⟩)) (hy : ev n σ y = .agg V.toArray) (hs : cellSz P t = some k) (h1 : V.all (·.oneCell') = true) (hV : V.length = k) (hc : Cut3 C A B D a k)
    (h : ∀ w', Hp w0 w' S (L.set i (.blk b (A ++ (V ++ D)) T)) → K (mk n σ) w') : Oper.wp P ⟨none, .store t x y, ty, pos, aft, g⟩ (mk n σ) w K Q := by
  refine o_sr H hi hx hy (by rw [hs, List.size_toArray, hV]) (by rw [List.all_toArray]; exact h1) (by rw [List.size_toArray, hV]; exact hc.le) fun w' H' => h w' ?_
  rw [List.size_toArray, hV, hc.put] at H'
  exact H'
/-- a part of a struct of a slice. -/
theorem r_g1 {α : Type} {enc : α → List Value} {sz : Nat} {s : Gl α} {b o j : Nat} {c : α} {v : Value} (hs : s.ok enc sz w) (ha : s.a = some ⟨b, o, none⟩) (hx : ev n σ x = .pointer (some ⟨b, o + j * sz + a, none⟩)) (ht : cellTy P t = true) (hk : s.l[j]? = some c) (hoff : a < sz) (h : Cut3 (enc c) A [v] D a 1) :
    (execOp (ev n σ) ⟨some d, .load t x, ty, pos, aft, g⟩).run P w = .ok (.value v) w := r_ldFld hs ha hx ht hk hoff h.get
end
end Go.Proofs.Ytomjbabllcmodaa
namespace Go.Proofs.Ytomjbabllcmodaa
open Go Go.MapKept
theorem Hp.permT {w0 w : World} {S : List Nat} {L L' T : List Ch} (h : Hp w0 w S (L ++ T)) (hp : L.Perm L') : Hp w0 w S (L' ++ T) := h.permL (hp.append_right T)
theorem Hp.ownT {w0 w : World} {S : List Nat} {L L1 Lr T : List Ch} (h : Hp w0 w S (L ++ T)) (hp : L.Perm (L1 ++ Lr)) : Own w (L1 ++ T) := by
  have h1 := (h.permT hp).permL (L' := (L1 ++ T) ++ Lr) (by
    rw [List.append_assoc, List.append_assoc]
    exact List.Perm.append_left _ List.perm_append_comm)
  exact h1.own1 rfl
theorem Hp.callT {w0 w w' : World} {S : List Nat} {L L1 Lr L1' L' T T' : List Ch} (h : Hp w0 w S (L ++ T)) (hp : L.Perm (L1 ++ Lr)) (hc : Hp w w' (keys (L1 ++ T)) (L1' ++ T')) (hq : (Lr ++ L1').Perm L') : Hp w0 w' S (L' ++ T') := by
  have h1 := (h.permT hp).permL (L' := (L1 ++ T) ++ Lr) (by
    rw [List.append_assoc, List.append_assoc]
    exact List.Perm.append_left _ List.perm_append_comm)
  have h2 := h1.callG rfl hc
  rw [← List.append_assoc] at h2
  exact h2.permT hq
section
variable {P : Program} {Q : Exit → Act → World → Prop} {n : Nat} {σ : Nat → Value} {w w0 : World} {K : Act → World → Prop}
  {ty : TypeId} {pos : String} {aft : Array Edge} {g : Option (Nat × Bool)} {d : Nat} {t kt et : TypeId} {x y : Operand} {S : List Nat} {L : List Ch}
/-- a slice compared with nil. -/
theorem r_slnil {a : Option Addr} {l c : Nat} {e yt : TypeId} (hu : P.underlying t = some (.slice e)) (_hg : P.eqGuardType P.depth t = false) (hx : ev n σ x = .slice a l c) (hy : ev n σ y = .slice none 0 0) :
    (execOp (ev n σ) ⟨some d, .binOp .eql t x y yt, ty, pos, aft, g⟩).run P w = .ok (.value (.bool a.isNone)) w := by
  have e3 : (eqGuard .eql t x y (.slice a l c) (.slice none 0 0)).run P w = .ok () w := by simp [eqGuard]
  have e4 : (binOp .eql t (.slice a l c) (.slice none 0 0)).run P w = .ok (.bool a.isNone) w := by
    simp [binOp, run_equal_slice_nil w t e a l c hu]
  simp [execOp, hx, hy, e3, e4]
end
end Go.Proofs.Ytomjbabllcmodaa
namespace Go.Proofs.Ytomjbabllcmodaa
open Go
set_option maxRecDepth 100000
def cnt (v : Nat) : List UInt8 := if 127 < v then (UInt8.ofNat v ||| 128) :: cnt (v / 128) else [UInt8.ofNat v]
termination_by v
decreasing_by omega
theorem cnt_big (m : Nat) (h : 127 < m) : cnt m = (UInt8.ofNat m ||| 128) :: cnt (m / 128) := by rw [cnt, if_pos h]
theorem cnt_one (n : Nat) (h : n ≤ 127) : cnt n = [UInt8.ofNat n] := by rw [cnt, if_neg (by omega)]
theorem cnt_pos (n : Nat) : 0 < (cnt n).length := by
  by_cases h : 127 < n
  · rw [cnt_big n h]; simp
  · rw [cnt_one n (by omega)]; simp
theorem or_nat (m : Nat) : (UInt8.ofNat m ||| 128).toNat = m % 128 + 128 := by
  have key : ∀ n, n < 256 → (UInt8.ofNat n ||| 128).toNat = n % 128 + 128 := by decide
  have e : UInt8.ofNat m = UInt8.ofNat (m % 256) := by
    apply UInt8.toNat_inj.1; rw [UInt8.toNat_ofNat', UInt8.toNat_ofNat']; omega
  rw [e, key _ (by omega)]; omega
/-- numbers ahead of anything are told apart. -/
theorem cnt_inj : ∀ (n m : Nat) (r s : List UInt8), cnt n ++ r = cnt m ++ s → n = m ∧ r = s := by
  intro n
  induction n using Nat.strongRecOn with
  | ind n ih =>
    intro m r s h
    by_cases hn : 127 < n
    · by_cases hm : 127 < m
      · rw [cnt_big n hn, cnt_big m hm, List.cons_append, List.cons_append, List.cons.injEq] at h
        obtain ⟨h1, h2⟩ := h
        obtain ⟨h3, h4⟩ := ih (n / 128) (by omega) (m / 128) r s h2
        have h5 := congrArg UInt8.toNat h1
        rw [or_nat, or_nat] at h5
        exact ⟨by omega, h4⟩
      · rw [cnt_big n hn, cnt_one m (by omega), List.cons_append, List.cons_append, List.cons.injEq] at h
        have h5 := congrArg UInt8.toNat h.1
        rw [or_nat, UInt8.toNat_ofNat'] at h5
        omega
    · by_cases hm : 127 < m
      · rw [cnt_one n (by omega), cnt_big m hm, List.cons_append, List.cons_append, List.cons.injEq] at h
        have h5 := congrArg UInt8.toNat h.1
        rw [or_nat, UInt8.toNat_ofNat'] at h5
        omega
      · rw [cnt_one n (by omega), cnt_one m (by omega), List.cons_append, List.cons_append, List.cons.injEq] at h
        have h5 := congrArg UInt8.toNat h.1
        rw [UInt8.toNat_ofNat', UInt8.toNat_ofNat'] at h5
        exact ⟨by omega, h.2⟩
/-- what is known of a number ahead of byte i: n so far; whatever number stands there goes on so. -/
def CntWay (l : List UInt8) (i n : Nat) : Prop := ∀ v r, l = cnt v ++ r → ∃ m, v = n + m * 128 ^ i ∧ (0 < i → 1 ≤ m) ∧ l.drop i = cnt m ++ r
theorem cntWay_zero (l : List UInt8) : CntWay l 0 0 := fun v r h => ⟨v, by simp, fun h => absurd h (by decide), by simpa using h⟩
theorem cntWay_succ {l : List UInt8} {i n : Nat} {c : UInt8} (h : CntWay l i n) (hc : l[i]? = some c) (h128 : 128 ≤ c.toNat) : CntWay l (i + 1) (n + c.toNat % 128 * 128 ^ i) := by
  intro v r hl
  obtain ⟨m, h1, h2, h3⟩ := h v r hl
  have hd : l.drop i = c :: l.drop (i + 1) := by
    have hi := (List.getElem?_eq_some_iff.1 hc)
    obtain ⟨hi1, hi2⟩ := hi
    rw [List.drop_eq_getElem_cons hi1, hi2]
  rw [hd] at h3
  by_cases hm : 127 < m
  · rw [cnt_big m hm, List.cons_append, List.cons.injEq] at h3
    obtain ⟨e1, e2⟩ := h3
    have e3 : c.toNat % 128 = m % 128 := by
      have := congrArg UInt8.toNat e1
      rw [or_nat] at this; omega
    refine ⟨m / 128, ?_, fun _ => by omega, e2⟩
    rw [h1, e3, Nat.pow_succ]
    have : m * 128 ^ i = (m % 128 + m / 128 * 128) * 128 ^ i := by congr 1; omega
    rw [this, Nat.add_mul, Nat.mul_assoc, Nat.mul_comm 128 (128 ^ i)]; omega
  · rw [cnt_one m (by omega), List.cons_append, List.cons.injEq] at h3
    have := congrArg UInt8.toNat h3.1
    rw [UInt8.toNat_ofNat'] at this
    omega
/-- no number stands there. -/
def NoCnt (l : List UInt8) : Prop := ∀ v r, v < 18446744073709551616 → l ≠ cnt v ++ r
theorem noCnt_short {l : List UInt8} {i n : Nat} (h : CntWay l i n) (hi : l.length ≤ i) : NoCnt l := by
  intro v r _ hl
  obtain ⟨m, _, _, h3⟩ := h v r hl
  rw [List.drop_of_length_le hi] at h3
  have := congrArg List.length h3
  have := cnt_pos m
  simp at *
  omega
theorem noCnt_zero {l : List UInt8} {i n : Nat} {c : UInt8} (h : CntWay l i n) (hi : 0 < i) (hc : l[i]? = some c) (h0 : c.toNat = 0) : NoCnt l := by
  intro v r _ hl
  obtain ⟨m, _, h2, h3⟩ := h v r hl
  have h2 := h2 hi
  obtain ⟨hi1, hi2⟩ := List.getElem?_eq_some_iff.1 hc
  rw [List.drop_eq_getElem_cons hi1, hi2] at h3
  by_cases hm : 127 < m
  · rw [cnt_big m hm, List.cons_append, List.cons.injEq] at h3
    have := congrArg UInt8.toNat h3.1
    rw [or_nat] at this; omega
  · rw [cnt_one m (by omega), List.cons_append, List.cons.injEq] at h3
    have := congrArg UInt8.toNat h3.1
    rw [UInt8.toNat_ofNat'] at this; omega
theorem noCnt_high {l : List UInt8} {n : Nat} {c : UInt8} (h : CntWay l 9 n) (hc : l[9]? = some c) (h1 : 1 < c.toNat) : NoCnt l := by
  intro v r hv hl
  obtain ⟨m, h0, h2, h3⟩ := h v r hl
  have e9 : (128 : Nat) ^ 9 = 9223372036854775808 := by decide
  rw [e9] at h0
  obtain ⟨hi1, hi2⟩ := List.getElem?_eq_some_iff.1 hc
  rw [List.drop_eq_getElem_cons hi1, hi2, cnt_one m (by omega), List.cons_append, List.cons.injEq] at h3
  have := congrArg UInt8.toNat h3.1
  rw [UInt8.toNat_ofNat'] at this
  omega
end Go.Proofs.Ytomjbabllcmodaa
namespace Go.Proofs.Ytomjbabllcmodaa
open Go
set_option maxRecDepth 100000
/-- an item of a folder. -/
structure It where
  name : List UInt8
  kind : Int
  of : Id32
  size : Int
deriving DecidableEq
def itB (x : It) : List UInt8 := UInt8.ofNat x.kind.toNat :: (cnt x.name.length ++ (x.name ++ (x.of.1 ++ cnt x.size.toNat)))
def It.num (x : It) : Prop := (0 ≤ x.kind ∧ x.kind < 256) ∧ 0 ≤ x.size
def It.fits (x : It) : Prop := x.num ∧ x.name.length ≤ 65536 ∧ x.size ≤ 9223372036854775807
theorem app_inj {l m r s : List UInt8} (h : l ++ r = m ++ s) (hl : l.length = m.length) : l = m ∧ r = s := List.append_inj h hl
theorem itB_inj {x y : It} {r s : List UInt8} (hx : x.num) (hy : y.num) (h : itB x ++ r = itB y ++ s) : x = y ∧ r = s := by
  obtain ⟨n1, k1, o1, s1⟩ := x
  obtain ⟨n2, k2, o2, s2⟩ := y
  simp only [itB, List.cons_append, List.append_assoc, List.cons.injEq] at h
  obtain ⟨h1, h2⟩ := h
  obtain ⟨h3, h4⟩ := cnt_inj _ _ _ _ h2
  obtain ⟨h5, h6⟩ := app_inj h4 h3
  obtain ⟨h7, h8⟩ := app_inj h6 (by rw [o1.2, o2.2])
  obtain ⟨h9, h10⟩ := cnt_inj _ _ _ _ h8
  simp only [It.num] at hx hy
  have hk : k1 = k2 := by
    have := congrArg UInt8.toNat h1
    rw [UInt8.toNat_ofNat', UInt8.toNat_ofNat'] at this
    omega
  have hs : s1 = s2 := by omega
  subst hk h5 hs
  exact ⟨by rw [Subtype.ext h7], h10⟩
theorem items_inj : ∀ {l m : List It} {r s : List UInt8}, l.length = m.length → (∀ x ∈ l, x.num) → (∀ x ∈ m, x.num) → l.flatMap itB ++ r = m.flatMap itB ++ s → l = m ∧ r = s
  | [], [], _, _, _, _, _, h => ⟨rfl, by simpa using h⟩
  | [], _ :: _, _, _, h, _, _, _ => by cases h
  | _ :: _, [], _, _, h, _, _, _ => by cases h
  | x :: l, y :: m, r, s, hl, hx, hy, h => by
    rw [List.flatMap_cons, List.flatMap_cons, List.append_assoc, List.append_assoc] at h
    obtain ⟨h1, h2⟩ := itB_inj (hx x (List.mem_cons_self ..)) (hy y (List.mem_cons_self ..)) h
    obtain ⟨h3, h4⟩ := items_inj (by simpa using hl) (fun z hz => hx z (List.mem_cons_of_mem _ hz)) (fun z hz => hy z (List.mem_cons_of_mem _ hz)) h2
    exact ⟨by rw [h1, h3], h4⟩
def fldB (l : List It) : List UInt8 := [68, 49] ++ (cnt l.length ++ l.flatMap itB)
theorem fldB_inj {l m : List It} (hx : ∀ x ∈ l, x.num) (hy : ∀ x ∈ m, x.num) (h : fldB l = fldB m) : l = m := by
  simp only [fldB, List.cons_append, List.nil_append, List.cons.injEq, true_and] at h
  obtain ⟨h1, h2⟩ := cnt_inj _ _ _ _ h
  exact (items_inj (r := []) (s := []) h1 hx hy (by simpa using h2)).1
end Go.Proofs.Ytomjbabllcmodaa
namespace Go.Proofs.Ytomjbabllcmodaa
open Go
set_option maxRecDepth 100000
/-- the first object of a name. -/
def lookO (L : List (Id32 × List UInt8)) (x : Id32) : Option (List UInt8) := (L.find? fun o => o.1 = x).map (·.2)
variable {tk : List UInt8 → List It} {L : List (Id32 × List UInt8)} {roots : List Id32}
end Go.Proofs.Ytomjbabllcmodaa
namespace Go.Proofs.Ytomjbabllcmodaa
open Go
set_option maxRecDepth 100000
def NameOk (s : List UInt8) : Prop := (∀ c ∈ s, c ≠ 47 ∧ c ≠ 0) ∧ 1 ≤ s.length ∧ s.length ≤ 64 ∧ s ≠ [46] ∧ s ≠ [46, 46]
def ItOk (x : It) : Prop := NameOk x.name ∧ (x.kind = 1 ∨ x.kind = 2 ∧ x.size = 0) ∧ 0 ≤ x.size ∧ x.size ≤ 9223372036854775807
/-- items that may be a folder. -/
structure MayF (l : List It) : Prop where
  len : l.length ≤ 64
  ok : ∀ x ∈ l, ItOk x
  up : ∀ (i : Nat) (x y : It), l[i]? = some x → l[i + 1]? = some y → x.name < y.name
theorem ItOk.fits {x : It} (h : ItOk x) : x.fits := ⟨⟨by rcases h.2.1 with e | e <;> omega, h.2.2.1⟩, by have := h.1.2.2.1; omega, h.2.2.2⟩
/-- no item stands there. -/
def NoIt (b : List UInt8) : Prop := ∀ (x : It) (r : List UInt8), x.fits → b ≠ itB x ++ r
/-- no text behind its length stands there. -/
def NoTxt (b : List UInt8) : Prop := ∀ t r : List UInt8, t.length ≤ 65536 → b ≠ cnt t.length ++ (t ++ r)
theorem noTxt_cnt {b : List UInt8} (h : NoCnt b) : NoTxt b := fun t r ht => h t.length (t ++ r) (by omega)
theorem noTxt_of {b r : List UInt8} {n : Nat} (hb : b = cnt n ++ r) (h : 65536 < n ∨ r.length < n) : NoTxt b := fun t s ht e => by
  obtain ⟨h1, h2⟩ := cnt_inj _ _ _ _ (hb.symm.trans e)
  rcases h with h | h
  · omega
  · rw [h2, List.length_append] at h; omega
theorem noIt_nil : NoIt [] := fun x r _ h => by rw [itB] at h; cases h
theorem noIt_txt {k : UInt8} {b : List UInt8} (h : NoTxt b) : NoIt (k :: b) := fun x r hx e => by
  rw [itB, List.cons_append, List.cons.injEq] at e
  exact h x.name (x.of.1 ++ cnt x.size.toNat ++ r) hx.2.1 (by rw [e.2]; simp)
theorem noIt_short {k : UInt8} {t b : List UInt8} (h : b.length < 32) : NoIt (k :: (cnt t.length ++ (t ++ b))) := fun x r hx e => by
  rw [itB, List.cons_append, List.cons.injEq] at e
  have e2 := e.2
  rw [List.append_assoc] at e2
  obtain ⟨h1, h2⟩ := cnt_inj _ _ _ _ e2
  rw [List.append_assoc] at h2
  obtain ⟨_, h3⟩ := app_inj h2 h1
  have := congrArg List.length h3
  rw [List.append_assoc, List.length_append, x.of.2] at this
  omega
theorem noIt_size {k : UInt8} {t o b : List UInt8} (ho : o.length = 32) (h : NoCnt b ∨ ∃ n r, b = cnt n ++ r ∧ 9223372036854775807 < n) : NoIt (k :: (cnt t.length ++ (t ++ (o ++ b)))) := fun x r hx e => by
  rw [itB, List.cons_append, List.cons.injEq] at e
  have e2 := e.2
  rw [List.append_assoc] at e2
  obtain ⟨h1, h2⟩ := cnt_inj _ _ _ _ e2
  rw [List.append_assoc] at h2
  obtain ⟨_, h3⟩ := app_inj h2 h1
  rw [List.append_assoc] at h3
  obtain ⟨_, h4⟩ := app_inj h3 (by rw [ho, x.of.2])
  have hs := hx.2.2
  rcases h with h | ⟨n, r', hb, hn⟩
  · exact h x.size.toNat r (by omega) h4
  · have := (cnt_inj _ _ _ _ (hb.symm.trans h4)).1
    omega
theorem items_stuck {l m : List It} {b r : List UInt8} (hl : ∀ x ∈ l, x.num) (hm : ∀ x ∈ m, x.fits) (h : NoIt b) (hlt : l.length < m.length) : l.flatMap itB ++ b ≠ m.flatMap itB ++ r := fun e => by
  have hs : m.flatMap itB ++ r = (m.take l.length).flatMap itB ++ ((m.drop l.length).flatMap itB ++ r) := by
    rw [← List.append_assoc, ← List.flatMap_append, List.take_append_drop]
  rw [hs] at e
  obtain ⟨_, h2⟩ := items_inj (by rw [List.length_take]; omega) hl (fun x hx => (hm x (List.mem_of_mem_take hx)).1) e
  cases hd : m.drop l.length with
  | nil =>
    have := congrArg List.length hd
    rw [List.length_drop] at this
    simp at this; omega
  | cons x t =>
    rw [hd, List.flatMap_cons, List.append_assoc] at h2
    exact h x _ (hm x (List.mem_of_mem_drop (by rw [hd]; exact List.mem_cons_self ..))) h2
open Classical in
/-- the items that bytes are. -/
noncomputable def takeF (b : List UInt8) : Option (List It) := if h : ∃ l, MayF l ∧ fldB l = b ∧ b.length ≤ 4000 then some h.choose else none
theorem takeF_some {l : List It} {b : List UInt8} (h : MayF l) (hb : fldB l = b) (hn : b.length ≤ 4000) : takeF b = some l := by
  have hex : ∃ l, MayF l ∧ fldB l = b ∧ b.length ≤ 4000 := ⟨l, h, hb, hn⟩
  rw [takeF, dif_pos hex]
  obtain ⟨h1, h2, _⟩ := hex.choose_spec
  exact congrArg some (fldB_inj (fun x hx => (h1.ok x hx).fits.1) (fun x hx => (h.ok x hx).fits.1) (h2.trans hb.symm))
theorem takeF_none {b : List UInt8} (h : ∀ l, MayF l → b.length ≤ 4000 → fldB l ≠ b) : takeF b = none := by
  rw [takeF, dif_neg]
  rintro ⟨l, h1, h2, h3⟩
  exact h l h1 h3 h2
theorem takeF_of {b : List UInt8} {l : List It} (h : takeF b = some l) : MayF l ∧ fldB l = b ∧ b.length ≤ 4000 := by
  rw [takeF] at h
  split at h
  · rename_i hex
    cases h
    exact hex.choose_spec
  · cases h
end Go.Proofs.Ytomjbabllcmodaa
namespace Go.Proofs.Ytomjbabllcmodaa
open Go
set_option maxRecDepth 100000
/-- an object, as a world has it; one of the program's map. -/
structure Ob where
  of : Id32
  data : Sl
structure RO where
  data : Sl
  hit : Bool
def obL (l : List Ob) : List (Id32 × List UInt8) := l.map fun o => (o.of, o.data.l)
def lookS (l : List Ob) (k : Id32) : Option Sl := (l.find? fun o => o.of = k).map (·.data)
theorem lookS_l (l : List Ob) (k : Id32) : lookO (obL l) k = (lookS l k).map (·.l) := by
  rw [lookO, lookS, obL]
  induction l with
  | nil => rfl
  | cons o l ih =>
    rw [List.map_cons, List.find?_cons, List.find?_cons]
    by_cases h : o.of = k
    · simp [h]
    · simp only [h, decide_false]; exact ih
theorem lookS_mem {l : List Ob} {k : Id32} {s : Sl} (h : lookS l k = some s) : ∃ o ∈ l, o.of = k ∧ o.data = s := by
  rw [lookS] at h
  cases hf : l.find? fun o => o.of = k with
  | none => rw [hf] at h; cases h
  | some o =>
    rw [hf] at h
    have h2 := List.find?_some hf
    simp only [decide_eq_true_eq] at h2
    exact ⟨o, List.mem_of_find?_eq_some hf, h2, Option.some.inj h⟩
theorem lookS_snoc (l : List Ob) (o : Ob) (k : Id32) : lookS (l ++ [o]) k = if (lookS l k).isSome then lookS l k else if k = o.of then some o.data else none := by
  rw [lookS, lookS, List.find?_append]
  cases hf : l.find? fun o => o.of = k with
  | some x => rfl
  | none =>
    simp only [Option.none_or, Option.map_none, Option.isSome_none, Bool.false_eq_true, if_false, List.find?_cons, List.find?_nil]
    by_cases h : o.of = k
    · simp [h]
    · have : k ≠ o.of := fun e => h e.symm
      simp [h, this]
variable {l : List Ob} {roots todo : List Id32} {F : Id32 → Option RO}
end Go.Proofs.Ytomjbabllcmodaa
namespace Go.Proofs.Ytomjbabllcmodaa
open Go
set_option maxRecDepth 100000
/-- something that is to be met. -/
structure Todo where
  kind : Int
  of : Id32
  size : Int
  deep : Nat
  path : List UInt8
/-- a file as it is told; none: an empty folder. -/
structure Fil where
  path : List UInt8
  data : Option (List UInt8)
structure WS where
  met : Nat
  names : List Id32
  files : List Fil
  err : Int
def wkid (t : Todo) (x : It) : Todo := ⟨x.kind, x.of, x.size, t.deep + 1, if 1 < t.deep then t.path ++ (47 :: x.name) else x.name⟩
noncomputable def wlkStep (L : List (Id32 × List UInt8)) (s : WS) (t : Todo) : WS × List Todo :=
  if (t.kind = 2 ∧ 8 < t.deep) ∨ 1024 ≤ s.met then ({ s with err := 2 }, [])
  else match lookO L t.of with
    | none => ({ s with err := 15 }, [])
    | some d =>
      if t.kind = 1 then (if (d.length : Int) ≠ t.size then ({ s with err := 9 }, []) else ({ s with met := s.met + 1, names := s.names ++ [t.of], files := s.files ++ [⟨t.path, some d⟩] }, []))
      else match takeF d with
        | none => ({ s with err := 4 }, [])
        | some its => ({ s with met := s.met + 1, names := s.names ++ [t.of], files := s.files ++ (if its = [] ∧ 1 < t.deep then [⟨t.path, none⟩] else []) }, its.map (wkid t))
variable {L : List (Id32 × List UInt8)}
theorem wlkStep_met {s : WS} {t : Todo} (h : (wlkStep L s t).1.err = 0) : (wlkStep L s t).1.met = s.met + 1 ∧ s.met < 1024 := by
  unfold wlkStep at h ⊢
  split at h
  · simp at h
  · rename_i hc
    rw [if_neg hc]
    cases hd : lookO L t.of with
    | none => rw [hd] at h; simp at h
    | some d =>
      rw [hd] at h
      dsimp only at h ⊢
      by_cases hk : t.kind = 1
      · rw [if_pos hk] at h ⊢
        by_cases hs : (d.length : Int) ≠ t.size
        · rw [if_pos hs] at h; simp at h
        · rw [if_neg hs]; exact ⟨rfl, by omega⟩
      · rw [if_neg hk] at h ⊢
        cases ht : takeF d with
        | none => rw [ht] at h; simp at h
        | some its => exact ⟨rfl, by omega⟩
/-- all that is to be met, one behind the other; what is met anew comes first. -/
noncomputable def wlkRun (L : List (Id32 × List UInt8)) : Nat → List Todo → WS → WS
  | 0, _, s => s
  | _ + 1, [], s => s
  | n + 1, t :: ts, s => if (wlkStep L s t).1.err ≠ 0 then (wlkStep L s t).1 else wlkRun L n ((wlkStep L s t).2 ++ ts) (wlkStep L s t).1
theorem wlkRun_nil (n : Nat) (s : WS) : wlkRun L n [] s = s := by cases n <;> rfl
theorem wlkRun_bad {n : Nat} {t : Todo} {ts : List Todo} {s : WS} (h : ¬ (wlkStep L s t).1.err = 0) : wlkRun L (n + 1) (t :: ts) s = (wlkStep L s t).1 := by
  show (if (wlkStep L s t).1.err ≠ 0 then _ else _) = _
  rw [if_pos h]
theorem wlkRun_good {n : Nat} {t : Todo} {ts : List Todo} {s : WS} (h : (wlkStep L s t).1.err = 0) : wlkRun L (n + 1) (t :: ts) s = wlkRun L n ((wlkStep L s t).2 ++ ts) (wlkStep L s t).1 := by
  show (if (wlkStep L s t).1.err ≠ 0 then _ else _) = _
  rw [if_neg (fun e => e h)]
theorem wlkRun_met : ∀ (n : Nat) (a : List Todo) (s : WS), s.met ≤ 1024 → (wlkRun L n a s).err = 0 → s.met ≤ (wlkRun L n a s).met ∧ (wlkRun L n a s).met ≤ 1024
  | 0, _, s, h0, _ => ⟨Nat.le_refl _, h0⟩
  | n + 1, [], s, h0, _ => ⟨Nat.le_refl _, h0⟩
  | n + 1, t :: a, s, h0, h => by
    by_cases he : (wlkStep L s t).1.err = 0
    · rw [wlkRun_good he] at h ⊢
      have h2 := wlkStep_met he
      have h1 := wlkRun_met n _ _ (by omega) h
      omega
    · rw [wlkRun_bad he] at h; exact absurd h he
theorem wlkRun_fuel : ∀ (n m : Nat) (a : List Todo) (s : WS), s.met ≤ 1024 → 1024 < n + s.met → 1024 < m + s.met → wlkRun L n a s = wlkRun L m a s
  | 0, _, _, s, h0, h1, _ => by omega
  | _ + 1, 0, _, s, h0, _, h2 => by omega
  | n + 1, m + 1, [], s, _, _, _ => by rw [wlkRun_nil, wlkRun_nil]
  | n + 1, m + 1, t :: a, s, h0, h1, h2 => by
    by_cases he : (wlkStep L s t).1.err = 0
    · have h3 := wlkStep_met he
      rw [wlkRun_good he, wlkRun_good he]
      exact wlkRun_fuel n m _ _ (by omega) (by omega) (by omega)
    · rw [wlkRun_bad he, wlkRun_bad he]
/-- what is met of two lists is met of one behind the other. -/
theorem wlkRun_app : ∀ (n : Nat) (a b : List Todo) (s : WS), s.err = 0 → s.met ≤ 1024 → 1024 < n + s.met → wlkRun L n (a ++ b) s = if (wlkRun L n a s).err ≠ 0 then wlkRun L n a s else wlkRun L n b (wlkRun L n a s)
  | 0, _, _, s, _, h0, h => by omega
  | n + 1, [], b, s, h0, _, h => by rw [wlkRun_nil, List.nil_append, if_neg (fun e => e h0)]
  | n + 1, t :: a, b, s, h0, hm, h => by
    by_cases he : (wlkStep L s t).1.err = 0
    · have h1 := wlkStep_met he
      rw [List.cons_append, wlkRun_good he, wlkRun_good he, ← List.append_assoc, wlkRun_app n _ b _ he (by omega) (by omega)]
      by_cases h2 : (wlkRun L n ((wlkStep L s t).2 ++ a) (wlkStep L s t).1).err = 0
      · rw [if_neg (fun e => e h2), if_neg (fun e => e h2)]
        have h3 := wlkRun_met n _ _ (by omega) h2
        exact wlkRun_fuel _ _ _ _ (by omega) (by omega) (by omega)
      · rw [if_pos h2, if_pos h2]
    · rw [List.cons_append, wlkRun_bad he, wlkRun_bad he, if_pos he]
end Go.Proofs.Ytomjbabllcmodaa
namespace Go.Proofs.Ytomjbabllcmodaa
open Go
theorem mixed : Try.prog.follows .mixedOrders = true := by kernel_rfl
theorem ct2 : cellTy Try.prog 2 = true := by kernel_rfl
theorem cs2 : cellSz Try.prog 2 = some 1 := by kernel_rfl
theorem ct3 : cellTy Try.prog 3 = true := by kernel_rfl
theorem cs3 : cellSz Try.prog 3 = some 1 := by kernel_rfl
theorem ct4 : cellTy Try.prog 4 = true := by kernel_rfl
theorem ct5 : cellTy Try.prog 5 = true := by kernel_rfl
theorem cs5 : cellSz Try.prog 5 = some 1 := by kernel_rfl
theorem zc5 : zeroCells Try.prog 5 = some [Value.int .u8 0] := by kernel_rfl
theorem ct9 : cellTy Try.prog 9 = true := by kernel_rfl
theorem cs9 : cellSz Try.prog 9 = some 1 := by kernel_rfl
theorem el22 : eltOf Try.prog 22 = some 33 := by kernel_rfl
theorem sl22 : SlTy Try.prog 22 34 33 56 := .mk' (by kernel_rfl) (by kernel_rfl)
theorem ct23 : cellTy Try.prog 23 = true := by kernel_rfl
theorem cs23 : cellSz Try.prog 23 = some 1 := by kernel_rfl
theorem el23 : eltOf Try.prog 23 = some 32 := by kernel_rfl
theorem sl23 : SlTy Try.prog 23 29 32 32 := .mk' (by kernel_rfl) (by kernel_rfl)
theorem rt29 : rowTy Try.prog 29 = some 32 := by kernel_rfl
theorem cs29 : cellSz Try.prog 29 = some 32 := by kernel_rfl
theorem zc29 : zeroCells Try.prog 29 = some (List.replicate 32 (Value.int .u8 0)) := by kernel_rfl
theorem ar29 : arrOf Try.prog 29 = some (32, 1) := by kernel_rfl
theorem ct32 : cellTy Try.prog 32 = true := by kernel_rfl
theorem el32 : eltOf Try.prog 32 = some 1 := by kernel_rfl
theorem sl32 : SlTy Try.prog 32 5 1 1 := .mk' (by kernel_rfl) (by kernel_rfl)
theorem rt34 : rowTy Try.prog 34 = some 33 := by kernel_rfl
theorem cs34 : cellSz Try.prog 34 = some 33 := by kernel_rfl
theorem zc34 : zeroCells Try.prog 34 = some ((List.replicate 32 (Value.int .u8 0)) ++ [Value.slice none 0 0]) := by kernel_rfl
theorem fo34_0 : fieldOff Try.prog 34 0 = some 0 := by kernel_rfl
theorem fo34_1 : fieldOff Try.prog 34 1 = some 32 := by kernel_rfl
theorem pl34 : placesOf Try.prog 34 = some #[(0, 32), (32, 1)] := by kernel_rfl
theorem bd34 : Bld Try.prog 34 (((List.replicate 32 (Value.int .u8 0)) ++ [Value.slice none 0 0])).toArray (fun i => (#[(0, 32), (32, 1)] : Array (Nat × Nat))[i]?) := Bld.str pl34 zc34
theorem ct37 : cellTy Try.prog 37 = true := by kernel_rfl
theorem cs37 : cellSz Try.prog 37 = some 1 := by kernel_rfl
theorem ct40 : cellTy Try.prog 40 = true := by kernel_rfl
theorem cs40 : cellSz Try.prog 40 = some 1 := by kernel_rfl
theorem el40 : eltOf Try.prog 40 = some 3 := by kernel_rfl
theorem sl40 : SlTy Try.prog 40 48 3 48 := .mk' (by kernel_rfl) (by kernel_rfl)
theorem zc48 : zeroCells Try.prog 48 = some ([Value.string .empty] ++ [Value.bool false] ++ [Value.slice none 0 0]) := by kernel_rfl
theorem fo48_0 : fieldOff Try.prog 48 0 = some 0 := by kernel_rfl
theorem fo48_2 : fieldOff Try.prog 48 2 = some 2 := by kernel_rfl
theorem pl48 : placesOf Try.prog 48 = some #[(0, 1), (1, 1), (2, 1)] := by kernel_rfl
theorem bd48 : Bld Try.prog 48 (([Value.string .empty] ++ [Value.bool false] ++ [Value.slice none 0 0])).toArray (fun i => (#[(0, 1), (1, 1), (2, 1)] : Array (Nat × Nat))[i]?) := Bld.str pl48 zc48
theorem el52 : eltOf Try.prog 52 = some 35 := by kernel_rfl
theorem sl52 : SlTy Try.prog 52 54 35 64 := .mk' (by kernel_rfl) (by kernel_rfl)
theorem rt54 : rowTy Try.prog 54 = some 35 := by kernel_rfl
theorem cs54 : cellSz Try.prog 54 = some 35 := by kernel_rfl
theorem zc54 : zeroCells Try.prog 54 = some ([Value.string .empty] ++ [Value.int .i64 0] ++ (List.replicate 32 (Value.int .u8 0)) ++ [Value.int .i64 0]) := by kernel_rfl
theorem fo54_0 : fieldOff Try.prog 54 0 = some 0 := by kernel_rfl
theorem fo54_1 : fieldOff Try.prog 54 1 = some 1 := by kernel_rfl
theorem fo54_2 : fieldOff Try.prog 54 2 = some 2 := by kernel_rfl
theorem fo54_3 : fieldOff Try.prog 54 3 = some 34 := by kernel_rfl
theorem pl54 : placesOf Try.prog 54 = some #[(0, 1), (1, 1), (2, 32), (34, 1)] := by kernel_rfl
theorem bd54 : Bld Try.prog 54 (([Value.string .empty] ++ [Value.int .i64 0] ++ (List.replicate 32 (Value.int .u8 0)) ++ [Value.int .i64 0])).toArray (fun i => (#[(0, 1), (1, 1), (2, 32), (34, 1)] : Array (Nat × Nat))[i]?) := Bld.str pl54 zc54
theorem ct58 : cellTy Try.prog 58 = true := by kernel_rfl
theorem ct67 : cellTy Try.prog 67 = true := by kernel_rfl
theorem ct68 : cellTy Try.prog 68 = true := by kernel_rfl
theorem zc70 : zeroCells Try.prog 70 = some ([Value.map none] ++ [Value.map none] ++ [Value.int .i64 0] ++ [Value.bool false] ++ [Value.slice none 0 0] ++ [Value.int .i64 0]) := by kernel_rfl
theorem fo70_0 : fieldOff Try.prog 70 0 = some 0 := by kernel_rfl
theorem fo70_1 : fieldOff Try.prog 70 1 = some 1 := by kernel_rfl
theorem fo70_2 : fieldOff Try.prog 70 2 = some 2 := by kernel_rfl
theorem fo70_3 : fieldOff Try.prog 70 3 = some 3 := by kernel_rfl
theorem fo70_4 : fieldOff Try.prog 70 4 = some 4 := by kernel_rfl
theorem fo70_5 : fieldOff Try.prog 70 5 = some 5 := by kernel_rfl
theorem pl70 : placesOf Try.prog 70 = some #[(0, 1), (1, 1), (2, 1), (3, 1), (4, 1), (5, 1)] := by kernel_rfl
theorem bd70 : Bld Try.prog 70 (([Value.map none] ++ [Value.map none] ++ [Value.int .i64 0] ++ [Value.bool false] ++ [Value.slice none 0 0] ++ [Value.int .i64 0])).toArray (fun i => (#[(0, 1), (1, 1), (2, 1), (3, 1), (4, 1), (5, 1)] : Array (Nat × Nat))[i]?) := Bld.str pl70 zc70
theorem ct91 : cellTy Try.prog 91 = true := by kernel_rfl
theorem cs91 : cellSz Try.prog 91 = some 1 := by kernel_rfl
theorem rt101 : rowTy Try.prog 101 = some 64 := by kernel_rfl
theorem cs101 : cellSz Try.prog 101 = some 64 := by kernel_rfl
theorem zc101 : zeroCells Try.prog 101 = some (List.replicate 64 (Value.int .u64 0)) := by kernel_rfl
theorem ar101 : arrOf Try.prog 101 = some (64, 1) := by kernel_rfl
theorem bd101 : Bld Try.prog 101 ((List.replicate 64 (Value.int .u64 0))).toArray (fun i => some (i * 1, 1)) := Bld.arr ar101 zc101
theorem rt103 : rowTy Try.prog 103 = some 8 := by kernel_rfl
theorem cs103 : cellSz Try.prog 103 = some 8 := by kernel_rfl
theorem zc103 : zeroCells Try.prog 103 = some (List.replicate 8 (Value.int .u64 0)) := by kernel_rfl
theorem ar103 : arrOf Try.prog 103 = some (8, 1) := by kernel_rfl
theorem bd103 : Bld Try.prog 103 ((List.replicate 8 (Value.int .u64 0))).toArray (fun i => some (i * 1, 1)) := Bld.arr ar103 zc103
end Go.Proofs.Ytomjbabllcmodaa
