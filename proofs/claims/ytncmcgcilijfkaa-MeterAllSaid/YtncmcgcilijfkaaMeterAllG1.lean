/- Lemmas for the statement MeterAll, part 1: rules of operations, walks through functions, plain laws. -/
import Derived.Below
import Derived.Calls
import Derived.ChangeKeysEq
import Derived.Deep.AppendSrc
import Derived.Deep.MidRow
import Derived.Deep.Slices
import Derived.DeepKeys3
import Derived.IntWalk
import Derived.Laws.CopyRow
import Derived.Laws.Cover3
import Derived.Laws.IdiomStrings
import Derived.Laws.MakeOwn
import Derived.Laws.NewBlocks
import Derived.Laws.StructEq
import Derived.Laws.Tables
import Derived.OpenShut
import Derived.OrdersHeld
import Derived.ProofKit
import Derived.StillTail
import Derived.Test.YtncmcgcilijfkaaProg
import Derived.Test.YtncmcgcilijfkaaRows
import Derived.WalkKit
import Derived.WideKeyRuns
namespace Go.Proofs.Ytncmcgcilijfkaa
open Go
/-- A frame of n slots, as a function of the slot. -/
def mk (n : Nat) (σ : Nat → Value) : Act := ⟨Array.ofFn (n := n) (fun i => σ i.val), []⟩
def up (σ : Nat → Value) (d : Nat) (v : Value) : Nat → Value := fun t => bif Nat.beq t d then v else σ t
def ev (n : Nat) (σ : Nat → Value) : Operand → Value
  | .tmp t => bif Nat.blt t n then σ t else undef
  | .const v => v
  | .global g => .pointer (some ⟨g, 0, none⟩)
  | .func f => .func (.func f) #[] #[]
def evs (n : Nat) (σ : Nat → Value) : List Operand → List Value
  | [] => []
  | x :: l => ev n σ x :: evs n σ l
theorem evs_eq (n σ) : ∀ l : List Operand, evs n σ l = l.map (ev n σ)
  | [] => rfl
  | x :: l => by rw [evs, evs_eq n σ l, List.map_cons]
def pvs (n : Nat) (σ : Nat → Value) : List (Nat × Operand) → List (Nat × Value)
  | [] => []
  | x :: l => (x.1, ev n σ x.2) :: pvs n σ l
theorem pvs_eq (n σ) : ∀ l : List (Nat × Operand), pvs n σ l = l.map fun (i, x) => (i, ev n σ x)
  | [] => rfl
  | x :: l => by rw [pvs, pvs_eq n σ l, List.map_cons]
theorem mk_put (n σ d v) : (mk n σ).put (some d) v = mk n (up σ d v) := by
  simp only [Act.put, mk, Act.mk.injEq, and_true]
  apply Array.ext
  · simp
  · intro i h1 h2
    simp only [Array.getElem_ofFn, up]
    rw [Array.getElem_setIfInBounds]
    · by_cases h : d = i
      · subst h; simp
      · have : Nat.beq i d = false := by
          cases hb : Nat.beq i d
          · rfl
          · exact absurd (Nat.eq_of_beq_eq_true hb).symm h
        rw [if_neg h, this]
        exact Array.getElem_ofFn _
    · simpa using h2
theorem mk_eval (n σ) (x : Operand) : (mk n σ).eval x = ev n σ x := by
  cases x <;> simp only [Act.eval, ev, mk]
  rename_i t
  by_cases h : t < n
  · have : Nat.blt t n = true := by rw [Nat.blt_eq]; exact h
    simp [this, h]
  · have : Nat.blt t n = false := by
      cases hb : Nat.blt t n
      · rfl
      · exact absurd (by rw [Nat.blt_eq] at hb; exact hb) h
    simp [this, h]
theorem mk_evalf (n σ) : (mk n σ).eval = ev n σ := funext (mk_eval n σ)
theorem up_self (σ : Nat → Value) (d : Nat) : up σ d (σ d) = σ := by
  funext t
  simp only [up]
  cases hb : Nat.beq t d
  · rfl
  · rw [Nat.eq_of_beq_eq_true hb]; rfl
theorem up_of (σ : Nat → Value) (d : Nat) (v : Value) (h : σ d = v) : up σ d v = σ := by subst h; exact up_self σ d
/-- several slots at once. -/
def ups (σ : Nat → Value) : List (Nat × Value) → (Nat → Value)
  | [] => σ
  | p :: l => up (ups σ l) p.1 p.2
def fits (σ : Nat → Value) : List (Nat × Value) → Prop
  | [] => True
  | p :: l => σ p.1 = p.2 ∧ fits σ l
theorem ups_of_fits (σ : Nat → Value) : ∀ l, fits σ l → ups σ l = σ
  | [], _ => rfl
  | p :: l, h => by
    rw [ups, ups_of_fits σ l h.2]
    exact up_of _ _ _ h.1
/-- A function's frame at its beginning. -/
theorem enter_mk (args : List Value) (n : Nat) (h : args.length ≤ n) :
    (⟨args.toArray ++ Array.replicate (n - args.toArray.size) undef, []⟩ : Act) = mk n (fun t => args.getD t undef) := by
  simp only [mk, Act.mk.injEq, and_true]
  apply Array.ext
  · simp; omega
  · intro i h1 h2
    simp only [Array.getElem_ofFn]
    by_cases hi : i < args.length
    · rw [Array.getElem_append_left (by simpa using hi)]
      simp [List.getD, hi]
    · rw [Array.getElem_append_right (by simpa using hi)]
      simp [List.getD, List.getElem?_eq_none (Nat.le_of_not_lt hi)]
theorem calls_mk {P : Program} {f : FuncId} {fn : Func} {c : Code} {args : List Value} {w : World} {R : Ending → World → Prop} {n : Nat}
    (hf : P.funcs[f]? = some fn) (hb : fn.body = some c) (hn : fn.ntmps = n) (hle : args.length ≤ n)
    (h : c.wp P (bodyPost P fn R) (mk n (fun t => args.getD t undef)) w) : Calls P f args.toArray w R := by
  refine calls_of_wp hf hb ?_
  rw [hn, enter_mk args n hle]
  exact h
section
variable {P : Program} {Q : Exit → Act → World → Prop} {n : Nat} {σ : Nat → Value} {w : World} {K : Act → World → Prop}
  {ty : TypeId} {pos : String} {aft : Array Edge} {g : Option (Nat × Bool)} {d : Nat}
theorem c_region {id : Nat} {l : List Oper} {a : Act} (h : wpList P l.toArray Q l a w) : (Code.region id l.toArray false).wp P Q a w := wp_region_lit h
theorem c_seq {x y : Code} {a : Act} (h : x.wp P (Exit.then (y.wp P Q) Q) a w) : (Code.seq x y).wp P Q a w := wp_seq h
/-- one operation of a list, not guarded. -/
theorem l_op {ops : Array Oper} {rest : List Oper} {op : Op} {dst : Option Tmp} {a : Act}
    (h : Oper.wp P ⟨dst, op, ty, pos, aft, none⟩ a w (wpList P ops Q rest) Q) : wpList P ops Q (⟨dst, op, ty, pos, aft, none⟩ :: rest) a w := by
  unfold wpList
  rw [if_pos (by simp [Region.wanted])]
  exact .inl h
theorem yielded_mk (ops : Array Oper) (j d : Nat) (h : (ops[j]?).bind (·.dst) = some d) (b : Bool) (hd : Nat.blt d n = true) (hv : σ d = .bool b) :
    yielded ops (mk n σ).tmps j = some b := by
  have hd' : d < n := by rw [Nat.blt_eq] at hd; exact hd
  unfold yielded
  simp [h, mk, hd', hv]
/-- .. guarded, and wanted. -/
theorem l_yes {ops : Array Oper} {rest : List Oper} {op : Op} {dst : Option Tmp} {j e : Nat} {b : Bool}
    (he : (ops[j]?).bind (·.dst) = some e) (hb : Nat.blt e n = true) (hv : σ e = .bool b)
    (h : Oper.wp P ⟨dst, op, ty, pos, aft, some (j, b)⟩ (mk n σ) w (wpList P ops Q rest) Q) : wpList P ops Q (⟨dst, op, ty, pos, aft, some (j, b)⟩ :: rest) (mk n σ) w := by
  have hw := yielded_mk ops j e he b hb hv
  unfold wpList
  rw [if_pos (by simp [Region.wanted, hw])]
  exact .inl h
/-- .. guarded, and not wanted. -/
theorem l_no {ops : Array Oper} {rest : List Oper} {op : Op} {j e : Nat} {b c : Bool}
    (he : (ops[j]?).bind (·.dst) = some e) (hb : Nat.blt e n = true) (hv : σ e = .bool c) (hc : (c == b) = false)
    (h : wpList P ops Q rest (mk n (up σ d undef)) w) : wpList P ops Q (⟨some d, op, ty, pos, aft, some (j, b)⟩ :: rest) (mk n σ) w := by
  have hw := yielded_mk ops j e he c hb hv
  unfold wpList
  rw [if_neg (by simp [Region.wanted, hw]; intro h'; subst h'; simp at hc), mk_put]
  exact h
theorem l_end {ops : Array Oper} {y : Code} {a : Act} (h : y.wp P Q a w) : wpList P ops (Exit.then (y.wp P Q) Q) [] a w := h
theorem l_nil {ops : Array Oper} {a : Act} (h : Q .normal a w) : wpList P ops Q [] a w := h
theorem c_yes {c : Operand} {x y : Code} (hc : ev n σ c = .bool true) (ht : x.wp P Q (mk n σ) w) : (Code.cond c x y).wp P Q (mk n σ) w :=
  wp_cond_true ((mk_eval n σ c).trans hc) ht
theorem c_no {c : Operand} {x y : Code} (hc : ev n σ c = .bool false) (ht : y.wp P Q (mk n σ) w) : (Code.cond c x y).wp P Q (mk n σ) w :=
  wp_cond_false ((mk_eval n σ c).trans hc) ht
theorem c_skip {a : Act} (h : Q .normal a w) : Code.skip.wp P Q a w := wp_skip h
theorem c_ret {a : Act} (h : Q .ret a w) : Code.ret.wp P Q a w := wp_ret h
theorem c_exit {id : Nat} {a : Act} (h : Q (.exit id) a w) : (Code.exit id).wp P Q a w := wp_exit h
theorem c_block {id : Nat} {c : Code} {a : Act} (h : c.wp P (Exit.inBlock id Q) a w) : (Code.block id c).wp P Q a w := wp_block h
/-- A cut: of the frame only the listed slots are kept. -/
theorem cut {c : Code} {ι : Type} (pat : ι → List (Nat × Value)) (A : ι → World → Prop) (i : ι) (hp : fits σ (pat i)) (hA : A i w)
    (h : ∀ i τ w, A i w → c.wp P Q (mk n (ups τ (pat i))) w) : c.wp P Q (mk n σ) w := by
  have := h i σ w hA
  rwa [ups_of_fits σ _ hp] at this
/-- a frame of which the listed slots are known, for some i. -/
def Mid {ι : Type} (n : Nat) (pat : ι → List (Nat × Value)) (A : ι → World → Prop) (a : Act) (w : World) : Prop := ∃ i τ, a = mk n (ups τ (pat i)) ∧ A i w
/-- .. and the measure has gone down. -/
def Rnd {ι : Type} (n : Nat) (pat : ι → List (Nat × Value)) (A : ι → World → Prop) (μ : ι → Nat) (m : Nat) (a : Act) (w : World) : Prop := ∃ j τ, a = mk n (ups τ (pat j)) ∧ A j w ∧ μ j < m
theorem least (p : Nat → Prop) : ∀ k, p k → ∃ m, p m ∧ ∀ j, p j → m ≤ j := by
  intro k
  induction k using Nat.strongRecOn with
  | _ k ih =>
    intro hk
    by_cases h : ∃ j, j < k ∧ p j
    · obtain ⟨j, hj, hp⟩ := h; exact ih j hj hp
    · exact ⟨k, hk, fun j hj => Nat.le_of_not_lt fun hlt => h ⟨j, hlt, hj⟩⟩
/-- A loop: what holds of the listed slots and of the world at every head; a measure. -/
theorem c_loop {c : Code} {ι : Type} (pat : ι → List (Nat × Value)) (A : ι → World → Prop) (μ : ι → Nat) (i : ι) (hp : fits σ (pat i)) (hA : A i w)
    (h : ∀ i τ w, A i w → c.wp P (Exit.then (Rnd n pat A μ (μ i)) Q) (mk n (ups τ (pat i))) w) :
    (Code.loop c).wp P Q (mk n σ) w := by
  classical
  let I : Act → World → Prop := fun a w => ∃ i τ, a = mk n (ups τ (pat i)) ∧ A i w
  let p : Act → World → Nat → Prop := fun a w k => ∃ i τ, a = mk n (ups τ (pat i)) ∧ A i w ∧ μ i = k
  have ex : ∀ a w, I a w → ∃ m, p a w m ∧ ∀ k, p a w k → m ≤ k := fun a w ⟨i, τ, h1, h2⟩ => least (p a w) (μ i) ⟨i, τ, h1, h2, rfl⟩
  let M : Act → World → Nat := fun a w => if h : I a w then Classical.choose (ex a w h) else 0
  have hM : ∀ a w, I a w → p a w (M a w) ∧ ∀ k, p a w k → M a w ≤ k := fun a w h => by
    have e : M a w = Classical.choose (ex a w h) := dif_pos h
    rw [e]
    exact Classical.choose_spec (ex a w h)
  refine wp_loop I M ⟨i, σ, by rw [ups_of_fits σ _ hp], hA⟩ ?_
  intro a w hI
  obtain ⟨⟨i, τ, rfl, hAi, hμ⟩, _⟩ := hM a w hI
  refine wp_mono (h i τ w hAi) fun e a' w' hq => ?_
  cases e <;> simp only [Exit.then] at hq ⊢
  case normal =>
    obtain ⟨j, τ', rfl, hAj, hlt⟩ := hq
    have hI' : I (mk n (ups τ' (pat j))) w' := ⟨j, τ', rfl, hAj⟩
    exact ⟨hI', Nat.lt_of_le_of_lt ((hM _ _ hI').2 _ ⟨j, τ', rfl, hAj, rfl⟩) (hμ ▸ hlt)⟩
  all_goals exact hq
theorem round_end {ι : Type} {pat : ι → List (Nat × Value)} {A : ι → World → Prop} {μ : ι → Nat} {m : Nat} (j : ι) (hp : fits σ (pat j)) (hA : A j w) (hμ : μ j < m) :
    Rnd n pat A μ m (mk n σ) w := ⟨j, σ, by rw [ups_of_fits σ _ hp], hA, hμ⟩
theorem e_ret0 {fn : Func} {R : Ending → World → Prop} (h : fn.results = #[]) (hR : R (.returned (.tuple #[])) w) : bodyPost P fn R .ret (mk n σ) w :=
  ⟨rfl, _, results_none h _ _ _, hR⟩
theorem e_ret1 {fn : Func} {R : Ending → World → Prop} {t : Tmp} {v : Value} (h : fn.results = #[.tmp t]) (hv : ev n σ (.tmp t) = v) (hR : R (.returned v) w) : bodyPost P fn R .ret (mk n σ) w :=
  ⟨rfl, _, results_tmp h _ _ _, by rw [← hv, ← mk_eval] at hR; exact hR⟩
theorem e_norm {fn : Func} {R : Ending → World → Prop} {a : Act} (h : bodyPost P fn R .ret a w) : bodyPost P fn R .normal a w := h
theorem o_val {op : Op} {v : Value} {w' : World} (hrun : (execOp (ev n σ) ⟨some d, op, ty, pos, aft, g⟩).run P w = .ok (.value v) w')
    (h : K (mk n (up σ d v)) w') : Oper.wp P ⟨some d, op, ty, pos, aft, g⟩ (mk n σ) w K Q := by
  unfold Oper.wp
  rw [mk_evalf, hrun, Oper.upon_value]
  show K ((mk n σ).put (some d) v) w'
  rw [mk_put]
  exact h
theorem o_skip {op : Op} {w' : World} (hrun : (execOp (ev n σ) ⟨none, op, ty, pos, aft, g⟩).run P w = .ok .skip w')
    (h : K (mk n σ) w') : Oper.wp P ⟨none, op, ty, pos, aft, g⟩ (mk n σ) w K Q := by
  unfold Oper.wp
  rw [mk_evalf, hrun, Oper.upon_skip]
  exact h
theorem o_mv {x : Operand} (h : K (mk n (up σ d (ev n σ x))) w) : Oper.wp P ⟨some d, .move x, ty, pos, aft, g⟩ (mk n σ) w K Q :=
  o_val (by simp [execOp]) h
theorem o_as {x : Operand} (h : K (mk n (up σ d (ev n σ x))) w) : Oper.wp P ⟨some d, .assign x, ty, pos, aft, g⟩ (mk n σ) w K Q :=
  o_val (by simp [execOp]) h
/-- A call of a Go function, by its contract. -/
theorem o_call {f : FuncId} {fn : Func} {args : Array Operand} {ats : Array TypeId} {vs : Array Value} (hf : P.funcs[f]? = some fn) (hb : fn.body.isSome = true) (hname : (fn.name == "runtime.NumGoroutine") = false)
    (ha : args.map (ev n σ) = vs)
    (h : Calls P f vs w fun e w' => match e with | .returned v => K (mk n (up σ d v)) w' | _ => False) :
    Oper.wp P ⟨some d, .call ⟨.value (.func f), args, ats⟩, ty, pos, aft, g⟩ (mk n σ) w K Q := by
  unfold Oper.wp
  rw [mk_evalf]
  have hn : fn.body ≠ none := by cases hh : fn.body <;> simp_all
  have hnm : fn.name ≠ "runtime.NumGoroutine" := by intro e; simp [e] at hname
  have : (execOp (ev n σ) ⟨some d, .call ⟨.value (.func f), args, ats⟩, ty, pos, aft, g⟩).run P w = .ok (.enter f vs) w := by
    simp [execOp, resolve, ev, Deferred.ofValue, invoke, callFunc, hf, hnm, hn, ha]
  rw [this, Oper.upon_enter]
  refine h.mono fun e w' he => ?_
  cases e <;> simp only at he ⊢
  rw [mk_put]; exact he
end
theorem mk_defers (n : Nat) (σ : Nat → Value) : (mk n σ).defers = [] := rfl
theorem mk_tmp (n : Nat) (σ : Nat → Value) (t : Nat) : (mk n σ).tmps.getD t undef = ev n σ (.tmp t) := mk_eval n σ (.tmp t)
attribute [irreducible] mk Mid Rnd
end Go.Proofs.Ytncmcgcilijfkaa
namespace Go.Proofs.Ytncmcgcilijfkaa
open Go
abbrev VI (a : Int) : Value := .int .i64 a
abbrev V8 (x : UInt8) : Value := .int .u8 (x.toNat : Int)
abbrev V32 (x : UInt32) : Value := .int .u32 (x.toNat : Int)
theorem wrap_i64 {n : Int} (h1 : -9223372036854775808 ≤ n) (h2 : n ≤ 9223372036854775807) : IntKind.i64.wrap n = n := by
  exact IntWalk.i64_in n ⟨h1, h2⟩
theorem run_equal_bool {P : Program} {t : TypeId} (hu : P.underlying t = some .bool) (a b : Bool) (w : World) : (Op.equal t (.bool a) (.bool b)).run P w = .ok (a == b) w := by
  unfold Op.equal Op.maxDepth Op.equalIn
  rw [Sem.run_bind, run_underlying hu]
  simp
section
variable {P : Program} {Q : Exit → Act → World → Prop} {n : Nat} {σ : Nat → Value} {w : World} {K : Act → World → Prop}
  {ty : TypeId} {pos : String} {aft : Array Edge} {g : Option (Nat × Bool)} {d : Nat} {t yt : TypeId} {x y : Operand} {op : BinOp}
theorem o_bin {k : IntKind} {a b : Int} {v : Value} (hx : ev n σ x = .int k a) (hy : ev n σ y = .int k b)
    (hr : ∀ w : World, (binOp op t (.int k a) (.int k b)).run P w = .ok v w) (h : K (mk n (up σ d v)) w) :
    Oper.wp P ⟨some d, .binOp op t x y yt, ty, pos, aft, g⟩ (mk n σ) w K Q :=
  o_val (by
    have he : (eqGuard op t x y (.int k a) (.int k b)).run P w = .ok () w := by
      unfold eqGuard
      cases op <;> simp
    simp [execOp, hx, hy, he, hr]) h
end
section
variable {P : Program} {w : World} {t : TypeId}
theorem b_seql (a b : ByteArray) : (Op.stringOp .eql a b).run P w = .ok (.bool (a.toList == b.toList)) w := by simp [Op.stringOp]
theorem b_sneq (a b : ByteArray) : (Op.stringOp .neq a b).run P w = .ok (.bool (!(a.toList == b.toList))) w := by simp [Op.stringOp]
theorem b_add {a b : Int} (h1 : -9223372036854775808 ≤ a + b) (h2 : a + b ≤ 9223372036854775807) : (binOp .add t (VI a) (VI b)).run P w = .ok (VI (a + b)) w := by
  simp [binOp, Op.intArith, wrap_i64 h1 h2]
theorem b_sub {a b : Int} (h1 : -9223372036854775808 ≤ a - b) (h2 : a - b ≤ 9223372036854775807) : (binOp .sub t (VI a) (VI b)).run P w = .ok (VI (a - b)) w := by
  simp [binOp, Op.intArith, wrap_i64 h1 h2]
theorem b_lss {k : IntKind} {a b : Int} : (binOp .lss t (.int k a) (.int k b)).run P w = .ok (.bool (decide (a < b))) w := by simp [binOp, Op.intCmp]
theorem b_gtr {k : IntKind} {a b : Int} : (binOp .gtr t (.int k a) (.int k b)).run P w = .ok (.bool (decide (b < a))) w := by simp [binOp, Op.intCmp]
theorem b_geq {k : IntKind} {a b : Int} : (binOp .geq t (.int k a) (.int k b)).run P w = .ok (.bool (decide (b ≤ a))) w := by simp [binOp, Op.intCmp]
theorem b_eql {k : IntKind} {a b : Int} : (binOp .eql t (.int k a) (.int k b)).run P w = .ok (.bool (decide (a = b))) w := by
  simp [binOp, Op.intCmp]; rfl
theorem b_neq {k : IntKind} {a b : Int} : (binOp .neq t (.int k a) (.int k b)).run P w = .ok (.bool (decide (a ≠ b))) w := by
  simp [binOp, Op.intCmp, bne]; rfl
end
section
variable {n : Nat} {σ : Nat → Value}
theorem c8 (k : Nat) (h : k < 256) : ev n σ (.const (.int .u8 (k : Int))) = V8 (UInt8.ofNat k) := by
  simp only [ev, V8, UInt8.toNat_ofNat']
  congr 1; omega
theorem c32 (k : Nat) (h : k < 4294967296) : ev n σ (.const (.int .u32 (k : Int))) = V32 (UInt32.ofNat k) := by
  simp only [ev, V32, UInt32.toNat_ofNat']
  congr 1; omega
end
end Go.Proofs.Ytncmcgcilijfkaa
namespace Go.Proofs.Ytncmcgcilijfkaa
open Go
/-- What is known of one block: all its cells; or a slice of the call's own from the block's head on; or another object. -/
inductive Ch where
  | blk (b : Nat) (C : List Value) (T : TypeId)
  | own (a : Option Nat) (len cap : Nat) (xs : List Value) (T : TypeId) (sz : Nat)
  | obj (b : Nat) (o : Obj)
def Ch.key : Ch → Option Nat
  | .blk b _ _ => some b
  | .own a _ _ _ _ _ => a
  | .obj b _ => some b
def Ch.ok (w : World) : Ch → Prop
  | .blk b C T => w.heap[b]? = some (.cells C.toArray T (0, 0))
  | .own none len cap xs _ _ => len = 0 ∧ cap = 0 ∧ xs = []
  | .own (some b) len cap xs T sz => xs.length = len * sz ∧ len ≤ cap ∧ cap ≤ maxLen ∧ ∃ rest, w.heap[b]? = some (.cells (xs ++ rest).toArray T (0, 0)) ∧ (xs ++ rest).length = cap * sz
  | .obj b o => w.heap[b]? = some o
def hd (a : Option Nat) : Option Addr := a.map fun b => ⟨b, 0, none⟩
theorem Ch.ok_of {w w' : World} {c : Ch} (h : c.ok w) (he : ∀ b, c.key = some b → w'.heap[b]? = w.heap[b]?) : c.ok w' := by
  cases c with
  | blk b C T => simp only [Ch.ok] at *; rw [he b rfl]; exact h
  | obj b o => simp only [Ch.ok] at *; rw [he b rfl]; exact h
  | own a len cap xs T sz => cases a with
    | none => exact h
    | some b => simp only [Ch.ok] at *; rw [he b rfl]; exact h
theorem Ch.lt {w : World} {c : Ch} (h : c.ok w) {b : Nat} (hb : c.key = some b) : b < w.heap.size := by
  have aux : ∀ o, w.heap[b]? = some o → b < w.heap.size := fun o ho => (Array.getElem?_eq_some_iff.1 ho).1
  cases c with
  | blk b' C T => cases hb; exact aux _ h
  | obj b' o => cases hb; exact aux _ h
  | own a len cap xs T sz => cases a with
    | none => cases hb
    | some b' => cases hb; obtain ⟨_, _, _, r, h, _⟩ := h; exact aux _ h
/-- w came of w0: of w0's blocks only those of S may have turned; the chunks of L stand. -/
structure Hp (w0 w : World) (S : List Nat) (L : List Ch) : Prop where
  os : w.os = w0.os
  tape : w.tape = w0.tape
  output : w.output = w0.output
  size : w0.heap.size ≤ w.heap.size
  frame : ∀ b, b < w0.heap.size → b ∉ S → w.heap[b]? = w0.heap[b]?
  has : ∀ c ∈ L, c.ok w
  fresh : ∀ c ∈ L, ∀ b, c.key = some b → b ∈ S ∨ w0.heap.size ≤ b
  nd : L.Pairwise fun c e => ∀ b, c.key = some b → e.key ≠ some b
theorem Hp.refl (w : World) (S : List Nat) : Hp w w S [] := ⟨rfl, rfl, rfl, Nat.le_refl _, fun _ _ _ => rfl, (by simp), (by simp), .nil⟩
theorem Hp.start (w : World) (c : Ch) (b : Nat) (h : c.ok w) (hk : c.key = some b) : Hp w w [b] [c] :=
  ⟨rfl, rfl, rfl, Nat.le_refl _, fun _ _ _ => rfl, (by simpa using h), (by simp [hk]), by simp⟩
theorem Hp.drew {w0 w : World} {S L} (h : Hp w0 w S L) : Hp w0 w.drew S L :=
  ⟨h.os, h.tape, h.output, h.size, h.frame, fun c hc => Ch.ok_of (h.has c hc) (fun _ _ => rfl), h.fresh, h.nd⟩
theorem Hp.sub {w0 w : World} {S L L'} (h : Hp w0 w S L) (hs : L'.Sublist L) : Hp w0 w S L' :=
  ⟨h.os, h.tape, h.output, h.size, h.frame, fun c hc => h.has c (hs.subset hc), fun c hc => h.fresh c (hs.subset hc), h.nd.sublist hs⟩
theorem Hp.below {w0 w : World} {L} (h : Hp w0 w [] L) : RowKit.Below w0.heap.size w0 w := ⟨h.os, h.tape, h.output, h.size, fun k hk => h.frame k hk (by simp)⟩
theorem Hp.mono {w0 w : World} {S S' L} (h : Hp w0 w S L) (hs : ∀ b ∈ S, b ∈ S') : Hp w0 w S' L :=
  ⟨h.os, h.tape, h.output, h.size, fun b hb hn => h.frame b hb (fun hm => hn (hs b hm)), h.has, fun c hc b hk => (h.fresh c hc b hk).imp (hs b) id, h.nd⟩
theorem heap_alloc_new' (w : World) (o : Obj) : (w.alloc o).heap[w.heap.size]? = some o := heap_alloc_new w o
theorem heap_alloc_old' (w : World) (o : Obj) (k : Nat) (h : k ≠ w.heap.size) : (w.alloc o).heap[k]? = w.heap[k]? := by
  show (w.heap.push o)[k]? = _
  rw [Array.getElem?_push, if_neg h]
/-- a new block. -/
theorem Hp.new {w0 w : World} {S L} (h : Hp w0 w S L) (o : Obj) (c : Ch) (hk : c.key = some w.heap.size) (hc : c.ok (w.alloc o)) : Hp w0 (w.alloc o) S (L ++ [c]) := by
  refine ⟨h.os, h.tape, h.output, ?_, ?_, ?_, ?_, ?_⟩
  · have := h.size; simp; omega
  · intro b hb hn
    rw [heap_alloc_old' _ _ _ (by have := h.size; omega)]
    exact h.frame b hb hn
  · intro e he
    rcases List.mem_append.1 he with he | he
    · exact Ch.ok_of (h.has e he) fun b hb => heap_alloc_old' _ _ _ (by have := Ch.lt (h.has e he) hb; omega)
    · simp at he; subst he; exact hc
  · intro e he b hb
    rcases List.mem_append.1 he with he | he
    · exact h.fresh e he b hb
    · simp at he; subst he; rw [hk] at hb; cases hb; exact .inr h.size
  · rw [List.pairwise_append]
    refine ⟨h.nd, by simp, fun e he f hf b hb => ?_⟩
    simp at hf; subst hf
    rw [hk]; intro e'; cases e'
    have := Ch.lt (h.has e he) hb; omega
theorem Hp.alloc {w0 w : World} {S L} (h : Hp w0 w S L) (C : List Value) (T : TypeId) : Hp w0 (w.alloc (.cells C.toArray T)) S (L ++ [.blk w.heap.size C T]) :=
  h.new _ _ rfl (heap_alloc_new' w _)
theorem mem_set_cases {α : Type} {L : List α} {i : Nat} {c e : α} (h : e ∈ L.set i c) : e = c ∨ ∃ j, j ≠ i ∧ L[j]? = some e := by
  obtain ⟨j, hj⟩ := List.getElem?_of_mem h
  by_cases hij : i = j
  · subst hij
    rw [List.getElem?_set] at hj
    simp at hj
    exact .inl hj.2.symm
  · rw [List.getElem?_set_ne hij] at hj
    exact .inr ⟨j, Ne.symm hij, hj⟩
theorem pw_ne {L : List Ch} (h : L.Pairwise fun c e => ∀ b, c.key = some b → e.key ≠ some b) {i j : Nat} {c e : Ch} (hi : L[i]? = some c) (hj : L[j]? = some e) (hij : i ≠ j) {b : Nat} (hb : c.key = some b) : e.key ≠ some b := by
  rw [List.pairwise_iff_getElem] at h
  obtain ⟨hi', rfl⟩ := List.getElem?_eq_some_iff.1 hi
  obtain ⟨hj', rfl⟩ := List.getElem?_eq_some_iff.1 hj
  rcases Nat.lt_or_gt_of_ne hij with hlt | hlt
  · exact h i j hi' hj' hlt b hb
  · intro he
    exact h j i hj' hi' hlt b he hb
/-- chunk i turns: the new chunk lies in the old one's block, or in a new one; no other known block turns. -/
theorem Hp.turn {w0 w w' : World} {S L} (h : Hp w0 w S L) {i : Nat} {c c' : Ch} (hi : L[i]? = some c) (hok : c'.ok w') (hk : ∀ b, c'.key = some b → c.key = some b ∨ w.heap.size ≤ b)
    (hos : w'.os = w.os) (htape : w'.tape = w.tape) (hout : w'.output = w.output) (hsize : w.heap.size ≤ w'.heap.size)
    (hother : ∀ b, b < w.heap.size → c.key ≠ some b → w'.heap[b]? = w.heap[b]?) : Hp w0 w' S (L.set i c') := by
  have hmem := List.mem_of_getElem? hi
  refine ⟨hos.trans h.os, htape.trans h.tape, hout.trans h.output, Nat.le_trans h.size hsize, ?_, ?_, ?_, ?_⟩
  · intro b hb hn
    rw [hother b (Nat.lt_of_lt_of_le hb h.size) ?_, h.frame b hb hn]
    intro hc
    rcases h.fresh c hmem b hc with h1 | h1
    · exact hn h1
    · omega
  · intro e he
    rcases mem_set_cases he with rfl | ⟨j, hj, hje⟩
    · exact hok
    · have hm := List.mem_of_getElem? hje
      refine Ch.ok_of (h.has e hm) fun b hb => hother b (Ch.lt (h.has e hm) hb) fun hc => ?_
      exact pw_ne h.nd hi hje (Ne.symm hj) hc hb
  · intro e he b hb
    rcases mem_set_cases he with rfl | ⟨j, hj, hje⟩
    · rcases hk b hb with h1 | h1
      · exact h.fresh c hmem b h1
      · exact .inr (Nat.le_trans h.size h1)
    · exact h.fresh e (List.mem_of_getElem? hje) b hb
  · rw [List.pairwise_iff_getElem]
    intro j k hj hk' hlt b hb
    simp only [List.length_set] at hj hk'
    have key : ∀ m (hm : m < L.length), m ≠ i → (L[m]).key = some b → c'.key ≠ some b := fun m hm hne hb' hc' => by
      have hmok := h.has _ (List.getElem_mem hm)
      rcases hk b hc' with h1 | h1
      · exact pw_ne h.nd hi (List.getElem?_eq_getElem hm) (Ne.symm hne) h1 hb'
      · have := Ch.lt hmok hb'; omega
    rw [List.getElem_set] at hb ⊢
    by_cases h1 : i = j
    · rw [if_pos h1] at hb
      rw [if_neg (by omega)]
      intro he
      exact key k hk' (by omega) he hb
    · rw [if_neg h1] at hb
      by_cases h2 : i = k
      · rw [if_pos h2]; exact key j hj (Ne.symm h1) hb
      · rw [if_neg h2]
        exact (List.pairwise_iff_getElem.1 h.nd) j k hj hk' hlt b hb
/-- a row is laid anew. -/
theorem Hp.row {w0 w : World} {S L} (h : Hp w0 w S L) {i b : Nat} {c c' : Ch} {C C' : List Value} {T : TypeId} (hi : L[i]? = some c) (hk : c.key = some b) (hk' : c'.key = some b)
    (hw : w.heap[b]? = some (.cells C.toArray T (0, 0))) (hok : ∀ w' : World, w'.heap[b]? = some (.cells C'.toArray T (0, 0)) → c'.ok w') : Hp w0 (w.setRow b C'.toArray) S (L.set i c') :=
  h.turn hi (hok _ (setRow_heap w b _ _ T (0, 0) hw)) (fun b' hb' => .inl (by rw [hk] ; rw [hk'] at hb'; exact hb')) rfl rfl rfl (by simp)
    (fun b' _ hne => setRow_other w b b' _ (fun e => hne (by rw [hk, e])))
/-- a call that turns nothing that was there. -/
theorem Hp.call {w0 w w' : World} {S L L'} (h : Hp w0 w S L) (hc : Hp w w' [] L') : Hp w0 w' S (L ++ L') := by
  refine ⟨hc.os.trans h.os, hc.tape.trans h.tape, hc.output.trans h.output, Nat.le_trans h.size hc.size, ?_, ?_, ?_, ?_⟩
  · intro b hb hn
    rw [hc.frame b (Nat.lt_of_lt_of_le hb h.size) (by simp), h.frame b hb hn]
  · intro e he
    rcases List.mem_append.1 he with he | he
    · exact Ch.ok_of (h.has e he) fun b hb => hc.frame b (Ch.lt (h.has e he) hb) (by simp)
    · exact hc.has e he
  · intro e he b hb
    rcases List.mem_append.1 he with he | he
    · exact h.fresh e he b hb
    · rcases hc.fresh e he b hb with h1 | h1
      · simp at h1
      · exact .inr (Nat.le_trans h.size h1)
  · rw [List.pairwise_append]
    refine ⟨h.nd, hc.nd, fun e he f hf b hb hb' => ?_⟩
    rcases hc.fresh f hf b hb' with h1 | h1
    · simp at h1
    · have := Ch.lt (h.has e he) hb; omega
/-- from the slice's beginning on the cells are vs. -/
def RdS (w : World) (a : Option Addr) (vs : List Value) : Prop :=
  vs = [] ∨ ∃ b o C T fr, a = some ⟨b, o, none⟩ ∧ w.heap[b]? = some (.cells C T fr) ∧ ∀ i v, vs[i]? = some v → C[o + i]? = some v
def Apart (a : Option Addr) (S : List Nat) : Prop := ∀ x, a = some x → x.block ∉ S
theorem apart_nil (a : Option Addr) : Apart a [] := fun _ _ => by simp
theorem RdS.nil (w : World) (a : Option Addr) : RdS w a [] := .inl rfl
theorem RdS.of_heap {w w' : World} {a : Option Addr} {vs : List Value} (h : RdS w a vs) (he : ∀ x, a = some x → x.block < w.heap.size → w'.heap[x.block]? = w.heap[x.block]?) : RdS w' a vs := by
  rcases h with h | ⟨b, o, C, T, fr, ha, hb, hc⟩
  · exact .inl h
  · exact .inr ⟨b, o, C, T, fr, ha, by rw [he _ ha (Array.getElem?_eq_some_iff.1 hb).1]; exact hb, hc⟩
theorem Hp.rd {w0 w : World} {S L} (h : Hp w0 w S L) {a : Option Addr} {vs : List Value} (hr : RdS w0 a vs) (hap : Apart a S) : RdS w a vs :=
  hr.of_heap fun x hx hlt => h.frame _ hlt (hap x hx)
theorem RdS.cell {w : World} {a : Option Addr} {vs : List Value} (h : RdS w a vs) {i : Nat} {v : Value} (hv : vs[i]? = some v) : ∃ b o, a = some ⟨b, o, none⟩ ∧ w.cell? ⟨b, o + i, none⟩ = some v := by
  rcases h with rfl | ⟨b, o, C, T, fr, ha, hb, hc⟩
  · simp at hv
  · exact ⟨b, o, ha, by simp [World.cell?, hb, hc i v hv]⟩
theorem RdS.drop {w : World} {a : Option Addr} {vs : List Value} (h : RdS w a vs) (k : Nat) : RdS w (a.map (·.add k)) (vs.drop k) := by
  rcases h with rfl | ⟨b, o, C, T, fr, rfl, hb, hc⟩
  · exact .inl (by simp)
  · refine .inr ⟨b, o + k, C, T, fr, ?_, hb, fun i v hv => ?_⟩
    · simp only [Option.map_some, Addr.add]
      by_cases hk : k = 0
      · subst hk; simp
      · rw [if_neg hk]
    · rw [List.getElem?_drop] at hv
      have := hc (k + i) v hv
      rwa [← Nat.add_assoc] at this
theorem RdS.take {w : World} {a : Option Addr} {vs : List Value} (h : RdS w a vs) (k : Nat) : RdS w a (vs.take k) := by
  rcases h with rfl | ⟨b, o, C, T, fr, rfl, hb, hc⟩
  · exact .inl (by simp)
  · refine .inr ⟨b, o, C, T, fr, rfl, hb, fun i v hv => hc i v ?_⟩
    rw [List.getElem?_take] at hv
    split at hv
    · exact hv
    · cases hv
theorem Ch.rd_own {w : World} {a : Option Nat} {len cap : Nat} {xs : List Value} {T sz} (h : (Ch.own a len cap xs T sz).ok w) : RdS w (hd a) xs := by
  cases a with
  | none => exact .inl h.2.2
  | some b =>
    obtain ⟨_, _, _, rest, hb, _⟩ := h
    refine .inr ⟨b, 0, _, T, (0, 0), rfl, hb, fun i v hv => ?_⟩
    have hi : i < xs.length := (List.getElem?_eq_some_iff.1 hv).1
    simp [List.getElem?_append_left hi, hv]
theorem Hp.own {w0 w : World} {S L} (h : Hp w0 w S L) {i : Nat} {a : Option Nat} {len cap : Nat} {xs : List Value} {T sz} (hi : L[i]? = some (.own a len cap xs T sz)) : RdS w (hd a) xs :=
  Ch.rd_own (h.has _ (List.mem_of_getElem? hi))
theorem Hp.blk {w0 w : World} {S L} (h : Hp w0 w S L) {i b : Nat} {C : List Value} {T} (hi : L[i]? = some (.blk b C T)) : w.heap[b]? = some (.cells C.toArray T (0, 0)) :=
  h.has _ (List.mem_of_getElem? hi)
def cellTy (P : Program) (t : TypeId) : Bool := match P.underlying t with | some (.struct _) | some (.array _ _) => false | some _ => true | none => false
def rowTy (P : Program) (t : TypeId) : Option Nat := match P.underlying t with | some (.struct _) | some (.array _ _) => (P.info? t).map (·.size) | _ => none
def cellSz (P : Program) (t : TypeId) : Option Nat := (P.info? t).map (·.size)
theorem run_isAgg_cell {P : Program} {t : TypeId} (h : cellTy P t = true) (w : World) : (isAgg t).run P w = .ok false w := by
  unfold cellTy at h
  cases hu : P.underlying t with
  | none => simp [hu] at h
  | some d => cases d <;> simp_all [isAgg, run_underlying hu]
theorem run_isAgg_row {P : Program} {t : TypeId} {k : Nat} (h : rowTy P t = some k) (w : World) : (isAgg t).run P w = .ok true w := by
  unfold rowTy at h
  cases hu : P.underlying t with
  | none => simp [hu] at h
  | some d => cases d <;> simp_all [isAgg, run_underlying hu]
theorem sz_of_row {P : Program} {t : TypeId} {k : Nat} (h : rowTy P t = some k) : cellSz P t = some k := by
  unfold rowTy at h
  cases hu : P.underlying t with
  | none => simp [hu] at h
  | some d => cases d <;> simp_all [cellSz]
theorem run_sizeOf_sz {P : Program} {t : TypeId} {k : Nat} (h : cellSz P t = some k) (w : World) : (sizeOf t).run P w = .ok k w := by
  unfold cellSz at h
  cases hi : P.info? t with
  | none => simp [hi] at h
  | some i => simp [hi] at h; simp [sizeOf, typeInfo, hi, h]
theorem run_loadCells_row {P : Program} {w : World} {b o : Nat} {C : List Value} {T : TypeId} {fr : Nat × Nat} (hb : w.heap[b]? = some (.cells C.toArray T fr)) (k : Nat) (hk : o + k ≤ C.length) :
    ∀ i acc, (loadCellsFrom ⟨b, o, none⟩ i k acc).run P w = .ok (acc ++ ((C.drop (o + i)).take k).toArray) w ∨ k + i + o > C.length := by
  induction k with
  | zero => intro i acc; left; simp [loadCellsFrom]
  | succ k ih =>
    intro i acc
    by_cases hlt : k + 1 + i + o > C.length
    · exact .inr hlt
    · left
      have hcell : w.cell? ((⟨b, o, none⟩ : Addr).add i) = some (C[o + i]'(by omega)) := by
        rw [Addr.add_mid]; simp [World.cell?, hb]
        try rw [List.getElem?_eq_getElem (by omega)]
      rcases ih (by omega) (i + 1) (acc.push (C[o + i]'(by omega))) with h | h
      · simp only [loadCellsFrom, Sem.run_bind, run_load, hcell, Result.andThen_ok, h]
        congr 1
        have e1 : C.drop (o + i) = C[o + i]'(by omega) :: C.drop (o + i + 1) := List.drop_eq_getElem_cons (by omega)
        rw [e1, List.take_succ_cons]
        apply Array.ext'
        simp [Nat.add_assoc]
      · omega
theorem run_loadAt_row {P : Program} {w : World} {b o : Nat} {C : List Value} {T : TypeId} {fr : Nat × Nat} {t : TypeId} {k : Nat} (hb : w.heap[b]? = some (.cells C.toArray T fr)) (ht : rowTy P t = some k) (hk : o + k ≤ C.length) :
    (Instr.loadAt t (.pointer (some ⟨b, o, none⟩))).run P w = .ok (.agg ((C.drop o).take k).toArray) w := by
  have h1 := run_isAgg_row ht w
  have h2 := run_sizeOf_sz (sz_of_row ht) w
  rcases run_loadCells_row (P := P) hb k hk 0 #[] with h | h
  · simp [Instr.loadAt, Instr.sureAddr, loadVar, h1, h2, loadCells, h]
  · omega
theorem run_loadAt_cell {P : Program} {w : World} {a : Addr} {t : TypeId} {v : Value} (ht : cellTy P t = true) (hv : w.cell? a = some v) :
    (Instr.loadAt t (.pointer (some a))).run P w = .ok v w := by
  simp [Instr.loadAt, Instr.sureAddr, loadVar, run_isAgg_cell ht w, hv]
theorem run_storeAt_row {P : Program} {w : World} {b o : Nat} {C : List Value} {T : TypeId} {t : TypeId} {v : Value} (hb : w.heap[b]? = some (.cells C.toArray T (0, 0)))
    (hs : cellSz P t = some v.cells.size) (hk : o + v.cells.size ≤ C.length) (h1 : v.cells.all (·.oneCell') = true) :
    (Instr.storeAt t (.pointer (some ⟨b, o, none⟩)) v).run P w = .ok () (w.setRow b (C.take o ++ v.cells.toList ++ C.drop (o + v.cells.size)).toArray) := by
  have h2 := run_sizeOf_sz hs w
  have h3 := run_storeCells_at (P := P) b o T v.cells.toList 0 C.toArray w hb (by simpa using hk) (fun x hx => by
    rw [Array.mem_toList_iff] at hx
    obtain ⟨i, hi, rfl⟩ := Array.getElem_of_mem hx
    exact (Array.all_eq_true.1 h1) i hi)
  simp only [Nat.add_zero, Array.length_toList] at h3
  simp only [List.append_assoc] at h3 ⊢
  simp [Instr.storeAt, Instr.sureAddr, storeVar, h2, h3]
section
variable {P : Program} {Q : Exit → Act → World → Prop} {n : Nat} {σ : Nat → Value} {w w0 : World} {K : Act → World → Prop}
  {ty : TypeId} {pos : String} {aft : Array Edge} {g : Option (Nat × Bool)} {d : Nat} {t yt : TypeId} {x y : Operand} {S : List Nat} {L : List Ch}
def zeroCells (P : Program) (t : TypeId) : Option (List Value) := (P.info? t).bind fun i => i.zero.map fun v => v.cells.toList
theorem run_zero {C : List Value} (h : zeroCells P t = some C) (w : World) : ∃ z, (zeroValue t).run P w = .ok z w ∧ z.cells = C.toArray := by
  unfold zeroCells at h
  cases hi : P.info? t with
  | none => simp [hi] at h
  | some i =>
    cases hz : i.zero with
    | none => simp [hi, hz] at h
    | some z => simp [hi, hz] at h; exact ⟨z, by simp [zeroValue, typeInfo, hi, hz], by rw [← h]⟩
theorem o_alloc {C : List Value} (H : Hp w0 w S L) (hz : zeroCells P t = some C)
    (h : ∀ b w', Hp w0 w' S (L ++ [.blk b C t]) → w0.heap.size ≤ b → K (mk n (up σ d (.pointer (some ⟨b, 0, none⟩)))) w') :
    Oper.wp P ⟨some d, .alloc t, ty, pos, aft, g⟩ (mk n σ) w K Q := by
  obtain ⟨z, hz1, hz2⟩ := run_zero hz w
  refine o_val (v := .pointer (some ⟨w.heap.size, 0, none⟩)) (w' := w.alloc (.cells C.toArray t)) ?_ (h _ _ (H.alloc C t) H.size)
  simp [execOp, Instr.alloc, hz1, newVar, newRow, hz2]
theorem o_box {v : Value} (H : Hp w0 w S L) (hx : ev n σ x = v)
    (h : ∀ b w', Hp w0 w' S (L ++ [.blk b v.cells.toList t]) → w0.heap.size ≤ b → K (mk n (up σ d (.pointer (some ⟨b, 0, none⟩)))) w') :
    Oper.wp P ⟨some d, .box t x, ty, pos, aft, g⟩ (mk n σ) w K Q := by
  refine o_val (v := .pointer (some ⟨w.heap.size, 0, none⟩)) (w' := w.alloc (.cells v.cells t)) ?_ (h _ _ (by simpa using H.alloc v.cells.toList t) H.size)
  simp [execOp, Instr.box, hx, newVar, newRow]
def fieldOff (P : Program) (t : TypeId) (i : Nat) : Option Nat :=
  match P.underlying t with
  | some (.struct fs) => (fs[i]?).bind fun f => (P.info? f.type).bind fun j => if j.size = 0 then none else some f.offset
  | _ => none
def arrOf (P : Program) (t : TypeId) : Option (Nat × Nat) :=
  match P.underlying t with
  | some (.array len e) => (P.info? e).map fun i => (len, i.size)
  | _ => none
def eltOf (P : Program) (t : TypeId) : Option Nat :=
  match P.underlying t with
  | some (.slice e) => (P.info? e).map fun i => i.size
  | _ => none
end
end Go.Proofs.Ytncmcgcilijfkaa
namespace Go.Proofs.Ytncmcgcilijfkaa
open Go
section
variable {P : Program} {Q : Exit → Act → World → Prop} {n : Nat} {σ : Nat → Value} {w w0 : World} {K : Act → World → Prop}
  {ty : TypeId} {pos : String} {aft : Array Edge} {g : Option (Nat × Bool)} {d : Nat} {t yt : TypeId} {x y z : Operand} {S : List Nat} {L : List Ch}
theorem splice_one (C : List Value) (o : Nat) (v : Value) (h : o < C.length) : C.take o ++ [v] ++ C.drop (o + 1) = C.set o v := by
  apply List.ext_getElem?
  intro i
  rw [List.append_assoc, List.getElem?_set]
  by_cases h1 : i < o
  · rw [List.getElem?_append_left (by simp; omega), List.getElem?_take_of_lt h1, if_neg (by omega)]
  · rw [List.getElem?_append_right (by simp; omega)]
    by_cases h2 : o = i
    · subst h2; simp [h, Nat.min_eq_left (Nat.le_of_lt h)]
    · rw [if_neg h2, List.getElem?_append_right (by simp; omega)]
      simp only [List.length_take, Nat.min_eq_left (Nat.le_of_lt h), List.length_singleton, List.getElem?_drop]
      congr 1; omega
/-- a store of one cell into a known block. -/
theorem o_st {b o i : Nat} {C : List Value} {T : TypeId} {v : Value} (H : Hp w0 w S L) (hi : L[i]? = some (.blk b C T)) (hx : ev n σ x = .pointer (some ⟨b, o, none⟩)) (hy : ev n σ y = v)
    (hs : cellSz P t = some 1) (h1 : v.oneCell' = true) (ho : o < C.length)
    (h : ∀ w', Hp w0 w' S (L.set i (.blk b (C.set o v) T)) → K (mk n σ) w') : Oper.wp P ⟨none, .store t x y, ty, pos, aft, g⟩ (mk n σ) w K Q := by
  have hc : v.cells = #[v] := by cases v <;> simp_all [Value.cells, Value.oneCell']
  have hr := run_storeAt_row (P := P) (t := t) (v := v) (H.blk hi) (o := o) (by rw [hc]; exact hs) (by rw [hc]; simp; omega) (by rw [hc]; simpa using h1)
  rw [hc] at hr
  have e : C.take o ++ (#[v] : Array Value).toList ++ C.drop (o + (#[v] : Array Value).size) = C.set o v := splice_one C o v ho
  rw [e] at hr
  refine o_skip (w' := w.setRow b (C.set o v).toArray) (by simp [execOp, hx, hy, hr]) (h _ ?_)
  exact H.row hi rfl rfl (H.blk hi) fun w' hw => hw
/-- a store of a row of cells. -/
theorem o_sr {b o i : Nat} {C : List Value} {T : TypeId} {vs : Array Value} (H : Hp w0 w S L) (hi : L[i]? = some (.blk b C T)) (hx : ev n σ x = .pointer (some ⟨b, o, none⟩)) (hy : ev n σ y = .agg vs)
    (hs : cellSz P t = some vs.size) (h1 : vs.all (·.oneCell') = true) (ho : o + vs.size ≤ C.length)
    (h : ∀ w', Hp w0 w' S (L.set i (.blk b (C.take o ++ vs.toList ++ C.drop (o + vs.size)) T)) → K (mk n σ) w') : Oper.wp P ⟨none, .store t x y, ty, pos, aft, g⟩ (mk n σ) w K Q := by
  have hr := run_storeAt_row (P := P) (t := t) (v := .agg vs) (H.blk hi) (o := o) hs ho h1
  refine o_skip (w' := w.setRow b (C.take o ++ vs.toList ++ C.drop (o + vs.size)).toArray) (by simp only [execOp, hx, hy, Sem.run_bind, hr]; simp [Value.cells]) (h _ ?_)
  exact H.row hi rfl rfl (H.blk hi) fun w' hw => hw
/-- a store of a whole row. -/
theorem o_stw {b i : Nat} {C : List Value} {T : TypeId} {vs : Array Value} (H : Hp w0 w S L) (hi : L[i]? = some (.blk b C T)) (hx : ev n σ x = .pointer (some ⟨b, 0, none⟩)) (hy : ev n σ y = .agg vs)
    (hs : cellSz P t = some vs.size) (h1 : vs.all (·.oneCell') = true) (ho : vs.size = C.length)
    (h : ∀ w', Hp w0 w' S (L.set i (.blk b vs.toList T)) → K (mk n σ) w') : Oper.wp P ⟨none, .store t x y, ty, pos, aft, g⟩ (mk n σ) w K Q := by
  refine o_sr H hi hx hy hs h1 (by omega) fun w' H' => h w' ?_
  simpa [ho] using H'
theorem Hp.conv {i : Nat} {c c' : Ch} (H : Hp w0 w S L) (hi : L[i]? = some c) (hk : c'.key = c.key) (hok : c.ok w → c'.ok w) : Hp w0 w S (L.set i c') :=
  H.turn hi (hok (H.has _ (List.mem_of_getElem? hi))) (fun b hb => .inl (by rw [← hk]; exact hb)) rfl rfl rfl (Nat.le_refl _) (fun _ _ _ => rfl)
/-- a block as a slice of its first elements. -/
theorem Hp.toOwn {i b len cap sz : Nat} {C : List Value} {T : TypeId} (H : Hp w0 w S L) (hi : L[i]? = some (.blk b C T)) (hl : len ≤ cap) (hm : cap ≤ maxLen) (hc : C.length = cap * sz) :
    Hp w0 w S (L.set i (.own (some b) len cap (C.take (len * sz)) T sz)) :=
  H.conv hi rfl fun hok => ⟨by rw [List.length_take, hc]; exact Nat.min_eq_left (Nat.mul_le_mul_right sz hl), hl, hm, C.drop (len * sz), by rw [List.take_append_drop]; exact hok, by rw [List.take_append_drop]; exact hc⟩
def sa (a : Option Addr) (l cap sz : Nat) : Option Addr := if cap = l then a else a.map (·.add (l * sz))
theorem RdS.sa {a : Option Addr} {vs : List Value} (h : RdS w a vs) (l cap sz : Nat) (hl : vs.length ≤ cap * sz) : RdS w (sa a l cap sz) (vs.drop (l * sz)) := by
  unfold Go.Proofs.Ytncmcgcilijfkaa.sa
  split
  · rename_i e; subst e
    rw [List.drop_eq_nil_of_le hl]; exact .nil _ _
  · exact h.drop _
theorem Apart.sa {a : Option Addr} {S : List Nat} (h : Apart a S) (l cap sz : Nat) : Apart (sa a l cap sz) S := by
  unfold Go.Proofs.Ytncmcgcilijfkaa.sa
  split
  · exact h
  · intro x hx
    cases a with
    | none => cases hx
    | some a =>
      simp only [Option.map_some, Option.some.injEq] at hx
      subst hx
      have := h a rfl
      unfold Addr.add; split <;> exact this
theorem sb_l {s : Bool} {len cap : Nat} {k : IntKind} {l : Int} (h0 : 0 ≤ l) (h1 : l ≤ len) (w : World) : (Instr.sliceBounds s len cap (some (.int k l)) none none).run P w = .ok (l.toNat, len, cap) w := by
  simp [Instr.sliceBounds, run_sliceBound, h0, h1]
theorem sb_h {s : Bool} {len cap : Nat} {k : IntKind} {h : Int} (h0 : 0 ≤ h) (h1 : h ≤ cap) (w : World) : (Instr.sliceBounds s len cap none (some (.int k h)) none).run P w = .ok (0, h.toNat, cap) w := by
  simp [Instr.sliceBounds, run_sliceBound, h0, h1]
theorem run_builtin {b : Builtin} {args : Array Operand} {ats : Array TypeId} {s : Sem Value} {v : Value} {w' : World} {dst : Option Tmp} {vs : Array Value}
    (ha : args.map (ev n σ) = vs)
    (hb : ∀ cs, builtin b ats ty cs vs = (do pure (.value (← s)))) (hs : s.run P w = .ok v w') :
    (execOp (ev n σ) ⟨dst, .call ⟨.builtin b, args, ats⟩, ty, pos, aft, g⟩).run P w = .ok (.value v) w' := by
  simp [execOp, resolve, invoke, ha, hb, hs]
theorem run_max_int2' {ts : Array TypeId} {t : TypeId} {k : IntKind} {x y : Int} : (Builtin.max_ ts t #[.int k x, .int k y]).run P w = .ok (.int k (if y > x then y else x)) w := by
  simp [Builtin.max_, Builtin.max2]
structure SlTy (P : Program) (t e : TypeId) (sz bytes : Nat) : Prop where
  und : P.underlying t = some (.slice e)
  row : ∃ i z, P.info? e = some i ∧ i.zero = some z ∧ i.size = sz ∧ i.bytes = bytes ∧ z.cells.size = sz
theorem SlTy.mk' {t e sz bytes : Nat} (h1 : P.underlying t = some (.slice e)) (h2 : ((P.info? e).bind fun i => i.zero.map fun z => (i.size, i.bytes, z.cells.size)) = some (sz, bytes, sz)) : SlTy P t e sz bytes := by
  refine ⟨h1, ?_⟩
  cases hi : P.info? e with
  | none => simp [hi] at h2
  | some i =>
    cases hz : i.zero with
    | none => simp [hi, hz] at h2
    | some z => simp [hi, hz] at h2; exact ⟨i, z, rfl, hz, h2.1, h2.2.1, h2.2.2⟩
theorem RdS.src {sz : Nat} {tx e' : TypeId} {a : Option Addr} {len cap : Nat} {vs : List Value} (hk : P.underlying tx = some (.slice e')) (hr : RdS w a vs) (hl : vs.length = len * sz) (hs : 0 < sz) (h1 : ∀ u ∈ vs, u.oneCell' = true) :
    Src P sz tx (.slice a len cap) len vs w := by
  by_cases h0 : vs = []
  · subst h0
    have : len = 0 := by rcases Nat.mul_eq_zero.1 hl.symm with h | h <;> omega
    subst this
    cases a with
    | none => exact Src.ofNil w hk cap
    | some a => exact Src.ofSlice w hk a 0 cap [] (by simp) (by simp) (by simp)
  · rcases hr with h | ⟨b, o, C, T, fr, rfl, hb, hc⟩
    · exact absurd h h0
    · exact Src.ofSlice w hk _ len cap vs hl (fun j u hj => by rw [Addr.add_mid]; simp [World.cell?, hb, hc j u hj]) h1
theorem slicecap_le {a b by_ : Nat} (h : a * by_ ≤ 140737488355328) (hb : b < a) : Builtin.nextslicecap a b * by_ ≤ 281474976710656 :=
  Nat.le_trans (Nat.mul_le_mul_right _ (nextslicecap_le hb)) (by rw [Nat.mul_assoc]; omega)
/-- append to a slice of the call's own. -/
theorem o_app {i : Nat} {a : Option Nat} {len cap : Nat} {xs : List Value} {e : TypeId} {sz bytes m : Nat} {tx : TypeId} {v : Value} {news : List Value} (H : Hp w0 w S L) (hi : L[i]? = some (.own a len cap xs e sz))
    (hT : SlTy P t e sz bytes) (hx : ev n σ x = .slice (hd a) len cap) (hy : ev n σ y = v) (hsrc : Src P sz tx v m news w) (_hsz : 0 < sz)
    (hlen : len + m ≤ 4611686018427387903) (hbytes : (len + m) * bytes ≤ 140737488355328)
    (h : ∀ a' cap' w', Hp w0 w' S (L.set i (.own a' (len + m) cap' (xs ++ news) e sz)) → K (mk n (up σ d (.slice (hd a') (len + m) cap'))) w') :
    Oper.wp P ⟨some d, .call ⟨.builtin .append, #[x, y], #[t, tx]⟩, ty, pos, aft, g⟩ (mk n σ) w K Q := by
  obtain ⟨inf, zv, hinf, hzv, hsize, hby, hzs⟩ := hT.row
  have hok := H.has _ (List.mem_of_getElem? hi)
  have hargs : (#[x, y] : Array Operand).map (ev n σ) = #[.slice (hd a) len cap, v] := by simp [hx, hy]
  have hxl : xs.length = len * sz := by
    cases a with
    | none => obtain ⟨rfl, rfl, rfl⟩ := hok; simp
    | some b => exact hok.1
  by_cases hroom : len + m ≤ cap
  · cases a with
    | none =>
      obtain ⟨rfl, rfl, rfl⟩ := hok
      have hm : m = 0 := by omega
      subst hm
      have hnews : news = [] := List.length_eq_zero_iff.1 (by rw [hsrc.newsLen]; simp)
      subst hnews
      refine o_val (run_builtin (s := Builtin.append_ #[t, tx] ty #[.slice none 0 0, v]) (vs := #[.slice none 0 0, v]) (v := .slice none 0 0) hargs (fun _ => rfl) ?_) (h none 0 w ?_)
      · rcases hsrc.kind with ⟨e', hk⟩ | hk <;> simp [Builtin.append_, run_underlying hT.und, run_underlying hk, sizeOf, typeInfo, hinf, hsrc.len, hsize, hsrc.cells]
      · have : L.set i (.own none (0 + 0) 0 ([] ++ []) e sz) = L := by
          apply List.ext_getElem?
          intro j
          by_cases hij : i = j
          · subst hij
            have hlt := (List.getElem?_eq_some_iff.1 hi).1
            rw [List.getElem?_set_self hlt, hi]; rfl
          · rw [List.getElem?_set_ne hij]
        rw [this]; exact H
    | some b =>
      obtain ⟨_, hle, hmx, rest, hw, hcap⟩ := hok
      have hrow := run_append_room_src (P := P) w t tx ty e inf hT.und hinf b 0 len cap v m news (by rw [hsize]; exact hsrc) hroom
        (fun j hj => by
          have : 0 + len * inf.size + j < (xs ++ rest).length := by
            rw [hcap, hsize, Nat.zero_add]
            have := hsrc.newsLen
            have h2 : (len + m) * sz ≤ cap * sz := Nat.mul_le_mul_right _ hroom
            rw [Nat.add_mul] at h2; omega
          simp only [World.cell?, hw]
          rw [List.getElem?_toArray, List.getElem?_eq_getElem this]; simp)
        (fun j hj => by simp [World.frozen?, hw])
      have hnl := hsrc.newsLen
      have hfit : len * sz + news.length ≤ (xs ++ rest).length := by
        rw [hcap, hnl, ← Nat.add_mul]; exact Nat.mul_le_mul_right _ hroom
      have hset : w.setCells b (0 + len * inf.size) news = w.setRow b (xs ++ news ++ rest.drop news.length).toArray := by
        have h1 := run_storeCells_at (P := P) b (0 + len * inf.size) e news 0 (xs ++ rest).toArray w hw (by simp only [List.size_toArray]; rw [hsize]; omega) hsrc.one
        have h2 := run_storeCells_cells (P := P) b (0 + len * inf.size) news 0 w
          (fun j hj => by
            have : 0 + len * inf.size + 0 + j < (xs ++ rest).length := by rw [hsize]; omega
            simp only [World.cell?, hw]
            rw [List.getElem?_toArray, List.getElem?_eq_getElem this]; simp)
          (fun j hj => by simp [World.frozen?, hw]) hsrc.one
        rw [h1] at h2
        simp only [Result.ok.injEq, true_and, Nat.add_zero, Nat.zero_add] at h2
        rw [Nat.zero_add, ← h2, hsize]
        congr 2
        rw [show len * sz = xs.length from hxl.symm]
        simp [List.drop_append]
      rw [hset] at hrow
      refine o_val (run_builtin (s := Builtin.append_ #[t, tx] ty #[.slice (some ⟨b, 0, none⟩) len cap, v]) (vs := #[.slice (some ⟨b, 0, none⟩) len cap, v]) hargs (fun _ => rfl) hrow) (h (some b) cap _ ?_)
      refine H.row hi rfl rfl hw fun w' hw' => ⟨by rw [List.length_append, hxl, hnl, Nat.add_mul], hroom, hmx, rest.drop news.length, hw', ?_⟩
      rw [← hcap]; simp only [List.length_append, List.length_drop]
      simp only [List.length_append] at hfit hcap
      rw [hxl] at *; omega
  · have hfc : (Builtin.firstCells inf.size len (.slice (hd a) len cap)).run P w.drew = .ok xs.toArray w.drew := by
      cases a with
      | none => obtain ⟨rfl, rfl, rfl⟩ := hok; exact run_firstCells_none w.drew inf.size 0 0 0
      | some b =>
        obtain ⟨h1, _, _, rest, hw, _⟩ := hok
        refine run_firstCells_some w.drew inf.size len ⟨b, 0, none⟩ len cap xs (by rw [h1, hsize]) fun j u hj => ?_
        rw [Addr.add_mid, World.cell?_drew]
        have hlt : j < xs.length := (List.getElem?_eq_some_iff.1 hj).1
        simp [World.cell?, hw, List.getElem?_append_left hlt, hj]
    have hrow := run_append_grow_src (P := P) w t tx ty e inf zv hT.und hinf hzv (hd a) len cap xs hfc v m news (by rw [hsize]; exact hsrc) (by omega) (by omega)
      (by rw [hby]; exact slicecap_le hbytes (by omega))
    have hgc := grownCap_ge w (len + m) cap e
    have hgm := grownCap_le_maxLen w (len + m) cap e (by simp [maxLen]; omega)
    generalize hcc : grownCap w (len + m) cap e = cc at *
    refine o_val (run_builtin (s := Builtin.append_ #[t, tx] ty #[.slice (hd a) len cap, v]) (vs := #[.slice (hd a) len cap, v]) hargs (fun _ => rfl) hrow) (h (some w.heap.size) cc _ ?_)
    have hL : (xs ++ news ++ (Builtin.zeroCells zv.cells (cc - (len + m))).toList).length = cc * sz := by
      simp only [List.length_append, Array.length_toList, size_zeroCells, hzs, hxl, hsrc.newsLen]
      rw [← Nat.add_mul, ← Nat.add_mul]; congr 1; omega
    refine H.drew.turn hi (c' := .own (some w.heap.size) (len + m) cc (xs ++ news) e sz) ⟨by rw [List.length_append, hxl, hsrc.newsLen, Nat.add_mul], hgc, hgm, (Builtin.zeroCells zv.cells (cc - (len + m))).toList, ?_, hL⟩
      (fun b hb => .inr (by cases hb; exact Nat.le_refl _)) rfl rfl rfl (by simp) (fun b hb _ => heap_alloc_old' _ _ _ (by simp at hb ⊢; omega))
    have := heap_alloc_new' w.drew (.cells ((xs ++ news).toArray ++ Builtin.zeroCells zv.cells (cc - (len + m))) e)
    simp only [World.size_drew] at this
    rw [this]
    congr 2
    apply Array.ext'
    simp
end
end Go.Proofs.Ytncmcgcilijfkaa
namespace Go.Proofs.Ytncmcgcilijfkaa
open Go
section
variable {P : Program} {Q : Exit → Act → World → Prop} {n : Nat} {σ : Nat → Value} {w w0 : World} {K : Act → World → Prop}
  {ty : TypeId} {pos : String} {aft : Array Edge} {g : Option (Nat × Bool)} {d : Nat} {t yt : TypeId} {x y z : Operand} {S : List Nat} {L : List Ch}
theorem run_bsl {e : TypeId} {sz bytes len : Nat} {zs : List Value} {cells : Array Value} (hT : SlTy P t e sz bytes) (hz : zeroCells P e = some zs) (_hs : 0 < sz) (hlen : len * sz ≤ 16777216) (parts : Array (Nat × Value))
    (hf : Instr.fill (fun i => some (i * sz, sz)) ((Array.range (len * sz)).map (zs.toArray[· % zs.toArray.size]!)) parts.toList = some cells) :
    (Instr.buildSlice t len parts).run P w = .ok (.slice (some ⟨w.heap.size, 0, none⟩) len len) (w.alloc (.cells cells e)) := by
  obtain ⟨i, z0, hi, hz0, hsz, hby, hzs⟩ := hT.row
  have hzc : z0.cells = zs.toArray := by
    have : z0.cells.toList = zs := by simpa [zeroCells, hi, hz0] using hz
    apply Array.ext'; simpa using this
  have h1 : (sizeOf e).run P w = .ok sz w := run_sizeOf_sz (by simp [cellSz, hi, hsz]) w
  have h2 : (zeroValue e).run P w = .ok z0 w := by simp [zeroValue, typeInfo, hi, hz0]
  have hn : ¬ (len * sz > 2 ^ 24) := by omega
  have fin : ∀ zz : Array Value, Instr.fill (fun i => some (i * sz, sz)) ((Array.range (len * sz)).map (zz[· % zz.size]!)) parts.toList = some cells →
      (match Instr.fill (fun i => some (i * sz, sz)) ((Array.range (len * sz)).map (zz[· % zz.size]!)) parts.toList with
        | some cells => (do pure (.slice (some (← newRow e cells)) len len) : Sem Value)
        | _ => stuck "buildSlice: a part of the wrong size").run P w = .ok (.slice (some ⟨w.heap.size, 0, none⟩) len len) (w.alloc (.cells cells e)) := by
    intro zz hzz
    rw [hzz]
    simp [newRow]
  unfold Instr.buildSlice
  rw [Sem.run_bind, run_underlying hT.und]
  simp only [Result.andThen_ok]
  rw [Sem.run_bind, h1]
  simp only [Result.andThen_ok]
  rw [if_neg hn]
  by_cases h0 : len * sz = 0
  · have e1 : ∀ zz : Array Value, (Array.range (len * sz)).map (zz[· % zz.size]!) = #[] := fun zz => by
      rw [h0]; apply Array.ext'; simp
    rw [if_pos h0, Sem.run_bind, Sem.run_pure]
    simp only [Result.andThen_ok]
    exact fin #[] (by rw [e1, ← e1 zs.toArray]; exact hf)
  · rw [if_neg h0, Sem.run_bind, h2]
    simp only [Result.andThen_ok]
    rw [Sem.run_bind, Sem.run_pure]
    simp only [Result.andThen_ok]
    exact fin z0.cells (by rw [hzc]; exact hf)
/-- a slice literal. -/
theorem o_bsl {e : TypeId} {sz bytes len : Nat} {parts : Array (Nat × Operand)} {zs : List Value} {pv : List (Nat × Value)} {cells : Array Value} (H : Hp w0 w S L) (hT : SlTy P t e sz bytes) (hz : zeroCells P e = some zs) (hs : 0 < sz)
    (hp0 : pvs n σ parts.toList = pv) (hlen : len * sz ≤ 16777216)
    (hf : Instr.fill (fun i => some (i * sz, sz)) ((Array.range (len * sz)).map (zs.toArray[· % zs.toArray.size]!)) pv = some cells)
    (h : ∀ b w', Hp w0 w' S (L ++ [.blk b cells.toList e]) → w0.heap.size ≤ b → K (mk n (up σ d (.slice (some ⟨b, 0, none⟩) len len))) w') :
    Oper.wp P ⟨some d, .buildSlice t len parts, ty, pos, aft, g⟩ (mk n σ) w K Q := by
  have hp : (parts.map fun (i, x) => (i, ev n σ x)).toList = pv := by rw [← hp0, pvs_eq, Array.toList_map]
  refine o_val (v := .slice (some ⟨w.heap.size, 0, none⟩) len len) (w' := w.alloc (.cells cells e)) ?_ (h _ _ (by simpa using H.alloc cells.toList e) H.size)
  have hr := run_bsl (P := P) (w := w) hT hz hs hlen (parts.map fun (i, x) => (i, ev n σ x)) (by rw [hp]; exact hf)
  simp only [execOp, Sem.run_bind, hr, Result.andThen_ok]
  rfl
/-- how a type is built: its zero, and where its parts lie. -/
structure Bld (P : Program) (t : TypeId) (zs : Array Value) (places : Nat → Option (Nat × Nat)) : Prop where
  eq : ∀ parts, P.built t parts = Instr.fill places zs parts
theorem Bld.arr {t : TypeId} {len sz : Nat} {zs : List Value} (h1 : arrOf P t = some (len, sz)) (h2 : zeroCells P t = some zs) : Bld P t zs.toArray fun i => some (i * sz, sz) := by
  constructor
  intro parts
  unfold arrOf at h1
  cases hu : P.underlying t with
  | none => simp [hu] at h1
  | some ds =>
    cases ds <;> simp only [hu] at h1 <;> try (cases h1)
    rename_i l e
    cases hj : P.info? e with
    | none => simp [hj] at h1
    | some j =>
      simp only [hj, Option.map_some, Option.some.injEq, Prod.mk.injEq] at h1
      obtain ⟨rfl, rfl⟩ := h1
      unfold zeroCells at h2
      cases hi : P.info? t with
      | none => simp [hi] at h2
      | some i =>
        cases hz : i.zero with
        | none => simp [hi, hz] at h2
        | some z =>
          simp [hi, hz] at h2
          have : z.cells = zs.toArray := by apply Array.ext'; simpa using h2
          simp only [Program.built, hi, hu, hz, hj, this]
def placesOf (P : Program) (t : TypeId) : Option (Array (Nat × Nat)) :=
  match P.underlying t with
  | some (.struct fs) => (fs.toList.mapM fun f => (P.info? f.type).map fun i => (f.offset, i.size)).map (·.toArray)
  | _ => none
theorem Bld.str {t : TypeId} {pl : Array (Nat × Nat)} {zs : List Value} (h1 : placesOf P t = some pl) (h2 : zeroCells P t = some zs) : Bld P t zs.toArray fun i => pl[i]? := by
  constructor
  intro parts
  unfold placesOf at h1
  cases hu : P.underlying t with
  | none => simp [hu] at h1
  | some ds =>
    cases ds <;> simp only [hu] at h1 <;> try (cases h1)
    rename_i fs
    cases hm : fs.toList.mapM (fun f => (P.info? f.type).map fun i => (f.offset, i.size)) with
    | none => simp [hm] at h1
    | some places =>
      simp only [hm, Option.map_some, Option.some.injEq] at h1
      subst h1
      unfold zeroCells at h2
      cases hi : P.info? t with
      | none => simp [hi] at h2
      | some i =>
        cases hz : i.zero with
        | none => simp [hi, hz] at h2
        | some z =>
          simp [hi, hz] at h2
          have : z.cells = zs.toArray := by apply Array.ext'; simpa using h2
          simp only [Program.built, hi, hu, hz, hm, this]
def en : Nat → List Value → List (Nat × Value)
  | _, [] => []
  | i, v :: l => (i, v) :: en (i + 1) l
theorem fill_en_aux : ∀ (vs A : List Value) (B : List Value), (∀ v ∈ vs, v.oneCell' = true) → vs.length = B.length → Instr.fill (fun i => some (i * 1, 1)) (A ++ B).toArray (en A.length vs) = some (A ++ vs).toArray
  | [], A, B, _, hl => by
    have : B = [] := List.length_eq_zero_iff.1 (by simpa using hl.symm)
    subst this; simp [en, Instr.fill]
  | v :: vs, A, [], _, hl => by simp at hl
  | v :: vs, A, b :: B, h1, hl => by
    have hv := h1 v (by simp)
    have hc : v.cells = #[v] := by cases v <;> simp_all [Value.cells, Value.oneCell']
    have ih := fill_en_aux vs (A ++ [v]) B (fun u hu => h1 u (by simp [hu])) (by simpa using hl)
    simp only [List.length_append, List.length_singleton, List.append_assoc, List.singleton_append] at ih
    simp only [en, Instr.fill, hc, Nat.mul_one]
    rw [if_neg (by simp)]
    have e : (#[v] : Array Value).zipIdx = #[(v, 0)] := by simp [Array.zipIdx]
    rw [← ih]
    congr 1
    · funext i; rw [Nat.mul_one]
    · rw [e]
      apply Array.ext'
      simp []
theorem fill_en {zs : List Value} (vs : List Value) (h1 : vs.toArray.all (·.oneCell') = true) (hl : vs.length = zs.length) : Instr.fill (fun i => some (i * 1, 1)) zs.toArray (en 0 vs) = some vs.toArray := by
  have := fill_en_aux vs [] zs (by rw [List.all_toArray] at h1; simpa using h1) hl
  simpa using this
theorem eqItems_u8 {e : TypeId} (he : P.underlying e = some (.int .u8)) (dd : Nat) (a b : List UInt8) (hab : a.length = b.length) (w : World) :
    ∀ is : List Nat, (∀ i ∈ is, i < a.length) → (Op.eqItems (dd + 1) e 1 (a.map V8).toArray (b.map V8).toArray is).run P w = .ok (is.all fun i => a[i]? == b[i]?) w := by
  intro is
  induction is with
  | nil => intro _; simp [Op.eqItems]
  | cons i is ih =>
    intro h
    have hi := h i (by simp)
    have hca : (part e (a.map V8).toArray (i * 1)).run P w = .ok (V8 (a[i]'hi)) w := by
      have hct : cellTy P e = true := by simp [cellTy, he]
      simp [part, run_isAgg_cell hct, hi]
    have hcb : (part e (b.map V8).toArray (i * 1)).run P w = .ok (V8 (b[i]'(by omega))) w := by
      have hct : cellTy P e = true := by simp [cellTy, he]
      simp [part, run_isAgg_cell hct, show i < b.length by omega]
    have heq : (Op.equalIn (dd + 1) e (V8 (a[i]'hi)) (V8 (b[i]'(by omega)))).run P w = .ok (a[i]'hi == b[i]'(by omega)) w := by
      simp only [Op.equalIn, Sem.run_bind, run_underlying he, Result.andThen_ok]
      simp
      rw [Bool.eq_iff_iff]; simp only [beq_iff_eq]
      rw [← UInt8.toNat_inj]; omega
    have h2 := ih (fun j hj => h j (by simp [hj]))
    simp only [Op.eqItems, Sem.run_bind, hca, hcb, heq, Result.andThen_ok]
    rw [List.all_cons, List.getElem?_eq_getElem hi, List.getElem?_eq_getElem (by omega : i < b.length)]
    by_cases hh : a[i]'hi = b[i]'(by omega)
    · simp [hh, h2]
    · simp [hh]
theorem run_equal_u8s {t e : TypeId} {m : Nat} (hu : P.underlying t = some (.array m e)) (he : P.underlying e = some (.int .u8)) (hc : cellSz P e = some 1) (a b : List UInt8) (ha : a.length = m) (hb : b.length = m) (w : World) :
    (Op.equal t (.agg (a.map V8).toArray) (.agg (b.map V8).toArray)).run P w = .ok (decide (a = b)) w := by
  cases hi : P.info? e with
  | none => simp [cellSz, hi] at hc
  | some i =>
    have hco : P.cellsOf e = 1 := by simpa [cellSz, hi, Program.cellsOf] using hc
    unfold Op.equal Op.maxDepth
    rw [run_equalIn_array w 9999 _ _ hu hi, hco, eqItems_u8 he 9998 a b (by omega) w _ (by simp [ha])]
    congr 1
    rw [Bool.eq_iff_iff]
    simp only [List.all_eq_true, List.mem_range, beq_iff_eq, decide_eq_true_eq]
    constructor
    · intro h
      apply List.ext_getElem?
      intro j
      by_cases hj : j < m
      · exact h j hj
      · rw [List.getElem?_eq_none (by omega), List.getElem?_eq_none (by omega)]
    · rintro rfl j _; rfl
theorem eqGuardType_u8s {t e : TypeId} {m : Nat} (hu : P.underlying t = some (.array m e)) (he : P.underlying e = some (.int .u8)) (dd : Nat) : P.eqGuardType (dd + 2) t = false := by
  simp [Program.eqGuardType, hu, he]
theorem run_eqGuard_u8s {t e : TypeId} {m : Nat} {op : BinOp} (hu : P.underlying t = some (.array m e)) (he : P.underlying e = some (.int .u8)) (x y : Operand) (a b : Array Value) (w : World) :
    (eqGuard op t x y (.agg a) (.agg b)).run P w = .ok () w := by
  have h1 : P.eqGuardType P.depth t = false := by
    unfold Program.depth
    exact eqGuardType_u8s hu he _
  cases op <;> simp [eqGuard, h1]
theorem wp_held {id : Nat} {l : List Oper} {a : Act} (S' : World → Prop) (hm : P.follows .mixedOrders = true)
    (h : wpAnyH P .any l.toArray Q S' l.length (Array.replicate l.length false) a w.drew) : (Code.region id l.toArray true).wp P Q a w :=
  wp_region_held hm (by simpa using h)
end
end Go.Proofs.Ytncmcgcilijfkaa
namespace Go.Proofs.Ytncmcgcilijfkaa
open Go
section
variable {P : Program} {Q : Exit → Act → World → Prop} {n : Nat} {σ : Nat → Value} {w w0 : World} {K : Act → World → Prop}
  {ty : TypeId} {pos : String} {aft : Array Edge} {g : Option (Nat × Bool)} {d : Nat} {t yt : TypeId} {x y z : Operand} {S : List Nat} {L : List Ch} {op : BinOp}
theorem r_mv {x : Operand}  :
    (execOp (ev n σ) ⟨some d, .move x, ty, pos, aft, g⟩).run P w = .ok (.value ((ev n σ x))) w :=
  (by simp [execOp])
theorem r_as {x : Operand}  :
    (execOp (ev n σ) ⟨some d, .assign x, ty, pos, aft, g⟩).run P w = .ok (.value ((ev n σ x))) w :=
  (by simp [execOp])
theorem r_pick {c x y : Operand} {b : Bool} (hc : ev n σ c = .bool b)  :
    (execOp (ev n σ) ⟨some d, .pick c x y, ty, pos, aft, g⟩).run P w = .ok (.value ((bif b then ev n σ x else ev n σ y))) w :=
  (by cases b <;> simp [execOp, hc, asBool])
theorem r_ext {x : Operand} {i : Nat} {vs : Array Value} {v : Value} (hx : ev n σ x = .tuple vs) (hv : vs[i]? = some v)  :
    (execOp (ev n σ) ⟨some d, .extract x i, ty, pos, aft, g⟩).run P w = .ok (.value (v)) w :=
  (by simp [execOp, hx, Instr.extract, hv])
theorem r_nilc {x : Operand} {a : Addr} (hx : ev n σ x = .pointer (some a))  :
    (execOp (ev n σ) ⟨some d, .nilCheck x, ty, pos, aft, g⟩).run P w = .ok (.value ((.pointer (some a)))) w :=
  (by simp [execOp, hx])
theorem r_not {x : Operand} {b : Bool} {t : TypeId} (hx : ev n σ x = .bool b)  :
    (execOp (ev n σ) ⟨some d, .unOp .not t x, ty, pos, aft, g⟩).run P w = .ok (.value ((.bool (!b)))) w :=
  (by simp [execOp, hx, Op.unary])
theorem r_bin {k : IntKind} {a b : Int} {v : Value} (hx : ev n σ x = .int k a) (hy : ev n σ y = .int k b)
    (hr : ∀ w : World, (binOp op t (.int k a) (.int k b)).run P w = .ok v w)  :
    (execOp (ev n σ) ⟨some d, .binOp op t x y yt, ty, pos, aft, g⟩).run P w = .ok (.value (v)) w :=
  (by
    have he : (eqGuard op t x y (.int k a) (.int k b)).run P w = .ok () w := by
      unfold eqGuard
      cases op <;> simp
    simp [execOp, hx, hy, he, hr])
theorem r_beq {a b : Bool} (hu : P.underlying t = some .bool) (hx : ev n σ x = .bool a) (hy : ev n σ y = .bool b)  :
    (execOp (ev n σ) ⟨some d, .binOp .eql t x y yt, ty, pos, aft, g⟩).run P w = .ok (.value ((.bool (a == b)))) w :=
  (by
    have e1 : (Op.equal t (.bool a) (.bool b)).run P w = .ok (a == b) w := run_equal_bool hu a b w
    have e2 : binOp .eql t (.bool a) (.bool b) = (do pure (.bool (← Op.equal t (.bool a) (.bool b)))) := rfl
    simp [execOp, hx, hy, eqGuard, e2, e1])
theorem r_bne {a b : Bool} (hu : P.underlying t = some .bool) (hx : ev n σ x = .bool a) (hy : ev n σ y = .bool b)  :
    (execOp (ev n σ) ⟨some d, .binOp .neq t x y yt, ty, pos, aft, g⟩).run P w = .ok (.value ((.bool (!(a == b))))) w :=
  (by
    have e1 : (Op.equal t (.bool a) (.bool b)).run P w = .ok (a == b) w := run_equal_bool hu a b w
    have e2 : binOp .neq t (.bool a) (.bool b) = (do pure (.bool (!(← Op.equal t (.bool a) (.bool b))))) := rfl
    simp [execOp, hx, hy, eqGuard, e2, e1])
theorem r_str {a b : ByteArray} {v : Value} (hx : ev n σ x = .string a) (hy : ev n σ y = .string b)
    (hr : ∀ w : World, (Op.stringOp op a b).run P w = .ok v w) (ho : op ≠ .shl ∧ op ≠ .shr)  :
    (execOp (ev n σ) ⟨some d, .binOp op t x y yt, ty, pos, aft, g⟩).run P w = .ok (.value (v)) w :=
  (by
    have he : (eqGuard op t x y (.string a) (.string b)).run P w = .ok () w := by
      unfold eqGuard
      cases op <;> simp
    cases op <;> simp_all [execOp, binOp])
theorem r_fa {b o i k : Nat} (hx : ev n σ x = .pointer (some ⟨b, o, none⟩)) (hf : fieldOff P t i = some k)  :
    (execOp (ev n σ) ⟨some d, .fieldAddr t x i, ty, pos, aft, g⟩).run P w = .ok (.value ((.pointer (some ⟨b, o + k, none⟩)))) w := by
  unfold fieldOff at hf
  cases hu : P.underlying t with
  | none => simp [hu] at hf
  | some ds =>
    cases ds <;> simp only [hu] at hf <;> try (cases hf)
    rename_i fs
    cases hfs : fs[i]? with
    | none => simp [hfs] at hf
    | some f =>
      cases hj : P.info? f.type with
      | none => simp [hfs, hj] at hf
      | some j =>
        simp only [hfs, hj, Option.bind_some] at hf
        split at hf
        · cases hf
        · cases hf
          rename_i hsz
          simp [execOp, hx, Instr.fieldAt, run_underlying hu, hfs, Instr.sureAddr, fieldPlace, sizeOf, typeInfo, hj, hsz, Addr.add_mid]
theorem r_ld {b o i : Nat} {C : List Value} {T : TypeId} {v : Value} (H : Hp w0 w S L) (hi : L[i]? = some (.blk b C T)) (hx : ev n σ x = .pointer (some ⟨b, o, none⟩)) (ht : cellTy P t = true) (hv : C[o]? = some v)  :
    (execOp (ev n σ) ⟨some d, .load t x, ty, pos, aft, g⟩).run P w = .ok (.value (v)) w :=
  (by
    have hc : w.cell? ⟨b, o, none⟩ = some v := by simp [World.cell?, H.blk hi, hv]
    simp [execOp, hx, run_loadAt_cell ht hc])
theorem r_ldr {b o i k : Nat} {C : List Value} {T : TypeId} (H : Hp w0 w S L) (hi : L[i]? = some (.blk b C T)) (hx : ev n σ x = .pointer (some ⟨b, o, none⟩)) (ht : rowTy P t = some k) (hk : o + k ≤ C.length)  :
    (execOp (ev n σ) ⟨some d, .load t x, ty, pos, aft, g⟩).run P w = .ok (.value ((.agg ((C.drop o).take k).toArray))) w :=
  (by simp [execOp, hx, run_loadAt_row (H.blk hi) ht hk])
theorem r_lds {b o i : Nat} {a : Option Addr} {vs : List Value} {v : Value} (hr : RdS w a vs) (ha : a = some ⟨b, o, none⟩) (hx : ev n σ x = .pointer (some ⟨b, o + i, none⟩)) (ht : cellTy P t = true) (hv : vs[i]? = some v)  :
    (execOp (ev n σ) ⟨some d, .load t x, ty, pos, aft, g⟩).run P w = .ok (.value (v)) w :=
  (by
    obtain ⟨b', o', ha', hc⟩ := hr.cell hv
    rw [ha] at ha'; cases ha'
    simp [execOp, hx, run_loadAt_cell ht hc])
theorem r_ldsr {b o i k : Nat} {a : Option Addr} {vs : List Value} (hr : RdS w a vs) (ha : a = some ⟨b, o, none⟩) (hx : ev n σ x = .pointer (some ⟨b, o + i, none⟩)) (ht : rowTy P t = some k) (hk0 : 0 < k) (hk : i + k ≤ vs.length)  :
    (execOp (ev n σ) ⟨some d, .load t x, ty, pos, aft, g⟩).run P w = .ok (.value ((.agg ((vs.drop i).take k).toArray))) w := by
  rcases hr with rfl | ⟨b', o', C, T, fr, ha', hb, hc⟩
  · simp at hk; omega
  · rw [ha] at ha'; cases ha'
    have hlen : o + vs.length ≤ C.size := by
      have := hc (vs.length - 1) (vs[vs.length - 1]'(by omega)) (List.getElem?_eq_getElem (by omega))
      have := (Array.getElem?_eq_some_iff.1 this).1
      omega
    have e := run_loadAt_row (P := P) (t := t) (k := k) (b := b) (o := o + i) (C := C.toList) (T := T) (fr := fr) (w := w) (by simpa using hb) ht (by simp; omega)
    have e2 : (C.toList.drop (o + i)).take k = (vs.drop i).take k := by
      apply List.ext_getElem?
      intro j
      by_cases hj : j < k
      · rw [List.getElem?_take_of_lt hj, List.getElem?_take_of_lt hj, List.getElem?_drop, List.getElem?_drop, List.getElem?_eq_getElem (l := vs) (by omega)]
        have := hc (i + j) _ (List.getElem?_eq_getElem (by omega))
        simpa [Nat.add_assoc] using this
      · simp [List.getElem?_take, hj]
    rw [e2] at e
    simp [execOp, hx, e]
theorem r_sl {lo hi mx : Option Operand} {a : Option Addr} {len cap sz l h m : Nat} {lv hv mv : Option Value} (hx : ev n σ x = .slice a len cap) (ht : eltOf P t = some sz)
    (hl : lo.map (ev n σ) = lv) (hh : hi.map (ev n σ) = hv) (hm : mx.map (ev n σ) = mv) (hb : ∀ w, (Instr.sliceBounds true len cap lv hv mv).run P w = .ok (l, h, m) w)  :
    (execOp (ev n σ) ⟨some d, .slice t x lo hi mx, ty, pos, aft, g⟩).run P w = .ok (.value ((.slice (sa a l m sz) (h - l) (m - l)))) w := by
  unfold eltOf at ht
  cases hu : P.underlying t with
  | none => simp [hu] at ht
  | some ds =>
    cases ds <;> simp only [hu] at ht <;> try (cases ht)
    rename_i e
    cases hj : P.info? e with
    | none => simp [hj] at ht
    | some j =>
      simp only [hj, Option.map_some, Option.some.injEq] at ht
      subst ht
      simp [execOp, hx, hl, hh, hm, Instr.sliceAt, Instr.slice, run_underlying hu, hb, sizeOf, typeInfo, hj, sa]
theorem r_lens {a : Option Addr} {len cap : Nat} {sz : Nat} (ht : eltOf P t = some sz) (hx : ev n σ x = .slice a len cap)  :
    (execOp (ev n σ) ⟨some d, .call ⟨.builtin .len, #[x], #[t]⟩, ty, pos, aft, g⟩).run P w = .ok (.value ((VI len))) w :=
  (run_builtin (s := Builtin.len_ #[t] ty #[.slice a len cap]) (vs := #[.slice a len cap]) (by simp [hx]) (fun _ => rfl) (by
    unfold eltOf at ht
    cases hu : P.underlying t with
    | none => simp [hu] at ht
    | some ds =>
      cases ds <;> simp only [hu] at ht <;> try (cases ht)
      simp [Builtin.len_, run_underlying hu, goInt]))
theorem r_lenstr {s : ByteArray} (hu : P.underlying t = some .string) (hx : ev n σ x = .string s)  :
    (execOp (ev n σ) ⟨some d, .call ⟨.builtin .len, #[x], #[t]⟩, ty, pos, aft, g⟩).run P w = .ok (.value ((VI s.size))) w :=
  (run_builtin (s := Builtin.len_ #[t] ty #[.string s]) (vs := #[.string s]) (by simp [hx]) (fun _ => rfl) (by
      simp [Builtin.len_, run_underlying hu, goInt]))
theorem r_max {k : IntKind} {a b : Int} {ats : Array TypeId} (hx : ev n σ x = .int k a) (hy : ev n σ y = .int k b)  :
    (execOp (ev n σ) ⟨some d, .call ⟨.builtin .max, #[x, y], ats⟩, ty, pos, aft, g⟩).run P w = .ok (.value ((.int k (if a < b then b else a)))) w :=
  (run_builtin (s := Builtin.max_ ats ty #[.int k a, .int k b]) (vs := #[.int k a, .int k b]) (by simp [hx, hy]) (fun _ => rfl) run_max_int2')
theorem r_fld {i : Nat} {cs : Array Value} {v : Value} {fs : Array Field} {f : Field} (hu : P.underlying t = some (.struct fs)) (hf : fs[i]? = some f) (hc : cellTy P f.type = true) (hx : ev n σ x = .agg cs) (hv : cs[f.offset]? = some v)  :
    (execOp (ev n σ) ⟨some d, .field t x i, ty, pos, aft, g⟩).run P w = .ok (.value (v)) w :=
  (by simp [execOp, hx, Instr.field, run_underlying hu, hf, asAgg, part, run_isAgg_cell hc, hv])
theorem r_eqa {e : TypeId} {m : Nat} {a b : List UInt8} (hu : P.underlying t = some (.array m e)) (he : P.underlying e = some (.int .u8)) (hc : cellSz P e = some 1) (hx : ev n σ x = .agg (a.map V8).toArray) (hy : ev n σ y = .agg (b.map V8).toArray) (ha : a.length = m) (hb : b.length = m)  :
    (execOp (ev n σ) ⟨some d, .binOp .eql t x y yt, ty, pos, aft, g⟩).run P w = .ok (.value ((.bool (decide (a = b))))) w :=
  (by
    have e2 : binOp .eql t (.agg (a.map V8).toArray) (.agg (b.map V8).toArray) = (do pure (.bool (← Op.equal t (.agg (a.map V8).toArray) (.agg (b.map V8).toArray)))) := rfl
    simp only [execOp, hx, hy, Sem.run_bind, run_eqGuard_u8s hu he, Result.andThen_ok, e2, run_equal_u8s hu he hc a b ha hb]
    simp)
theorem r_is {a : Option Addr} {b o len cap sz : Nat} {k : IntKind} {i : Int} (hx : ev n σ x = .slice a len cap) (hy : ev n σ y = .int k i) (ha : eltOf P t = some sz) (hb : a = some ⟨b, o, none⟩) (h0 : 0 ≤ i) (h1 : i < len) :
    (execOp (ev n σ) ⟨some d, .indexAddr t x y, ty, pos, aft, g⟩).run P w = .ok (.value (.pointer (some ⟨b, o + i.toNat * sz, none⟩))) w := by
  subst hb
  unfold eltOf at ha
  cases hu : P.underlying t with
  | none => simp [hu] at ha
  | some ds =>
    cases ds <;> simp only [hu] at ha <;> try (cases ha)
    rename_i e
    cases hj : P.info? e with
    | none => simp [hj] at ha
    | some j =>
      simp only [hj, Option.map_some, Option.some.injEq] at ha
      subst ha
      simp [execOp, hx, hy, Instr.indexAt, run_underlying hu, asIntOf, h0, h1, sizeOf, typeInfo, hj, Addr.add_mid]
variable {ops : Array Oper} {S' : World → Prop} {fuel : Nat} {listed : Array Bool} {dst : Option Tmp} {oo : Op}
/-- operation i only looks, and may be taken first. -/
theorem t_take (i : Nat) {v : Value} (hi : ops[i]? = some ⟨some d, oo, ty, pos, aft, none⟩) (hs : Region.noSelect ops = true) (hf : Region.free .any ops listed i = true) (hr : (Region.ready .any ops listed).contains i = true)
    (hQ : ∀ c a w, Q (.panic c) (a.put (some d) v) w → Q (.panic c) a w)
    (hy : ∀ w, S' w → (execOp (ev n σ) ⟨some d, oo, ty, pos, aft, none⟩).run P w = .ok (.value v) w) (hS : S' w)
    (h : wpAnyH P .any ops Q S' fuel (listed.setIfInBounds i true) (mk n (up σ d v)) w) : wpAnyH P .any ops Q S' (fuel + 1) listed (mk n σ) w :=
  wpAnyH_take (v := v) hi hs hf hr hQ (.inl ⟨rfl, fun w hw => by rw [mk_evalf]; exact hy w hw⟩) hS (by show wpAnyH P .any ops Q S' fuel _ ((mk n σ).put (some d) v) w; rw [mk_put]; exact h)
/-- .. guarded, and wanted. -/
theorem t_takeg (i : Nat) {v : Value} {j : Nat} {b : Bool} (hi : ops[i]? = some ⟨some d, oo, ty, pos, aft, some (j, b)⟩) (hs : Region.noSelect ops = true) (hf : Region.free .any ops listed i = true) (hr : (Region.ready .any ops listed).contains i = true)
    (hQ : ∀ c a w, Q (.panic c) (a.put (some d) v) w → Q (.panic c) a w) (hg : yielded ops (mk n σ).tmps j = some b)
    (hy : ∀ w, S' w → (execOp (ev n σ) ⟨some d, oo, ty, pos, aft, some (j, b)⟩).run P w = .ok (.value v) w) (hS : S' w)
    (h : wpAnyH P .any ops Q S' fuel (listed.setIfInBounds i true) (mk n (up σ d v)) w) : wpAnyH P .any ops Q S' (fuel + 1) listed (mk n σ) w :=
  wpAnyH_take (v := v) hi hs hf hr hQ (.inl ⟨by simp [Region.wanted, hg], fun w hw => by rw [mk_evalf]; exact hy w hw⟩) hS (by show wpAnyH P .any ops Q S' fuel _ ((mk n σ).put (some d) v) w; rw [mk_put]; exact h)
/-- the one operation that may come up is carried out. -/
theorem t_step (i : Nat) {a : Act} (hi : ops[i]? = some ⟨dst, oo, ty, pos, aft, none⟩) (hr : Region.ready .any ops listed = [i])
    (h : Oper.wp P ⟨dst, oo, ty, pos, aft, none⟩ a w (fun a' w' => S' w' ∧ wpAnyH P .any ops Q S' fuel (listed.setIfInBounds i true) a' w') Q) : wpAnyH P .any ops Q S' (fuel + 1) listed a w :=
  wpAnyH_all hr (by simp) (by
    simp only [List.mem_singleton, forall_eq]
    unfold wpOp
    simp only [hi]
    rw [if_pos (by simp [Region.wanted])]
    exact .inl h)
theorem t_stepg (i : Nat) {a : Act} {j : Nat} {b : Bool} (hi : ops[i]? = some ⟨dst, oo, ty, pos, aft, some (j, b)⟩) (hr : Region.ready .any ops listed = [i]) (hg : yielded ops a.tmps j = some b)
    (h : Oper.wp P ⟨dst, oo, ty, pos, aft, some (j, b)⟩ a w (fun a' w' => S' w' ∧ wpAnyH P .any ops Q S' fuel (listed.setIfInBounds i true) a' w') Q) : wpAnyH P .any ops Q S' (fuel + 1) listed a w :=
  wpAnyH_all hr (by simp) (by
    simp only [List.mem_singleton, forall_eq]
    unfold wpOp
    simp only [hi]
    rw [if_pos (by simp [Region.wanted, hg])]
    exact .inl h)
theorem t_done {a : Act} (hr : Region.ready .any ops listed = []) (h : Q .normal a w) : wpAnyH P .any ops Q S' fuel listed a w := wpAnyH_done hr h fuel
/-- whichever of the ready ones comes up. -/
theorem t_all {a : Act} (rs : List Nat) (hr : Region.ready .any ops listed = rs) (hne : rs ≠ [])
    (h : ∀ i ∈ rs, wpOp P ops Q i (fun a' w' => S' w' ∧ wpAnyH P .any ops Q S' fuel (listed.setIfInBounds i true) a' w') a w) : wpAnyH P .any ops Q S' (fuel + 1) listed a w := wpAnyH_all hr hne h
theorem all_nil {p : Nat → Prop} : ∀ i ∈ ([] : List Nat), p i := fun _ h => by cases h
theorem all_cons {p : Nat → Prop} {i : Nat} {l : List Nat} (h1 : p i) (h2 : ∀ i ∈ l, p i) : ∀ j ∈ i :: l, p j := fun j hj => by
  rcases List.mem_cons.1 hj with rfl | h
  · exact h1
  · exact h2 j h
theorem w_op (i : Nat) {a : Act} (hi : ops[i]? = some ⟨dst, oo, ty, pos, aft, none⟩) (h : Oper.wp P ⟨dst, oo, ty, pos, aft, none⟩ a w K Q) : wpOp P ops Q i K a w := by
  unfold wpOp
  simp only [hi]
  rw [if_pos (by simp [Region.wanted])]
  exact .inl h
theorem Hp.perm {L' : List Ch} (h : Hp w0 w S L) (hp : L.Perm L') : Hp w0 w S L' :=
  ⟨h.os, h.tape, h.output, h.size, h.frame, fun c hc => h.has c (hp.mem_iff.2 hc), fun c hc => h.fresh c (hp.mem_iff.2 hc),
    (hp.pairwise_iff (fun {_x _y} hxy b hb hx => hxy b hx hb)).1 h.nd⟩
theorem c_still {id : Nat} {a : Act} {l : List Oper} (hm : P.follows .mixedOrders = true) (hB : Region.lexB .any l.toArray = true)
    (h : wpStill P l.toArray w.drew (fun a' => Q .normal a' w.drew) l a) : (Code.region id l.toArray true).wp P Q a w := wp_region_still_lit hm hB h
variable {Qs : Act → Prop} {rest : List Oper}
theorem s_op {v : Value} (hy : (execOp (ev n σ) ⟨some d, oo, ty, pos, aft, none⟩).run P w = .ok (.value v) w) (h : wpStill P ops w Qs rest (mk n (up σ d v))) :
    wpStill P ops w Qs (⟨some d, oo, ty, pos, aft, none⟩ :: rest) (mk n σ) := by
  unfold wpStill
  rw [if_pos (by simp [Region.wanted])]
  unfold Oper.still
  rw [mk_evalf, hy]
  exact ⟨rfl, by show wpStill P ops w Qs rest ((mk n σ).put (some d) v); rw [mk_put]; exact h⟩
theorem s_yes {v : Value} {j e : Nat} {b : Bool} (he : (ops[j]?).bind (·.dst) = some e) (hb : Nat.blt e n = true) (hv : σ e = .bool b)
    (hy : (execOp (ev n σ) ⟨some d, oo, ty, pos, aft, some (j, b)⟩).run P w = .ok (.value v) w) (h : wpStill P ops w Qs rest (mk n (up σ d v))) :
    wpStill P ops w Qs (⟨some d, oo, ty, pos, aft, some (j, b)⟩ :: rest) (mk n σ) := by
  unfold wpStill
  rw [if_pos (by simp [Region.wanted, yielded_mk ops j e he b hb hv])]
  unfold Oper.still
  rw [mk_evalf, hy]
  exact ⟨rfl, by show wpStill P ops w Qs rest ((mk n σ).put (some d) v); rw [mk_put]; exact h⟩
theorem s_no {j e : Nat} {b c : Bool} (he : (ops[j]?).bind (·.dst) = some e) (hb : Nat.blt e n = true) (hv : σ e = .bool c) (hc : (c == b) = false)
    (h : wpStill P ops w Qs rest (mk n (up σ d undef))) : wpStill P ops w Qs (⟨some d, oo, ty, pos, aft, some (j, b)⟩ :: rest) (mk n σ) := by
  unfold wpStill
  rw [if_neg (by simp [Region.wanted, yielded_mk ops j e he c hb hv]; intro h'; subst h'; simp at hc), mk_put]
  exact h
theorem s_nil {a : Act} (h : Qs a) : wpStill P ops w Qs [] a := h
/-- what a call hands back, always by returning. -/
def Ret (P : Program) (f : FuncId) (vs : List Value) (w : World) (R : Value → World → Prop) : Prop := Calls P f vs.toArray w fun e w' => ∃ v, e = .returned v ∧ R v w'
theorem Ret.mono {f : FuncId} {vs : List Value} {R R' : Value → World → Prop} (h : Ret P f vs w R) (hr : ∀ v w', R v w' → R' v w') : Ret P f vs w R' :=
  Calls.mono h fun e w' ⟨v, he, hv⟩ => ⟨v, he, hr v w' hv⟩
theorem o_callR {f : FuncId} {fn : Func} {args : Array Operand} {ats : Array TypeId} {vs : List Value} {R : Value → World → Prop} (hf : P.funcs[f]? = some fn) (hb : fn.body.isSome = true) (hname : (fn.name == "runtime.NumGoroutine") = false)
    (ha : evs n σ args.toList = vs) (hc : Ret P f vs w R) (h : ∀ v w', R v w' → K (mk n (up σ d v)) w') :
    Oper.wp P ⟨some d, .call ⟨.value (.func f), args, ats⟩, ty, pos, aft, g⟩ (mk n σ) w K Q :=
  o_call hf hb hname (vs := vs.toArray) (by apply Array.ext'; rw [← ha, evs_eq]; simp) (Calls.mono hc fun e w' ⟨v, he, hv⟩ => by subst he; exact h v w' hv)
theorem ret_mk {f : FuncId} {fn : Func} {c : Code} {args : List Value} {R : Value → World → Prop} {n : Nat}
    (hf : P.funcs[f]? = some fn) (hb : fn.body = some c) (hn : fn.ntmps = n) (hle : args.length ≤ n)
    (h : c.wp P (bodyPost P fn fun e w' => ∃ v, e = .returned v ∧ R v w') (mk n (fun t => args.getD t undef)) w) : Ret P f args w R :=
  calls_mk hf hb hn hle h
end
end Go.Proofs.Ytncmcgcilijfkaa
namespace Go.Proofs.Ytncmcgcilijfkaa
open Go
section
variable {P : Program} {Q : Exit → Act → World → Prop} {n : Nat} {σ : Nat → Value} {w : World} {K : Act → World → Prop}
  {ty : TypeId} {pos : String} {aft : Array Edge} {g : Option (Nat × Bool)} {d : Nat} {t yt : TypeId} {x y : Operand}
theorem b_lssB {k : IntKind} {a b : Int} (v : Bool) (h : decide (a < b) = v) : (binOp .lss t (.int k a) (.int k b)).run P w = .ok (.bool v) w := by rw [← h]; exact b_lss
theorem b_gtrB {k : IntKind} {a b : Int} (v : Bool) (h : decide (b < a) = v) : (binOp .gtr t (.int k a) (.int k b)).run P w = .ok (.bool v) w := by rw [← h]; exact b_gtr
theorem b_eqlB {k : IntKind} {a b : Int} (v : Bool) (h : decide (a = b) = v) : (binOp .eql t (.int k a) (.int k b)).run P w = .ok (.bool v) w := by rw [← h]; exact b_eql
theorem b_neqB {k : IntKind} {a b : Int} (v : Bool) (h : decide (a ≠ b) = v) : (binOp .neq t (.int k a) (.int k b)).run P w = .ok (.bool v) w := by rw [← h]; exact b_neq
end
end Go.Proofs.Ytncmcgcilijfkaa
namespace Go.Proofs.Ytncmcgcilijfkaa
open Go
set_option maxRecDepth 100000
section
variable {P : Program} {Q : Exit → Act → World → Prop} {n : Nat} {σ : Nat → Value} {w w0 : World} {K : Act → World → Prop}
  {ty : TypeId} {pos : String} {aft : Array Edge} {g : Option (Nat × Bool)} {d : Nat} {t : TypeId} {x : Operand} {S : List Nat} {L : List Ch}
end
/-- a slice of bytes as a world has it. -/
structure Sl where
  a : Option Addr
  len : Nat
  cap : Nat
  l : List UInt8
def Sl.v (s : Sl) : Value := .slice s.a s.len s.cap
structure Sl.ok (s : Sl) (w : World) : Prop where
  rd : RdS w s.a (s.l.map V8)
  ln : s.l.length = s.len
  le : s.len ≤ s.cap
  mx : s.len ≤ 9223372036854775807
theorem Hp.rd' {w0 w : World} {S : List Nat} {L : List Ch} (h : Hp w0 w S L) {a : Option Addr} {vs : List Value} (hr : RdS w0 a vs) (hap : vs ≠ [] → Apart a S) : RdS w a vs := by
  by_cases hv : vs = []
  · exact .inl hv
  · exact h.rd hr (hap hv)
theorem Sl.ok.up {x : Sl} {w0 w : World} {S : List Nat} {L : List Ch} (hx : x.ok w0) (H : Hp w0 w S L) (hap : x.l ≠ [] → Apart x.a S) : x.ok w :=
  ⟨H.rd' hx.rd (fun h => hap (by simpa using h)), hx.ln, hx.le, hx.mx⟩
theorem Sl.ok.apart {x : Sl} {w0 : World} (hx : x.ok w0) {b : Nat} (hb : w0.heap.size ≤ b) : x.l ≠ [] → Apart x.a [b] := by
  intro hne y hy
  rcases hx.rd with h | ⟨b', o, C, T, fr, ha, hh, _⟩
  · exact absurd (by simpa using h) hne
  · rw [ha] at hy
    cases hy
    have := (Array.getElem?_eq_some_iff.1 hh).1
    simp only [List.mem_singleton]; omega
theorem fills (z : Value) (vs : List Value) (len : Nat) (h1 : ∀ v ∈ vs, v.oneCell' = true) (hl : vs.length = len) : Instr.fill (fun i => some (i * 1, 1)) ((Array.range (len * 1)).map (([z].toArray)[· % ([z].toArray).size]!)) (en 0 vs) = some vs.toArray := by
  have := fill_en (zs := ((Array.range (len * 1)).map (([z].toArray)[· % ([z].toArray).size]!)).toList) vs (by rw [List.all_toArray, List.all_eq_true]; exact h1) (by simp [hl])
  rwa [Array.toArray_toList] at this
theorem Hp.apart {w0 w : World} {S : List Nat} {L : List Ch} (H : Hp w0 w S L) {i j b b' o : Nat} {c c' : Ch} (hi : L[i]? = some c) (hj : L[j]? = some c') (hij : i ≠ j) (hk : c.key = some b) (hk' : c'.key = some b') : Apart (some ⟨b, o, none⟩) [b'] := by
  intro x hx
  cases hx
  simp only [List.mem_singleton]
  intro e
  have := pw_ne H.nd hi hj hij hk
  exact this (by rw [hk', e])
theorem b_remT {P : Program} {t : TypeId} {w : World} {a b : Int} (h2 : 0 < b) : (binOp .rem t (VI a) (VI b)).run P w = .ok (VI (a.tmod b)) w := by
  simp [binOp, Op.intDiv, Int.ne_of_gt h2]
theorem tmod_lt (a b : Int) (h : 0 < b) : -b < a.tmod b ∧ a.tmod b < b := by
  have h1 := Int.tmod_lt_of_pos a h
  have h2 := Int.lt_tmod_of_pos a h
  exact ⟨h2, h1⟩
theorem Hp.nilOwn {w0 w : World} {S : List Nat} {L : List Ch} (H : Hp w0 w S L) (T : TypeId) (sz : Nat) : Hp w0 w S (.own none 0 0 [] T sz :: L) :=
  ⟨H.os, H.tape, H.output, H.size, H.frame, fun c hc => by
    rcases List.mem_cons.1 hc with rfl | h
    · exact ⟨rfl, rfl, rfl⟩
    · exact H.has c h, fun c hc b hk => by
    rcases List.mem_cons.1 hc with rfl | h
    · cases hk
    · exact H.fresh c h b hk, List.pairwise_cons.2 ⟨fun _ _ _ h => (by cases h), H.nd⟩⟩
theorem Sl.ok.take {s : Sl} {w : World} (h : s.ok w) (n : Nat) (hn : n ≤ s.len) : (⟨s.a, n, s.cap, s.l.take n⟩ : Sl).ok w :=
  ⟨by have := h.rd.take n; rwa [← List.map_take] at this, by simp only [List.length_take]; have := h.ln; omega, Nat.le_trans hn h.le, Nat.le_trans hn h.mx⟩
theorem Sl.ok.drop {s : Sl} {w : World} (h : s.ok w) (n : Nat) (hn : n ≤ s.len) : (⟨sa s.a n s.cap 1, s.len - n, s.cap - n, s.l.drop n⟩ : Sl).ok w :=
  ⟨by have := h.rd.sa n s.cap 1 (by have := h.ln; have := h.le; simp; omega); rwa [Nat.mul_one, ← List.map_drop] at this, by simp only [List.length_drop]; have := h.ln; omega, by have := h.le; simp only; omega, by have := h.mx; simp only; omega⟩
end Go.Proofs.Ytncmcgcilijfkaa
namespace Go.Proofs.Ytncmcgcilijfkaa
open Go Go.ChangeShapes Go.WideShapes Go.ChangeAt Go.RowKit
theorem Try.own : ownKnob Try.prog.godebug = none := by kernel_rfl
theorem Try.laidOut : laidOutB Try.prog = true := by kernel_rfl
section
variable {H : Type} {enc : TypeId × Value → H} {P : Program}
theorem trodAll_stays (hl : laidOutB P = true) {W W' : World} (hb : Below W.heap.size W W') :
    ∀ {ts : List TypeId} {vs : List Value} {ds : List (DataW H)} {ps : List MemPlace}, (∀ t ∈ ts, P.readableRec t = true ∧ t < P.types.size) → DataW.TrodAll enc P W 0 (fun _ => true) true ts vs ds ps → (∀ x ∈ ps, x.block < W.heap.size) →
      DataW.TrodAll enc P W' 0 (fun b => decide (b < W.heap.size)) true ts vs ds ps
  | [], _, _, _, _, h, _ => by
    obtain ⟨rfl, rfl, rfl⟩ := trodAll_nil h
    exact trodAll_mk0
  | t :: ts, _, _, _, ht, h, hlt => by
    obtain ⟨v, vs, d, ds, p, q, rfl, rfl, rfl, h1, h2⟩ := trodAll_cons h
    exact ⟨p, q, Below.trod hl (ht t (by simp)).1 (ht t (by simp)).2 h1 hb (fun x hx => hlt x (by simp [hx])), trodAll_stays hl hb (fun u hu => ht u (by simp [hu])) h2 (fun x hx => hlt x (by simp [hx])), rfl⟩
theorem trod_bool (tb : TypeId) (hb : P.underlying tb = some .bool) (w : World) (b : Bool) (base : Nat) (sp : Nat → Bool) (held : Bool) : DataW.Trod enc P w base sp held tb (.bool b) (.lit (.bool b)) [] := ⟨1, by simp [DataW.trod, hb, Value.cells]⟩
/-- what a law leaves: true, and all as it was. -/
theorem post_law {f : Func} {s : ChangeSpec} {apart fresh handsOn : Bool} {W W' : World} {args : Array Value} {ds gs : List (DataW H)} {before : List MemPlace} {tb : TypeId} (hl : laidOutB P = true)
    (hts : ∀ t ∈ f.params.toList, P.readableRec t = true ∧ t < P.types.size) (hW : DataW.Whole enc P f.params.toList s.vars apart W args.toList ds gs before) (hH : Hp W W' [] []) (hv : s.vars = [])
    (hs : s.fn H ds = { results := [.lit (.bool true)], args := ds }) (hr : f.resultTypes = #[tb]) (hb : P.underlying tb = some .bool) : s.post enc P f apart fresh handsOn false W args (.bool true) W' := by
  have hlt := hW.lt
  have hW' := hW
  obtain ⟨p, q, hA, hV, rfl, _, _⟩ := hW
  rw [hv] at hV
  cases gs with
  | cons g gs => simp [DataW.TrodVars] at hV
  | nil =>
    have hq : q = [] := by simpa [DataW.TrodVars] using hV
    subst hq
    have hbel := hH.below
    have hs' : s.fn H (ds ++ []) = { results := [.lit (.bool true)], args := ds } := by rw [List.append_nil]; exact hs
    have hvl : (Value.bool true).resultList f.resultTypes.size = [.bool true] := by rw [hr]; rfl
    refine ⟨ds, [], p ++ [], [], p, [], hW', ?_, ?_, ?_, hbel.frame _, fun h => by cases h⟩
    · rw [hs', hvl, hr]
      exact trodAll_mk1 (trod_bool tb hb W' true _ _ _)
    · rw [hs']
      exact trodAll_stays hl hbel hts hA (fun x hx => hlt x (by simp [hx]))
    · rw [hs', hv]; rfl
theorem law_calls {f : FuncId} {fn : Func} {s : ChangeSpec} {apart fresh handsOn : Bool} {W : World} {args : Array Value} {ds gs : List (DataW H)} {before : List MemPlace} {tb : TypeId} (hl : laidOutB P = true)
    (hts : ∀ t ∈ fn.params.toList, P.readableRec t = true ∧ t < P.types.size) (hW : DataW.Whole enc P fn.params.toList s.vars apart W args.toList ds gs before) (hv : s.vars = [])
    (hs : s.fn H ds = { results := [.lit (.bool true)], args := ds }) (hr : fn.resultTypes = #[tb]) (hb : P.underlying tb = some .bool)
    (h : Ret P f args.toList W fun v w' => v = .bool true ∧ Hp W w' [] []) : Calls P f args W fun e W' => ∃ v, e = .returned v ∧ s.post enc P fn apart fresh handsOn false W args v W' := by
  have h' : Calls P f args W fun e w' => ∃ v, e = .returned v ∧ v = .bool true ∧ Hp W w' [] [] := by simpa [Ret] using h
  exact Calls.mono h' fun e w' ⟨v, he, hv', hH⟩ => ⟨v, he, by subst hv'; exact post_law hl hts hW hH hv hs hr hb⟩
end
/-- the facts on the types of a law's parameters. -/
def tyOk (P : Program) (ts : List TypeId) : Bool := ts.all fun t => P.readableRec t && decide (t < P.types.size)
theorem tyOk_all {ts : List TypeId} (h : tyOk Try.prog ts = true) : ∀ t ∈ ts, Try.prog.readableRec t = true ∧ t < Try.prog.types.size := by
  intro t ht
  have := List.all_eq_true.1 h t ht
  simpa using this
theorem cut_of (P : Program) (cs : List Char) (h : P.initOrder = String.ofList cs) (hb : ((behindMainWord (wordsSigns cs)).head? == some "cut".toList) = true) : ∃ rest, behindMainWord (wordsSigns P.initOrder.toList) = "cut".toList :: rest := by
  rw [h, String.toList_ofList]
  generalize behindMainWord (wordsSigns cs) = l at hb
  cases l with
  | nil => simp at hb
  | cons c r => exact ⟨r, by simpa using hb⟩
set_option maxRecDepth 100000 in
theorem Try.cut : ∃ rest, behindMainWord (wordsSigns Try.prog.initOrder.toList) = "cut".toList :: rest := by
  refine cut_of Try.prog _ rfl ?_
  kernel_rfl
theorem strip_cut (rest : List (List Char)) : stripLifts liftWords ("cut".toList :: rest) = ([], "cut".toList :: rest) := by
  kernel_rfl
theorem headLifts_cut {P : Program} {rest : List (List Char)} (h : behindMainWord (wordsSigns P.initOrder.toList) = "cut".toList :: rest) : P.headLifts = [] := by
  unfold Program.headLifts
  rw [h, strip_cut]
  simp
theorem lifts_cut {P : Program} {rest : List (List Char)} (h : behindMainWord (wordsSigns P.initOrder.toList) = "cut".toList :: rest) : P.liftsFinal = false := by
  unfold Program.liftsFinal
  rw [h, headLifts_cut h]
  simp
theorem make_cut {P : Program} {rest : List (List Char)} (h : behindMainWord (wordsSigns P.initOrder.toList) = "cut".toList :: rest) : P.make = some .cut := by
  unfold Program.make
  rw [h]
  simp
theorem enter_cut {P : Program} {rest : List (List Char)} (h : behindMainWord (wordsSigns P.initOrder.toList) = "cut".toList :: rest) (h1 : P.laysLater = false) (h2 : P.bearsReflect = false) (h3 : P.doorFits [] = true) : P.mayEnter = true := by
  unfold Program.mayEnter
  rw [h]
  simp only [strip_cut, h1, h2, h3]
  simp
theorem joined_of (P : Program) (f : FuncId) (fn : Func) (s : ChangeSpec) (c : OpenClaim) (h1 : laidOutB P = true) (h2 : mapsRowed P = true) (h3 : P.stops = []) (h4 : P.stopKnobs = []) (h5 : P.stopsHeard = true) (h6 : P.mayEnter = true) (h7: P.liftsFinal = false) (h8 : P.make = some .cut) (pk : Bool) (h9 : P.plainKeys = pk)
    (r : (c.wf (OpenSpec.ofChange s) && fn.params.all (P.readableRec ·) && namedTie P c.named s.vars &&
  (c.stops == []) && (c.knobs == []) && 
  (c.inPlace == P.inPlace f) && (c.unfollowed == P.unfollowed f) && (c.recurses == P.recurses f) && (c.named == P.varsNamed f)) = true)
    (r2 : ((c.maps == (fn.params.toList ++ s.plain.varTypes P).any (P.mapsRec ·)) && (c.ifaces == (fn.params.toList ++ s.plain.varTypes P).any (P.ifacesRec ·)) && (c.mapsOut == P.mapsAmong fn.resultTypes.toList) &&
  (c.loops == (fn.params.toList ++ s.plain.varTypes P).any (P.loopsFrom ·)) && (c.wideKeys == (fn.params.toList ++ s.plain.varTypes P ++ fn.resultTypes.toList).any (P.wideKeysFrom ·)) &&
  s.vars.all (P.varReadable ·) && fn.resultTypes.all (fun t => P.readableRec t && decide (t < P.types.size)) && (c.ifacesOut == fn.resultTypes.toList.any (P.ifacesRec ·)) && (c.loopsOut == fn.resultTypes.toList.any (P.loopsFrom ·)) && (c.plainKeys == pk) && c.shortTexts.isNone && (c.lifted == false) && (some Make.cut == some c.make) && (c.kinds == (if c.domain.isEmpty then [] else fn.params.toList.map fun t => match P.underlying t with | some (.int k) => some k | _ => none)) && (c.pinned == c.pinnedBy) &&
  (c.veiled == (fn.params.toList ++ s.plain.varTypes P ++ fn.resultTypes.toList).any (P.veiledRec ·)) && c.veiledFits P fn.params.toList (fn.params.toList ++ s.plain.varTypes P ++ fn.resultTypes.toList)) = true) : joinedFacts P f fn s c = true := by
  simp only [Bool.and_eq_true] at r r2
  obtain ⟨⟨⟨⟨⟨⟨⟨⟨k1, k4⟩, k5⟩, k6⟩, k8⟩, k10⟩, k11⟩, k12⟩, k13⟩ := r
  obtain ⟨⟨⟨⟨⟨⟨⟨⟨⟨⟨⟨⟨⟨⟨⟨⟨m1, m2⟩, m3⟩, m4⟩, m5⟩, m6⟩, m7⟩, m8⟩, m9⟩, m10⟩, m11⟩, m12⟩, m13⟩, m14⟩, m15⟩, m16⟩, m17⟩ := r2
  unfold joinedFacts
  rw [h3, h4, h7, h8, h9]
  simp only [Bool.and_eq_true]
  exact ⟨⟨⟨⟨⟨⟨⟨⟨⟨⟨⟨⟨⟨⟨⟨⟨⟨⟨⟨⟨⟨⟨⟨⟨⟨⟨⟨⟨⟨⟨⟨k1, h1⟩, h2⟩, k4⟩, k5⟩, k6⟩, rfl⟩, k8⟩, rfl⟩, k10⟩, k11⟩, k12⟩, k13⟩, m1⟩, m2⟩, m3⟩, m4⟩, m5⟩, m6⟩, m7⟩, m8⟩, m9⟩, m10⟩, m11⟩, h5⟩, h6⟩, m12⟩, m13⟩, m14⟩, m15⟩, m16⟩, m17⟩
theorem Try.mapsRowed : mapsRowed Try.prog = true := by kernel_rfl
theorem Try.stops : Try.prog.stops = [] := by kernel_rfl
theorem Try.stopKnobs : Try.prog.stopKnobs = [] := by kernel_rfl
theorem Try.stopsHeard : Try.prog.stopsHeard = true := by kernel_rfl
theorem Try.laysLater : Try.prog.laysLater = false := by kernel_rfl
theorem Try.bearsReflect : Try.prog.bearsReflect = false := by kernel_rfl
theorem Try.doorFits : Try.prog.doorFits [] = true := by kernel_rfl
theorem Try.mayEnter : Try.prog.mayEnter = true := Try.cut.elim fun _ h => enter_cut h Try.laysLater Try.bearsReflect Try.doorFits
theorem Try.liftsFinal : Try.prog.liftsFinal = false := Try.cut.elim fun _ h => lifts_cut h
theorem Try.make : Try.prog.make = some .cut := Try.cut.elim fun _ h => make_cut h
theorem Try.plainKeys : Try.prog.plainKeys = false := by kernel_rfl
end Go.Proofs.Ytncmcgcilijfkaa
namespace Go.Proofs.Ytncmcgcilijfkaa
open Go Go.ChangeShapes Go.WideShapes Go.ChangeAt Go.RowKit Go.Deep
set_option maxRecDepth 100000
section
variable {H : Type} {enc : TypeId × Value → H} {W : World}
theorem rd_of_cells {a : Addr} {vs : List Value} (h : ∀ i v, vs[i]? = some v → W.cell? (a.add i) = some v) : RdS W (some a) vs := by
  cases vs with
  | nil => exact .inl rfl
  | cons v0 vs =>
    obtain ⟨b, o, spot⟩ := a
    have h0 := h 0 v0 rfl
    have hspot : spot = none := by simpa [Addr.add] using World.cell?_spot h0
    subst hspot
    have ha : ∀ i, (⟨b, o, none⟩ : Addr).add i = ⟨b, o + i, none⟩ := fun i => Addr.add_mid ..
    rw [ha] at h0
    cases hb : W.heap[b]? with
    | none => simp [World.cell?, hb] at h0
    | some ob =>
      cases ob with
      | cells C T fr =>
        refine .inr ⟨b, o, C, T, fr, rfl, hb, fun i v hv => ?_⟩
        have := h i v hv
        rw [ha] at this
        simpa [World.cell?, hb] using this
      | _ => simp [World.cell?, hb] at h0
instance : Inhabited Sl := ⟨⟨none, 0, 0, []⟩⟩
end
end Go.Proofs.Ytncmcgcilijfkaa
namespace Go.Proofs.Ytncmcgcilijfkaa
open Go Go.ChangeShapes Go.WideShapes Go.ChangeAt Go.RowKit Go.Deep Go.ChangeMaps
set_option maxRecDepth 100000
section
variable {H : Type} {enc : TypeId × Value → H} {W : World} {base : Nat} {spare : Nat → Bool} {held : Bool}
def byteOf : Value → UInt8
  | .int _ n => UInt8.ofNat n.toNat
  | _ => 0
theorem byteOf_V8 {n : Int} (h : (Lit.int .u8 n).wf = true) : V8 (byteOf (.int .u8 n)) = .int .u8 n := by
  have := bounds_u8 h
  simp only [byteOf, V8, UInt8.toNat_ofNat']
  congr 1; omega
end
end Go.Proofs.Ytncmcgcilijfkaa
namespace Go.Proofs.Ytncmcgcilijfkaa
open Go
section
variable {P : Program} {Q : Exit → Act → World → Prop} {n : Nat} {σ : Nat → Value} {w w0 : World} {K : Act → World → Prop}
  {ty : TypeId} {pos : String} {aft : Array Edge} {g : Option (Nat × Bool)} {d : Nat} {t yt : TypeId} {x y z : Operand} {S : List Nat} {L : List Ch}
theorem Sl.ok.addr {s : Sl} (h : s.ok w) (hp : 0 < s.len) : ∃ b o, s.a = some ⟨b, o, none⟩ := by
  rcases h.rd with h' | ⟨b, o, C, T, fr, ha, hb, hc⟩
  · have := h.ln
    rw [List.map_eq_nil_iff.1 h'] at this
    simp at this; omega
  · exact ⟨b, o, ha⟩
theorem Sl.get (s : List UInt8) (k : Nat) (h : k < s.length) : (s.map V8)[k]? = some (V8 (s.getD k 0)) := by
  simp [List.getD_eq_getElem?_getD, h]
theorem RdS.addr {a : Option Addr} {vs : List Value} (h : RdS w a vs) (hp : 0 < vs.length) : ∃ b o, a = some ⟨b, o, none⟩ := by
  rcases h with rfl | ⟨b, o, C, T, fr, ha, hb, hc⟩
  · simp at hp
  · exact ⟨b, o, ha⟩
/-- an element's address. -/
theorem r_isN {a : Option Addr} {b o len cap sz : Nat} {kk : IntKind} {i : Int} (k : Nat) (hx : ev n σ x = .slice a len cap) (hy : ev n σ y = .int kk i) (ha : eltOf P t = some sz) (hb : a = some ⟨b, o, none⟩) (hi : i = (k : Int)) (h1 : k < len) :
    (execOp (ev n σ) ⟨some d, .indexAddr t x y, ty, pos, aft, g⟩).run P w = .ok (.value (.pointer (some ⟨b, o + k * sz, none⟩))) w := by
  subst hi
  exact r_is hx hy ha hb (by omega) (by omega)
/-- a whole array. -/
theorem r_ldA {b i k : Nat} {C : List Value} {T : TypeId} (H : Hp w0 w S L) (hi : L[i]? = some (.blk b C T)) (hx : ev n σ x = .pointer (some ⟨b, 0, none⟩)) (ht : rowTy P t = some k) (hk : C.length = k) :
    (execOp (ev n σ) ⟨some d, .load t x, ty, pos, aft, g⟩).run P w = .ok (.value (.agg C.toArray)) w := by
  have h := r_ldr (P := P) (t := t) (d := d) (ty := ty) (pos := pos) (aft := aft) (g := g) H hi hx ht (by omega)
  rw [h, List.drop_zero, List.take_of_length_le (Nat.le_of_eq hk)]
theorem r_ldAA {b i k : Nat} {l : List UInt8} {T : TypeId} (H : Hp w0 w S L) (hi : L[i]? = some (.blk b (l.map V8) T)) (hx : ev n σ x = .pointer (some ⟨b, 0, none⟩)) (ht : rowTy P t = some k) (hk : l.length = k) :
    (execOp (ev n σ) ⟨some d, .load t x, ty, pos, aft, g⟩).run P w = .ok (.value (.agg (l.map V8).toArray)) w :=
  r_ldA H hi hx ht (by rw [List.length_map, hk])
/-- an array or struct literal. -/
theorem r_bld' {parts : Array (Nat × Operand)} {zs : Array Value} {places : Nat → Option (Nat × Nat)} {pv : List (Nat × Value)} {cells : Array Value} (hB : Bld P t zs places)
    (hp0 : pvs n σ parts.toList = pv) (hf : Instr.fill places zs pv = some cells) :
    (execOp (ev n σ) ⟨some d, .build t parts, ty, pos, aft, g⟩).run P w = .ok (.value (.agg cells)) w := by
  have hp : (parts.map fun (i, x) => (i, ev n σ x)).toList = pv := by rw [← hp0, pvs_eq, Array.toList_map]
  have := run_build (P := P) w t (parts.map fun (i, x) => (i, ev n σ x)) cells (by rw [hp, hB.eq]; exact hf)
  simp only [execOp, Sem.run_bind, this]
  simp
def Sl.cut (s : Sl) (l h m : Nat) : Sl := ⟨sa s.a l m 1, h - l, m - l, (s.l.drop l).take (h - l)⟩
theorem Sl.ok.cut {s : Sl} (hs : s.ok w) {l h m : Nat} (h1 : l ≤ h) (h2 : h ≤ s.len) (h3 : h ≤ m) (_h4 : m ≤ s.cap) : (s.cut l h m).ok w := by
  refine ⟨?_, ?_, by simp only [Sl.cut]; omega, by have := hs.mx; simp only [Sl.cut]; omega⟩
  · unfold Sl.cut
    simp only
    by_cases hml : m = l
    · have : (s.l.drop l).take (h - l) = [] := by rw [show h - l = 0 by omega, List.take_zero]
      rw [this]; exact .inl rfl
    · have e : sa s.a l m 1 = s.a.map (·.add (l * 1)) := by unfold sa; rw [if_neg hml]
      rw [e, Nat.mul_one, List.map_take, List.map_drop]
      exact (hs.rd.drop l).take _
  · have := hs.ln
    simp only [Sl.cut, List.length_take, List.length_drop]; omega
theorem sbl {s : Bool} {len cap : Nat} {k : IntKind} {i : Int} (l : Nat) (e : i = (l : Int)) (h1 : l ≤ len) (w : World) : (Instr.sliceBounds s len cap (some (.int k i)) none none).run P w = .ok (l, len, cap) w := by
  subst e; exact sb_l (by omega) (by omega) w
theorem sbh {s : Bool} {len cap : Nat} {k : IntKind} {i : Int} (h : Nat) (e : i = (h : Int)) (h1 : h ≤ cap) (w : World) : (Instr.sliceBounds s len cap none (some (.int k i)) none).run P w = .ok (0, h, cap) w := by
  subst e; exact sb_h (by omega) (by omega) w
theorem Hp.ownLen (H : Hp w0 w S L) {i : Nat} {a : Option Nat} {len cap : Nat} {xs : List Value} {T : TypeId} {sz : Nat} (hi : L[i]? = some (.own a len cap xs T sz)) : xs.length = len * sz ∧ len ≤ cap ∧ cap ≤ maxLen := by
  have h := H.has _ (List.mem_of_getElem? hi)
  cases a with
  | none => obtain ⟨rfl, rfl, rfl⟩ := h; simp [maxLen]
  | some b => exact ⟨h.1, h.2.1, h.2.2.1⟩
theorem Hp.ownAddr (H : Hp w0 w S L) {i : Nat} {a : Option Nat} {len cap : Nat} {xs : List Value} {T : TypeId} {sz : Nat} (hi : L[i]? = some (.own a len cap xs T sz)) (h0 : 0 < len) : ∃ b, hd a = some ⟨b, 0, none⟩ := by
  have h := H.has _ (List.mem_of_getElem? hi)
  cases a with
  | none => obtain ⟨h1, _⟩ := h; omega
  | some b => exact ⟨b, rfl⟩
theorem Hp.nilEnd (H : Hp w0 w S L) (T : TypeId) (sz : Nat) : Hp w0 w S (L ++ [.own none 0 0 [] T sz]) :=
  (H.nilOwn T sz).perm (List.perm_append_singleton _ _).symm
/-- a literal of values of one cell. -/
theorem o_bslV {e : TypeId} {len bytes : Nat} {parts : Array (Nat × Operand)} {zv : Value} (vs : List Value) (H : Hp w0 w S L) (hT : SlTy P t e 1 bytes) (hz : zeroCells P e = some [zv])
    (hp : pvs n σ parts.toList = en 0 vs) (h1 : vs.all (·.oneCell') = true) (hlen : vs.length = len) (hm : len ≤ 16777216)
    (h : ∀ b w', Hp w0 w' S (L ++ [.own (some b) len len vs e 1]) → w0.heap.size ≤ b → K (mk n (up σ d (.slice (hd (some b)) len len))) w') :
    Oper.wp P ⟨some d, .buildSlice t len parts, ty, pos, aft, g⟩ (mk n σ) w K Q := by
  refine o_bsl H hT hz (by decide) hp (by omega) (fills _ vs len (by simpa using h1) hlen) fun b w' H' hb => h b w' ?_ hb
  have := H'.toOwn (i := L.length) (len := len) (cap := len) (sz := 1) (b := b) (C := vs) (T := e) (by simp) (Nat.le_refl _) (Nat.le_trans hm (by decide)) (by simpa using hlen)
  rw [List.set_append_right _ _ (Nat.le_refl _), Nat.sub_self, List.take_of_length_le (by omega)] at this
  simpa using this
theorem Sl.ok_nil (w : World) : (⟨none, 0, 0, []⟩ : Sl).ok w := ⟨.inl rfl, rfl, Nat.le_refl _, by decide⟩
/-- bytes as they were given, with three marks behind them. -/
def Sl.full (x : Sl) : Sl := ⟨x.a, x.cap, x.cap, x.l ++ List.replicate 3 229⟩
structure Sl.kept (x : Sl) (w : World) : Prop where
  ok : x.ok w
  room : x.cap = x.len + 3
  all : x.full.ok w
theorem Sl.kept.up {x : Sl} (hx : x.kept w0) (H : Hp w0 w S L) (hap : Apart x.a S) : x.kept w :=
  ⟨hx.ok.up H (fun _ => hap), hx.room, hx.all.up H (fun _ => hap)⟩
theorem ba_loop (b : ByteArray) : ∀ (k i : Nat) (r : List UInt8), b.size - i = k → ByteArray.toList.loop b i r = r.reverse ++ b.data.toList.drop i := by
  intro k
  induction k with
  | zero =>
    intro i r h
    have hd : b.data.toList.drop i = [] := List.drop_of_length_le (by have : b.data.toList.length = b.size := rfl; omega)
    rw [ByteArray.toList.loop, if_neg (by omega), hd, List.append_nil]
  | succ k ih =>
    intro i r h
    have hlt : i < b.size := by omega
    have hl : i < b.data.toList.length := hlt
    rw [ByteArray.toList.loop, if_pos hlt, ih (i + 1) _ (by omega), List.drop_eq_getElem_cons hl]
    have : b.get! i = b.data.toList[i] := by
      show b.data[i]! = _
      rw [getElem!_pos b.data i hlt]; rfl
    rw [this]; simp
theorem ba_toList (l : List UInt8) : (⟨l.toArray⟩ : ByteArray).toList = l := by
  rw [ByteArray.toList, ba_loop _ _ 0 [] rfl]; simp
theorem beq_dec (a b : List UInt8) : (a == b) = decide (a = b) := by
  rw [Bool.eq_iff_iff]; simp
theorem run_streq {a b : List UInt8} (w : World) : (Op.stringOp .eql ⟨a.toArray⟩ ⟨b.toArray⟩).run P w = .ok (.bool (decide (a = b))) w := by
  rw [b_seql, ba_toList, ba_toList, beq_dec]
theorem r_streq {a b : List UInt8} (hx : ev n σ x = .string ⟨a.toArray⟩) (hy : ev n σ y = .string ⟨b.toArray⟩) :
    (execOp (ev n σ) ⟨some d, .binOp .eql t x y yt, ty, pos, aft, g⟩).run P w = .ok (.value (.bool (decide (a = b)))) w :=
  r_str hx hy (fun w => run_streq w) (by decide)
theorem r_strne {a b : List UInt8} (hx : ev n σ x = .string ⟨a.toArray⟩) (hy : ev n σ y = .string ⟨b.toArray⟩) :
    (execOp (ev n σ) ⟨some d, .binOp .neq t x y yt, ty, pos, aft, g⟩).run P w = .ok (.value (.bool (!decide (a = b)))) w :=
  r_str hx hy (fun w => by rw [b_sneq, ba_toList, ba_toList, beq_dec]) (by decide)
end
def resF (tmps : Array Value) : ResultVar → Sem Value
  | .tmp t => pure (tmps.getD t undef)
  | .cell a t => do loadVar t (← asAddr (tmps.getD a undef))
def resOk (P : Program) (n : Nat) (σ : Nat → Value) (w : World) : List ResultVar → List Value → Prop
  | [], [] => True
  | .tmp t :: rs, v :: vs => ev n σ (.tmp t) = v ∧ resOk P n σ w rs vs
  | .cell a t :: rs, v :: vs => (∃ b C T k, ev n σ (.tmp a) = .pointer (some ⟨b, 0, none⟩) ∧ w.heap[b]? = some (.cells (List.toArray C) T (0, 0)) ∧ ((rowTy P t = some k ∧ C.length = k ∧ v = .agg C.toArray) ∨ (cellTy P t = true ∧ C[0]? = some v))) ∧ resOk P n σ w rs vs
  | _, _ => False
theorem run_resF {P : Program} {n : Nat} {σ : Nat → Value} {w : World} : ∀ (rs : List ResultVar) (vs : List Value) (acc : Array Value), resOk P n σ w rs vs →
    (rs.foldlM (fun acc r => do let v ← resF (mk n σ).tmps r; pure (acc.push v)) acc : Sem (Array Value)).run P w = .ok (acc ++ vs.toArray) w
  | [], [], acc, _ => by simp
  | .tmp t :: rs, v :: vs, acc, h => by
    have h1 : (mk n σ).tmps.getD t undef = v := by rw [mk_tmp]; exact h.1
    have e : (resF (mk n σ).tmps (.tmp t)).run P w = .ok v w := by simp [resF, h1]
    rw [List.foldlM_cons, Sem.run_bind, Sem.run_bind, e]
    simp only [Result.andThen_ok, Sem.run_pure]
    rw [run_resF rs vs _ h.2]
    congr 1
    simp
  | .cell a t :: rs, v :: vs, acc, h => by
    obtain ⟨⟨b, C, T, k, h1, h2, h3⟩, h4⟩ := h
    have e1 : (mk n σ).tmps.getD a undef = .pointer (some ⟨b, 0, none⟩) := by rw [mk_tmp]; exact h1
    have e2 : (loadVar t ⟨b, 0, none⟩).run P w = .ok v w := by
      rcases h3 with ⟨hr, hk, rfl⟩ | ⟨hc, hv⟩
      · have := run_loadAt_row (P := P) (t := t) (k := k) (o := 0) h2 hr (by omega)
        simp only [Instr.loadAt, Instr.sureAddr, Sem.run_bind, Sem.run_pure, Result.andThen_ok] at this
        rw [this, List.drop_zero, List.take_of_length_le (by omega)]
      · have := run_loadAt_cell (P := P) (t := t) (a := ⟨b, 0, none⟩) (v := v) (w := w) hc (by simp [World.cell?, h2, hv])
        simpa only [Instr.loadAt, Instr.sureAddr, Sem.run_bind, Sem.run_pure, Result.andThen_ok] using this
    have e : (resF (mk n σ).tmps (.cell a t)).run P w = .ok v w := by simp [resF, e1, asAddr, e2]
    rw [List.foldlM_cons, Sem.run_bind, Sem.run_bind, e]
    simp only [Result.andThen_ok, Sem.run_pure]
    rw [run_resF rs vs _ h4]
    congr 1
    simp
theorem e_retN {P : Program} {n : Nat} {σ : Nat → Value} {w : World} {fn : Func} {R : Ending → World → Prop} (rs : List ResultVar) (vs : List Value) (hres : fn.results = rs.toArray) (h1 : (vs.length == 1) = false) (hv : resOk P n σ w rs vs)
    (hR : R (.returned (.tuple vs.toArray)) w) : bodyPost P fn R .ret (mk n σ) w := by
  refine ⟨mk_defers n σ, .tuple vs.toArray, ?_, hR⟩
  have h2 := run_resF (P := P) (w := w) rs vs #[] hv
  have h3 : (fn.results.mapM (resF (mk n σ).tmps)).run P w = .ok vs.toArray w := by
    rw [hres, Array.mapM_eq_foldlM, List.foldlM_toArray]
    simpa using h2
  have h4 : results fn (mk n σ).tmps = (do let vs ← fn.results.mapM (resF (mk n σ).tmps); pure (if h : vs.size = 1 then vs[0] else .tuple vs)) := by
    unfold results
    congr 1
  rw [h4, Sem.run_bind, h3]
  have : ¬ vs.length = 1 := by simpa using h1
  simp [this]
theorem resT {P : Program} {n : Nat} {σ : Nat → Value} {w : World} {t : Nat} {v : Value} {rs : List ResultVar} {vs : List Value} (hv : ev n σ (.tmp t) = v) (h : resOk P n σ w rs vs) : resOk P n σ w (.tmp t :: rs) (v :: vs) := ⟨hv, h⟩
theorem resZ {P : Program} {n : Nat} {σ : Nat → Value} {w : World} : resOk P n σ w [] [] := trivial
section
variable {P : Program} {Q : Exit → Act → World → Prop} {n : Nat} {σ : Nat → Value} {w : World} {c : Code} {ι κ ξ ο π : Type}
theorem c_loop3 (pat : ι → κ → ξ → List (Nat × Value)) (A : ι → κ → ξ → World → Prop) (μ : ι → κ → ξ → Nat) (i : ι) (k : κ) (x : ξ) (hp : fits σ (pat i k x)) (hA : A i k x w)
    (h : ∀ i k x τ w, A i k x w → c.wp P (Exit.then (Rnd n (fun y : ι × κ × ξ => pat y.1 y.2.1 y.2.2) (fun y => A y.1 y.2.1 y.2.2) (fun y => μ y.1 y.2.1 y.2.2) (μ i k x)) Q) (mk n (ups τ (pat i k x))) w) : (Code.loop c).wp P Q (mk n σ) w :=
  c_loop (fun y : ι × κ × ξ => pat y.1 y.2.1 y.2.2) (fun y => A y.1 y.2.1 y.2.2) (fun y => μ y.1 y.2.1 y.2.2) (i, k, x) hp hA fun y τ w hA => h y.1 y.2.1 y.2.2 τ w hA
end
end Go.Proofs.Ytncmcgcilijfkaa
namespace Go.Proofs.Ytncmcgcilijfkaa
open Go
section
variable {P : Program} {Q : Exit → Act → World → Prop} {n : Nat} {σ : Nat → Value} {w w0 : World} {K : Act → World → Prop}
  {ty : TypeId} {pos : String} {aft : Array Edge} {g : Option (Nat × Bool)} {d : Nat} {t yt : TypeId} {x y z : Operand} {S : List Nat} {L : List Ch}
/-- a whole struct stored. -/
theorem o_stW {b i k : Nat} {C C' : List Value} {T : TypeId} (H : Hp w0 w S L) (hi : L[i]? = some (.blk b C T)) (hx : ev n σ x = .pointer (some ⟨b, 0, none⟩)) (hy : ev n σ y = .agg C'.toArray)
    (hs : cellSz P t = some k) (h1 : C'.all (·.oneCell') = true) (hk : C.length = k) (hk' : C'.length = k)
    (h : ∀ w', Hp w0 w' S (L.set i (.blk b C' T)) → K (mk n σ) w') : Oper.wp P ⟨none, .store t x y, ty, pos, aft, g⟩ (mk n σ) w K Q :=
  o_stw H hi hx hy (by rw [hs, List.size_toArray, hk']) (by rw [List.all_toArray]; exact h1) (by rw [List.size_toArray, hk, hk']) fun w' H' => h w' H'
/-- slices of structs: what stands there. -/
structure Gl (α : Type) where
  a : Option Addr
  len : Nat
  cap : Nat
  l : List α
def Gl.v {α : Type} (s : Gl α) : Value := .slice s.a s.len s.cap
structure Gl.ok {α : Type} (enc : α → List Value) (sz : Nat) (s : Gl α) (w : World) : Prop where
  rd : RdS w s.a (s.l.flatMap enc)
  ln : s.l.length = s.len
  le : s.len ≤ s.cap
  mx : s.cap ≤ maxLen
  sz : ∀ c ∈ s.l, (enc c).length = sz
theorem Gl.ok.up {α : Type} {enc : α → List Value} {sz : Nat} {s : Gl α} (hs : s.ok enc sz w0) (H : Hp w0 w [] L) : s.ok enc sz w := ⟨H.rd hs.rd (apart_nil _), hs.ln, hs.le, hs.mx, hs.sz⟩
theorem flat_len {α : Type} {enc : α → List Value} {sz : Nat} : ∀ {l : List α}, (∀ c ∈ l, (enc c).length = sz) → (l.flatMap enc).length = l.length * sz
  | [], _ => by simp
  | c :: l, h => by
    rw [List.flatMap_cons, List.length_append, h c (by simp), flat_len (l := l) (fun c hc => h c (by simp [hc])), List.length_cons, Nat.succ_mul, Nat.add_comm]
theorem flat_at {α : Type} {enc : α → List Value} {sz : Nat} {c : α} : ∀ {l : List α} {k : Nat}, (∀ c ∈ l, (enc c).length = sz) → l[k]? = some c → ((l.flatMap enc).drop (k * sz)).take sz = enc c
  | [], k, _, h => by simp at h
  | b :: l, 0, hs, h => by
    simp at h; subst h
    have := hs b (by simp)
    rw [Nat.zero_mul, List.drop_zero, List.flatMap_cons, ← this, List.take_left]
  | b :: l, k + 1, hs, h => by
    have hb := hs b (by simp)
    rw [Nat.succ_mul, Nat.add_comm, List.flatMap_cons, ← List.drop_drop, ← hb, List.drop_left, hb]
    exact flat_at (fun c hc => hs c (by simp [hc])) (by simpa using h)
theorem Gl.ok.addr {α : Type} {enc : α → List Value} {sz : Nat} {s : Gl α} (h : s.ok enc sz w) (hz : 0 < sz) (hp : 0 < s.len) : ∃ b o, s.a = some ⟨b, o, none⟩ :=
  h.rd.addr (by rw [flat_len h.sz, h.ln]; exact Nat.mul_pos hp hz)
theorem r_ldRow {α : Type} {enc : α → List Value} {sz : Nat} {s : Gl α} {b o k : Nat} {c : α} (hs : s.ok enc sz w) (ha : s.a = some ⟨b, o, none⟩) (hx : ev n σ x = .pointer (some ⟨b, o + k * sz, none⟩)) (ht : rowTy P t = some sz) (hz : 0 < sz) (hk : s.l[k]? = some c) :
    (execOp (ev n σ) ⟨some d, .load t x, ty, pos, aft, g⟩).run P w = .ok (.value (.agg (enc c).toArray)) w := by
  have hlt : k < s.l.length := (List.getElem?_eq_some_iff.1 hk).1
  have := r_ldsr (P := P) (w := w) (t := t) (d := d) (ty := ty) (pos := pos) (aft := aft) (g := g) hs.rd ha hx ht hz (by
    rw [flat_len hs.sz]
    have : (k + 1) * sz ≤ s.l.length * sz := Nat.mul_le_mul_right _ hlt
    rw [Nat.succ_mul] at this; exact this)
  rwa [flat_at hs.sz hk] at this
/-- a field of a struct of a slice. -/
theorem r_ldFld {α : Type} {enc : α → List Value} {sz off : Nat} {s : Gl α} {b o k : Nat} {c : α} {v : Value} (hs : s.ok enc sz w) (ha : s.a = some ⟨b, o, none⟩) (hx : ev n σ x = .pointer (some ⟨b, o + k * sz + off, none⟩)) (ht : cellTy P t = true) (hk : s.l[k]? = some c) (hoff : off < sz) (hv : (enc c)[off]? = some v) :
    (execOp (ev n σ) ⟨some d, .load t x, ty, pos, aft, g⟩).run P w = .ok (.value v) w := by
  refine r_lds (i := k * sz + off) hs.rd ha (by rw [hx, Nat.add_assoc]) ht ?_
  have h := flat_at hs.sz hk
  rw [← h, List.getElem?_take_of_lt hoff, List.getElem?_drop] at hv
  exact hv
theorem Hp.glOwn {α : Type} {enc : α → List Value} (H : Hp w0 w S L) {i : Nat} {a : Option Nat} {len cap sz : Nat} {l : List α} {T : TypeId} (hi : L[i]? = some (.own a len cap (l.flatMap enc) T sz)) (hz : 0 < sz) (hs : ∀ c ∈ l, (enc c).length = sz) : (⟨hd a, len, cap, l⟩ : Gl α).ok enc sz w := by
  have h := H.ownLen hi
  refine ⟨H.own hi, ?_, h.2.1, h.2.2, hs⟩
  have h1 := h.1
  rw [flat_len hs] at h1
  exact Nat.eq_of_mul_eq_mul_right hz h1
/-- structs behind structs of one's own. -/
theorem o_appG {α : Type} {enc : α → List Value} {i : Nat} {a : Option Nat} {len cap len' sz bytes : Nat} {l l' : List α} {e e' : TypeId} {tx : TypeId} {s : Gl α} (el : l ++ s.l = l') (en : len + s.len = len') (H : Hp w0 w S L) (hi : L[i]? = some (.own a len cap (l.flatMap enc) e sz)) (hT : SlTy P t e sz bytes) (hu : P.underlying tx = some (.slice e'))
    (hx : ev n σ x = .slice (hd a) len cap) (hy : ev n σ y = s.v) (hs : s.ok enc sz w) (hz : 0 < sz) (h1 : ∀ c ∈ s.l, (enc c).all (·.oneCell') = true) (hm : len' ≤ 68719476736) (hb : bytes ≤ 2048)
    (h : ∀ a' cap' w', Hp w0 w' S (L.set i (.own a' len' cap' (l'.flatMap enc) e sz)) → K (mk n (up σ d (.slice (hd a') len' cap'))) w') :
    Oper.wp P ⟨some d, .call ⟨.builtin .append, #[x, y], #[t, tx]⟩, ty, pos, aft, g⟩ (mk n σ) w K Q := by
  subst el en
  have h1' : ∀ u ∈ s.l.flatMap enc, u.oneCell' = true := by
    intro u hu
    obtain ⟨c, hc, huc⟩ := List.mem_flatMap.1 hu
    exact List.all_eq_true.1 (h1 c hc) u huc
  refine o_app (m := s.len) (news := s.l.flatMap enc) H hi hT hx hy (RdS.src hu hs.rd (by rw [flat_len hs.sz, hs.ln]) hz h1') hz (by omega) (Nat.le_trans (Nat.mul_le_mul hm hb) (by decide)) fun a' cap' w' H' => h a' cap' w' ?_
  rw [List.flatMap_append]; exact H'
theorem fill_row (sz : Nat) (zs vs : List Value) (h1 : zs.length = sz) (h2 : vs.length = sz) : Instr.fill (fun i => some (i * sz, sz)) zs.toArray [(0, .agg vs.toArray)] = some vs.toArray := by
  have h : ∀ (vs done zs : List Value), zs.length = vs.length → (vs.zipIdx done.length).foldl (fun (acc : Array Value) (p : Value × Nat) => acc.setIfInBounds p.2 p.1) (done ++ zs).toArray = (done ++ vs).toArray := by
    intro vs
    induction vs with
    | nil => intro done zs hz; have : zs = [] := List.length_eq_zero_iff.1 (by simpa using hz); subst this; simp
    | cons v vs ih =>
      intro done zs hz
      cases zs with
      | nil => simp at hz
      | cons z zs =>
        have := ih (done ++ [v]) zs (by simpa using hz)
        simp only [List.length_append, List.length_singleton, List.append_assoc, List.singleton_append] at this
        rw [← this, List.zipIdx_cons, List.foldl_cons]
        congr 1
        simp []
  have := h vs [] zs (by omega)
  simp only [Instr.fill, Value.cells, Nat.zero_mul]
  rw [if_neg (by simp [h1, h2])]
  simpa [Nat.zero_add] using this
/-- a literal of one struct, or of none. -/
theorem o_bslG1 {α : Type} {enc : α → List Value} {e : TypeId} {sz bytes : Nat} {parts : Array (Nat × Operand)} {zs : List Value} (c : α) (H : Hp w0 w S L) (hT : SlTy P t e sz bytes) (hz : zeroCells P e = some zs) (_hzs : zs.length = sz) (h0 : 0 < sz) (hsm : sz ≤ 16777216)
    (hp : pvs n σ parts.toList = [(0, .agg (enc c).toArray)]) (hc : (enc c).length = sz)
    (h : ∀ b w', Hp w0 w' S (L ++ [.own (some b) 1 1 ([c].flatMap enc) e sz]) → w0.heap.size ≤ b → K (mk n (up σ d (.slice (hd (some b)) 1 1))) w') :
    Oper.wp P ⟨some d, .buildSlice t 1 parts, ty, pos, aft, g⟩ (mk n σ) w K Q := by
  refine o_bsl (cells := (enc c).toArray) H hT hz h0 hp (by omega) ?_ fun b w' H' hb => h b w' ?_ hb
  · have hzl : ((Array.range (1 * sz)).map (zs.toArray[· % zs.toArray.size]!)).toList.length = sz := by simp
    have := fill_row sz ((Array.range (1 * sz)).map (zs.toArray[· % zs.toArray.size]!)).toList (enc c) hzl hc
    rwa [Array.toArray_toList] at this
  · have := H'.toOwn (i := L.length) (len := 1) (cap := 1) (sz := sz) (b := b) (C := enc c) (T := e) (by simp) (Nat.le_refl _) (by decide) (by omega)
    rw [List.set_append_right _ _ (Nat.le_refl _), Nat.sub_self, List.take_of_length_le (by omega)] at this
    simpa using this
theorem o_bslG0 {α : Type} {enc : α → List Value} {e : TypeId} {sz bytes : Nat} {zs : List Value} (H : Hp w0 w S L) (hT : SlTy P t e sz bytes) (hz : zeroCells P e = some zs) (h0 : 0 < sz)
    (h : ∀ b w', Hp w0 w' S (L ++ [.own (some b) 0 0 (([] : List α).flatMap enc) e sz]) → w0.heap.size ≤ b → K (mk n (up σ d (.slice (hd (some b)) 0 0))) w') :
    Oper.wp P ⟨some d, .buildSlice t 0 #[], ty, pos, aft, g⟩ (mk n σ) w K Q := by
  refine o_bsl (pv := []) (cells := #[]) H hT hz h0 rfl (by omega) ?_ fun b w' H' hb => h b w' ?_ hb
  · simp [Instr.fill]
  · have := H'.toOwn (i := L.length) (len := 0) (cap := 0) (sz := sz) (b := b) (C := []) (T := e) (by simp) (Nat.le_refl _) (by decide) (by simp)
    rw [List.set_append_right _ _ (Nat.le_refl _), Nat.sub_self] at this
    simpa using this
end
end Go.Proofs.Ytncmcgcilijfkaa
namespace Go.Proofs.Ytncmcgcilijfkaa
open Go
section
variable {P : Program} {Q : Exit → Act → World → Prop} {n : Nat} {σ : Nat → Value} {w w0 : World} {K : Act → World → Prop}
  {ty : TypeId} {pos : String} {aft : Array Edge} {g : Option (Nat × Bool)} {d : Nat} {t yt : TypeId} {x y : Operand} {S : List Nat} {L : List Ch}
theorem flat_take {α : Type} {enc : α → List Value} {sz : Nat} {l : List α} (h : ∀ c ∈ l, (enc c).length = sz) (k : Nat) : (l.flatMap enc).take (k * sz) = (l.take k).flatMap enc := by
  by_cases hk : k ≤ l.length
  · have e : l.flatMap enc = (l.take k).flatMap enc ++ (l.drop k).flatMap enc := by rw [← List.flatMap_append, List.take_append_drop]
    have hl : ((l.take k).flatMap enc).length = k * sz := by
      rw [flat_len (fun c hc => h c (List.mem_of_mem_take hc)), List.length_take, Nat.min_eq_left hk]
    rw [e, List.take_left' hl]
  · rw [List.take_of_length_le (l := l) (by omega), List.take_of_length_le]
    rw [flat_len h]; exact Nat.mul_le_mul_right _ (by omega)
theorem flat_drop {α : Type} {enc : α → List Value} {sz : Nat} {l : List α} (h : ∀ c ∈ l, (enc c).length = sz) (k : Nat) : (l.flatMap enc).drop (k * sz) = (l.drop k).flatMap enc := by
  by_cases hk : k ≤ l.length
  · have e : l.flatMap enc = (l.take k).flatMap enc ++ (l.drop k).flatMap enc := by rw [← List.flatMap_append, List.take_append_drop]
    have hl : ((l.take k).flatMap enc).length = k * sz := by
      rw [flat_len (fun c hc => h c (List.mem_of_mem_take hc)), List.length_take, Nat.min_eq_left hk]
    rw [e, List.drop_left' hl]
  · rw [List.drop_of_length_le (l := l) (by omega), List.drop_of_length_le]
    · rfl
    · rw [flat_len h]; exact Nat.mul_le_mul_right _ (by omega)
theorem part_cell {e : TypeId} (he : cellTy P e = true) {xs : Array Value} {off : Nat} {v : Value} (hx : xs[off]? = some v) : (part e xs off).run P w = .ok v w := by simp [part, run_isAgg_cell he, hx]
theorem part_row {e : TypeId} {k : Nat} (he : rowTy P e = some k) {xs : Array Value} {off : Nat} : (part e xs off).run P w = .ok (.agg (xs.extract off (off + k))) w := by
  simp [part, run_isAgg_row he, run_sizeOf_sz (sz_of_row he)]
theorem eqI_str {e : TypeId} (he : P.underlying e = some .string) (dd : Nat) (a b : List UInt8) : (Op.equalIn (dd + 1) e (.string ⟨a.toArray⟩) (.string ⟨b.toArray⟩)).run P w = .ok (decide (a = b)) w := by
  simp only [Op.equalIn, Sem.run_bind, run_underlying he, Result.andThen_ok]
  simp only [Sem.run_pure]
  rw [beq_toListBytes, ba_toList, ba_toList, beq_dec]
theorem eqI_u8s {t e : TypeId} {m : Nat} (hu : P.underlying t = some (.array m e)) (he : P.underlying e = some (.int .u8)) (hc : cellSz P e = some 1) (dd : Nat) (a b : List UInt8) (ha : a.length = m) (hb : b.length = m) :
    (Op.equalIn (dd + 2) t (.agg (a.map V8).toArray) (.agg (b.map V8).toArray)).run P w = .ok (decide (a = b)) w := by
  cases hi : P.info? e with
  | none => simp [cellSz, hi] at hc
  | some i =>
    have hco : P.cellsOf e = 1 := by simpa [cellSz, hi, Program.cellsOf] using hc
    rw [run_equalIn_array w (dd + 1) _ _ hu hi, hco, eqItems_u8 he dd a b (by omega) w _ (by simp [ha])]
    congr 1
    rw [Bool.eq_iff_iff]
    simp only [List.all_eq_true, List.mem_range, beq_iff_eq, decide_eq_true_eq]
    constructor
    · intro h
      apply List.ext_getElem?
      intro j
      by_cases hj : j < m
      · exact h j hj
      · rw [List.getElem?_eq_none (by omega), List.getElem?_eq_none (by omega)]
    · rintro rfl j _; rfl
theorem eqF_nil (dd : Nat) (xs ys : Array Value) : (Op.eqFields dd xs ys []).run P w = .ok true w := by simp [Op.eqFields]
theorem eqF_cons {f : Field} {fs : List Field} {dd : Nat} {xs ys : Array Value} {a c : Value} {b r : Bool} (hn : f.name ≠ "_") (ha : (part f.type xs f.offset).run P w = .ok a w) (hc : (part f.type ys f.offset).run P w = .ok c w)
    (he : (Op.equalIn dd f.type a c).run P w = .ok b w) (h2 : (Op.eqFields dd xs ys fs).run P w = .ok r w) : (Op.eqFields dd xs ys (f :: fs)).run P w = .ok (b && r) w := by
  simp only [Op.eqFields, if_pos hn, Sem.run_bind, ha, hc, he, Result.andThen_ok]
  cases b <;> simp [h2]
theorem eqS_of {fs : Array Field} {xs ys : Array Value} {b : Bool} (ht : P.underlying t = some (.struct fs)) (hp : P.stoodInHeld t = false) (h : (Op.eqFields 9999 xs ys fs.toList).run P w = .ok b w) : (Op.equal t (.agg xs) (.agg ys)).run P w = .ok b w := by
  have hf : P.fieldsOf t = fs := by simp [Program.fieldsOf, ht]
  unfold Op.equal Op.maxDepth
  rw [run_equalIn_struct w 9999 t xs ys (by rw [hf]; exact ht) hp, hf]; exact h
end
end Go.Proofs.Ytncmcgcilijfkaa
namespace Go.Proofs.Ytncmcgcilijfkaa
open Go
section
variable {P : Program} {Q : Exit → Act → World → Prop} {n : Nat} {σ : Nat → Value} {w w0 : World} {K : Act → World → Prop}
  {ty : TypeId} {pos : String} {aft : Array Edge} {g : Option (Nat × Bool)} {d : Nat} {t yt : TypeId} {x y : Operand} {S : List Nat} {L : List Ch}
theorem fill_pre {places : Nat → Option (Nat × Nat)} {rest : List (Nat × Value)} : ∀ (pre A B : List Value), (∀ v ∈ pre, v.oneCell' = true) → pre.length ≤ B.length → (∀ i, A.length ≤ i → i < A.length + pre.length → places i = some (i, 1)) →
    Instr.fill places (A ++ B).toArray (en A.length pre ++ rest) = Instr.fill places (A ++ pre ++ B.drop pre.length).toArray rest
  | [], A, B, _, _, _ => by simp [en]
  | v :: pre, A, [], _, hl, _ => by simp at hl
  | v :: pre, A, b :: B, h1, hl, hp => by
    have hv := h1 v (by simp)
    have hc : v.cells = #[v] := by cases v <;> simp_all [Value.cells, Value.oneCell']
    have ih := fill_pre (rest := rest) pre (A ++ [v]) B (fun u hu => h1 u (by simp [hu])) (by simpa using hl) (fun i hi1 hi2 => hp i (by simp at hi1; omega) (by simp at hi2 ⊢; omega))
    simp only [List.length_append, List.length_singleton, List.append_assoc, List.singleton_append] at ih
    have hpl := hp A.length (Nat.le_refl _) (by simp)
    rw [en, List.cons_append, Instr.fill]
    simp only [hpl, hc]
    rw [if_neg (by simp)]
    have e : (#[v] : Array Value).zipIdx = #[(v, 0)] := by simp [Array.zipIdx]
    have e2 : (#[v] : Array Value).zipIdx.foldl (fun cs (p : Value × Nat) => cs.setIfInBounds (A.length + p.2) p.1) (A ++ b :: B).toArray = (A ++ v :: B).toArray := by
      rw [e]; simp []
    rw [e2, ih]
    simp
theorem fill_tail {places : Nat → Option (Nat × Nat)} {k m : Nat} (A B vs : List Value) (hp : places k = some (k, m)) (hA : A.length = k) (hB : B.length = m) (hv : vs.length = m) : Instr.fill places (A ++ B).toArray [(k, .agg vs.toArray)] = some (A ++ vs).toArray := by
  have h : ∀ (vs done zs : List Value), zs.length = vs.length → (vs.zipIdx done.length).foldl (fun (acc : Array Value) (p : Value × Nat) => acc.setIfInBounds (A.length + p.2) p.1) (A ++ done ++ zs).toArray = (A ++ done ++ vs).toArray := by
    intro vs
    induction vs with
    | nil => intro done zs hz; have : zs = [] := List.length_eq_zero_iff.1 (by simpa using hz); subst this; simp
    | cons v vs ih =>
      intro done zs hz
      cases zs with
      | nil => simp at hz
      | cons z zs =>
        have := ih (done ++ [v]) zs (by simpa using hz)
        simp only [List.length_append, List.length_singleton, List.append_assoc, List.singleton_append] at this
        rw [List.zipIdx_cons, List.foldl_cons]
        simp only [List.append_assoc]
        rw [← this]
        congr 1
        simp []
  have h2 := h vs [] B (by omega)
  have hn : ¬ (((Value.agg vs.toArray).cells.size ≠ m || k + (Value.agg vs.toArray).cells.size > (A ++ B).toArray.size) = true) := by simp [Value.cells, hA, hB, hv]
  simp only [Instr.fill, hp]
  rw [if_neg hn]
  simp only [List.append_nil, List.length_nil] at h2
  congr 1
  rw [← hA]
  simpa [Value.cells] using h2
/-- a struct literal, its last part an array of bytes. -/
theorem r_bldT {parts : Array (Nat × Operand)} {zs : Array Value} {places : Nat → Option (Nat × Nat)} {pv : List (Nat × Value)} {pre Z : List Value} {l : List UInt8} {m : Nat} (hB : Bld P t zs places)
    (hz : zs = (Z ++ List.replicate m (V8 0)).toArray) (hp0 : pvs n σ parts.toList = pv) (hpv : pv = en 0 pre ++ [(pre.length, .agg (l.map V8).toArray)]) (hlen : pre.length = Z.length) (h1 : pre.all (·.oneCell') = true)
    (hpl : (List.range pre.length).all (fun i => places i == some (i, 1)) = true) (hpt : places pre.length = some (pre.length, m)) (hl : l.length = m) :
    (execOp (ev n σ) ⟨some d, .build t parts, ty, pos, aft, g⟩).run P w = .ok (.value (.agg (pre ++ l.map V8).toArray)) w := by
  refine r_bld' hB hp0 ?_
  subst hz hpv
  have h := fill_pre (places := places) (rest := [(pre.length, .agg (l.map V8).toArray)]) pre [] (Z ++ List.replicate m (V8 0)) (fun v hv => List.all_eq_true.1 h1 v hv) (by simp [hlen]) (fun i _ hi => by
    have := List.all_eq_true.1 hpl i (by simpa using hi)
    simpa using this)
  simp only [List.nil_append, List.length_nil] at h
  rw [h]
  rw [List.drop_append_of_le_length (by omega), List.drop_of_length_le (by omega), List.nil_append]
  exact fill_tail pre _ _ hpt rfl (by simp) (by simpa using hl)
end
end Go.Proofs.Ytncmcgcilijfkaa
namespace Go.Proofs.Ytncmcgcilijfkaa
open Go
section
variable {P : Program} {n : Nat} {σ : Nat → Value} {w : World}
  {ty : TypeId} {pos : String} {aft : Array Edge} {g : Option (Nat × Bool)} {d : Nat} {t : TypeId} {x : Operand}
/-- a piece of a slice of structs. -/
def Gl.cut {α : Type} (s : Gl α) (sz l h m : Nat) : Gl α := ⟨sa s.a l m sz, h - l, m - l, (s.l.drop l).take (h - l)⟩
theorem Gl.ok.cut {α : Type} {enc : α → List Value} {sz : Nat} {s : Gl α} (hs : s.ok enc sz w) {l h m : Nat} (h1 : l ≤ h) (h2 : h ≤ s.len) (h3 : h ≤ m) (h4 : m ≤ s.cap) : (s.cut sz l h m).ok enc sz w := by
  have hsz : ∀ c ∈ s.l.drop l, (enc c).length = sz := fun c hc => hs.sz c (List.mem_of_mem_drop hc)
  refine ⟨?_, ?_, by simp only [Gl.cut]; omega, by have := hs.mx; simp only [Gl.cut]; omega, fun c hc => hsz c (List.mem_of_mem_take hc)⟩
  · unfold Gl.cut
    simp only
    by_cases hml : m = l
    · have : (s.l.drop l).take (h - l) = [] := by rw [show h - l = 0 by omega, List.take_zero]
      rw [this]; exact .inl rfl
    · have e : sa s.a l m sz = s.a.map (·.add (l * sz)) := by unfold sa; rw [if_neg hml]
      rw [e, ← flat_take hsz, ← flat_drop hs.sz]
      exact (hs.rd.drop (l * sz)).take _
  · have := hs.ln
    simp only [Gl.cut, List.length_take, List.length_drop]; omega
theorem r_slG {α : Type} {sz : Nat} {lo hi mx : Option Operand} {s : Gl α} (l h m : Nat) {lv hv mv : Option Value} (hx : ev n σ x = s.v) (ht : eltOf P t = some sz)
    (hl : lo.map (ev n σ) = lv) (hh : hi.map (ev n σ) = hv) (hm : mx.map (ev n σ) = mv) (hb : ∀ w, (Instr.sliceBounds true s.len s.cap lv hv mv).run P w = .ok (l, h, m) w) :
    (execOp (ev n σ) ⟨some d, .slice t x lo hi mx, ty, pos, aft, g⟩).run P w = .ok (.value (s.cut sz l h m).v) w :=
  r_sl (P := P) (w := w) (d := d) (ty := ty) (pos := pos) (aft := aft) (g := g) hx ht hl hh hm hb
end
end Go.Proofs.Ytncmcgcilijfkaa
namespace Go.Proofs.Ytncmcgcilijfkaa
open Go Go.MapKept
set_option linter.unusedSectionVars false
section
variable {κ : Type} [DecidableEq κ]
def ment (kv : κ → Value) (x : κ × Value × Nat) : MapEntry := { key := kv x.1, val := x.2.1, born := x.2.2 }
def midx (k : κ) : List (κ × Value × Nat) → Nat → Option (Nat × Value)
  | [], _ => none
  | x :: L, i => if k = x.1 then some (i, x.2.1) else midx k L (i + 1)
/-- what stands under a key. -/
def mget (L : List (κ × Value × Nat)) (k : κ) : Option Value :=
  match L with
  | [] => none
  | x :: L => if k = x.1 then some x.2.1 else mget L k
def mput (k : κ) (v : Value) (c : Nat) : List (κ × Value × Nat) → List (κ × Value × Nat)
  | [] => [(k, v, c)]
  | x :: L => if k = x.1 then (k, v, x.2.2) :: L else x :: mput k v c L
def mclk (L : List (κ × Value × Nat)) (k : κ) (c : Nat) : Nat := if (mget L k).isSome then c else c + 1
def mdel (k : κ) : List (κ × Value × Nat) → List (κ × Value × Nat)
  | [] => []
  | x :: L => if k = x.1 then L else x :: mdel k L
structure MOk (L : List (κ × Value × Nat)) (c : Nat) : Prop where
  keys : (L.map (·.1)).Nodup
  born : (L.map (·.2.2)).Nodup
  old : ∀ x ∈ L, x.2.2 < c
omit [DecidableEq κ] in
theorem MOk.nil : MOk ([] : List (κ × Value × Nat)) 0 := ⟨List.nodup_nil, List.nodup_nil, fun _ h => by cases h⟩
theorem mget_put (k j : κ) (v : Value) (c : Nat) : ∀ L : List (κ × Value × Nat), mget (mput k v c L) j = if j = k then some v else mget L j
  | [] => by simp [mput, mget]
  | x :: L => by
    rw [mput]
    by_cases h : k = x.1
    · rw [if_pos h, mget, mget, ← h]; simp only
      by_cases hj : j = k <;> simp [hj]
    · rw [if_neg h, mget, mget, mget_put k j v c L]
      by_cases hj : j = x.1
      · rw [if_pos hj, if_pos hj, if_neg (fun e : j = k => h (e.symm.trans hj))]
      · rw [if_neg hj, if_neg hj]
theorem mget_none {L : List (κ × Value × Nat)} {k : κ} (h : ¬ k ∈ L.map (·.1)) : mget L k = none := by
  induction L with
  | nil => rfl
  | cons x L ih =>
    simp only [List.map_cons, List.mem_cons, not_or] at h
    rw [mget, if_neg h.1]; exact ih h.2
theorem mget_del (k j : κ) : ∀ L : List (κ × Value × Nat), (L.map (·.1)).Nodup → mget (mdel k L) j = if j = k then none else mget L j
  | [], _ => by simp [mdel, mget]
  | x :: L, hn => by
    rw [List.map_cons, List.nodup_cons] at hn
    rw [mdel]
    by_cases h : k = x.1
    · rw [if_pos h]
      by_cases hj : j = k
      · rw [if_pos hj, hj, h]; exact mget_none hn.1
      · rw [if_neg hj, mget, if_neg (fun e => hj (e.trans h.symm))]
    · rw [if_neg h, mget, mget, mget_del k j L hn.2]
      by_cases hj : j = x.1
      · rw [if_pos hj, if_pos hj, if_neg (fun e : j = k => h (e.symm.trans hj))]
      · rw [if_neg hj, if_neg hj]
theorem mput_keys (k : κ) (v : Value) (c : Nat) : ∀ (L : List (κ × Value × Nat)) (j : κ), j ∈ (mput k v c L).map (·.1) ↔ j = k ∨ j ∈ L.map (·.1)
  | [], j => by simp [mput]
  | x :: L, j => by
    rw [mput]
    by_cases h : k = x.1
    · rw [if_pos h]; simp [h]
    · rw [if_neg h, List.map_cons, List.mem_cons, mput_keys k v c L j, List.map_cons, List.mem_cons]
      constructor
      · rintro (h1 | h1 | h1) <;> simp [h1]
      · rintro (h1 | h1 | h1) <;> simp [h1]
theorem mput_born (k : κ) (v : Value) (c : Nat) : ∀ (L : List (κ × Value × Nat)) (x : κ × Value × Nat), x ∈ mput k v c L → x.2.2 = c ∧ mget L k = none ∨ ∃ y ∈ L, x.2.2 = y.2.2
  | [], x, h => by
    simp only [mput, List.mem_singleton] at h
    subst h; exact .inl ⟨rfl, rfl⟩
  | y :: L, x, h => by
    rw [mput] at h
    by_cases hk : k = y.1
    · rw [if_pos hk] at h
      rcases List.mem_cons.1 h with rfl | h
      · exact .inr ⟨y, List.mem_cons_self .., rfl⟩
      · exact .inr ⟨x, List.mem_cons_of_mem _ h, rfl⟩
    · rw [if_neg hk] at h
      rcases List.mem_cons.1 h with rfl | h
      · exact .inr ⟨x, List.mem_cons_self .., rfl⟩
      · rcases mput_born k v c L x h with ⟨h1, h2⟩ | ⟨z, hz, h2⟩
        · exact .inl ⟨h1, by rw [mget, if_neg hk]; exact h2⟩
        · exact .inr ⟨z, List.mem_cons_of_mem _ hz, h2⟩
theorem MOk.put {L : List (κ × Value × Nat)} {c : Nat} (h : MOk L c) (k : κ) (v : Value) : MOk (mput k v c L) (mclk L k c) := by
  refine ⟨?_, ?_, fun x hx => ?_⟩
  · have hk := h.keys
    clear h
    induction L with
    | nil => simp [mput]
    | cons x L ih =>
      rw [mput]
      rw [List.map_cons, List.nodup_cons] at hk
      by_cases e : k = x.1
      · rw [if_pos e, List.map_cons, List.nodup_cons]; exact ⟨by simp only; rw [e]; exact hk.1, hk.2⟩
      · rw [if_neg e, List.map_cons, List.nodup_cons]
        refine ⟨fun hm => ?_, ih hk.2⟩
        rcases (mput_keys k v c L x.1).1 hm with h1 | h1
        · exact e h1.symm
        · exact hk.1 h1
  · have hb := h.born
    have ho := h.old
    clear h
    induction L with
    | nil => simp [mput]
    | cons x L ih =>
      rw [mput]
      rw [List.map_cons, List.nodup_cons] at hb
      by_cases e : k = x.1
      · rw [if_pos e, List.map_cons, List.nodup_cons]; exact hb
      · rw [if_neg e, List.map_cons, List.nodup_cons]
        refine ⟨fun hm => ?_, ih hb.2 (fun y hy => ho y (List.mem_cons_of_mem _ hy))⟩
        obtain ⟨y, hy, he⟩ := List.mem_map.1 hm
        rcases mput_born k v c L y hy with ⟨h1, _⟩ | ⟨z, hz, h2⟩
        · have := ho x (List.mem_cons_self ..); omega
        · exact hb.1 (List.mem_map.2 ⟨z, hz, by rw [← h2, he]⟩)
  · unfold mclk
    rcases mput_born k v c L x hx with ⟨h1, h2⟩ | ⟨z, hz, h2⟩
    · rw [h2]; simp only [Option.isSome_none]; rw [if_neg (by decide)]; omega
    · have := h.old z hz
      split <;> omega
theorem MOk.del {L : List (κ × Value × Nat)} {c : Nat} (h : MOk L c) (k : κ) : MOk (mdel k L) c := by
  have hs : ∀ L : List (κ × Value × Nat), (mdel k L).Sublist L := by
    intro L
    induction L with
    | nil => exact List.Sublist.refl _
    | cons x L ih =>
      rw [mdel]; split
      · exact List.sublist_cons_self ..
      · exact ih.cons_cons _
  exact ⟨((hs L).map _).nodup h.keys, ((hs L).map _).nodup h.born, fun x hx => h.old x ((hs L).subset hx)⟩
/-- keys of a type: how they are found. -/
structure KeyOf (P : Program) (kt : TypeId) (kv : κ → Value) : Prop where
  chk : ∀ (e : Bool) (k : κ) (w : World), (Instr.checkKey e 10000 kt (kv k)).run P w = .ok () w
  fnd : ∀ (k : κ) (L : List (κ × Value × Nat)) (w : World), (Instr.findKey kt (kv k) (L.map (ment kv))).run P w = .ok (midx k L 0) w
  same : ∀ k, Instr.sameBits 10000 (kv k) (kv k) = true
theorem KeyOf.str {P : Program} {kt : TypeId} (hu : P.underlying kt = some .string) : KeyOf P kt (fun l : List UInt8 => Value.string ⟨l.toArray⟩) := by
  have hbe : ∀ a b : List UInt8, ((⟨a.toArray⟩ : ByteArray) == ⟨b.toArray⟩) = decide (a = b) := fun a b => by
    rw [Bool.eq_iff_iff, decide_eq_true_eq, bytes_beq]
    constructor
    · intro h; simpa using h
    · intro h; rw [h]
  refine ⟨fun e k w => ?_, fun k L w => ?_, fun k => ?_⟩
  · show (Instr.checkKey e (9999 + 1) kt _).run P w = _
    exact run_checkKey hu (by simp [IsKey]) e 9999
  · have : ∀ (L : List (List UInt8 × Value × Nat)) (i : Nat), Instr.findNow .string (Value.string ⟨k.toArray⟩) (L.map (ment fun l : List UInt8 => Value.string ⟨l.toArray⟩)) i = some (midx k L i) := by
      intro L
      induction L with
      | nil => intro i; rfl
      | cons x L ih =>
        intro i
        have e : Instr.sameNow .string (Value.string ⟨k.toArray⟩) (Value.string ⟨x.1.toArray⟩) = some (decide (k = x.1)) := by rw [Instr.sameNow, hbe]
        rw [List.map_cons, Instr.findNow]
        show (match Instr.sameNow .string (Value.string ⟨k.toArray⟩) (Value.string ⟨x.1.toArray⟩) with | some true => _ | some false => _ | none => _) = _
        rw [e, midx]
        by_cases h : k = x.1
        · rw [decide_eq_true h, if_pos h]; rfl
        · rw [decide_eq_false h, if_neg h]; exact ih (i + 1)
    exact run_findKey hu (this L 0)
  · exact sameBits_self (d := .string) (by simp [IsKey]) _
/-- .. where they are asked by the operator. -/
theorem findAsking_ask {P : Program} {kt : TypeId} {kv : κ → Value} {w : World} (he : ∀ k j : κ, (Op.equal kt (kv k) (kv j)).run P w = .ok (decide (k = j)) w) (k : κ) : ∀ (L : List (κ × Value × Nat)) (i : Nat), (Instr.findAsking kt (kv k) (L.map (ment kv)) i).run P w = .ok (midx k L i) w
  | [], i => rfl
  | x :: L, i => by
    rw [List.map_cons, Instr.findAsking, Sem.run_bind]
    show ((Op.equal kt (kv k) (kv x.1)).run P w).andThen _ = _
    rw [he, midx]
    by_cases h : k = x.1
    · rw [decide_eq_true h, if_pos h]; rfl
    · rw [decide_eq_false h, if_neg h]; exact findAsking_ask he k L (i + 1)
theorem KeyOf.ask {P : Program} {kt : TypeId} {kv : κ → Value} (hwide : (match P.underlying kt with | some (.array _ _) | some (.struct _) => true | _ => false) = true) (hc : ∀ (e : Bool) (k : κ) (w : World), (Instr.checkKey e 10000 kt (kv k)).run P w = .ok () w)
    (he : ∀ (k j : κ) (w : World), (Op.equal kt (kv k) (kv j)).run P w = .ok (decide (k = j)) w) (hs : ∀ k, Instr.sameBits 10000 (kv k) (kv k) = true) : KeyOf P kt kv :=
  ⟨hc, fun k L w => by rw [run_findKey_eq w hwide]; exact findAsking_ask (fun a b => he a b w) k L 0, hs⟩
/-- a map's block. -/
def mobj (kv : κ → Value) (L : List (κ × Value × Nat)) (c : Nat) : Obj := .map (L.map (ment kv)).toArray c
theorem midx_get (k : κ) : ∀ (L : List (κ × Value × Nat)) (i : Nat), (midx k L i).map (·.2) = mget L k
  | [], _ => rfl
  | x :: L, i => by
    rw [midx, mget]
    by_cases h : k = x.1
    · rw [if_pos h, if_pos h]; rfl
    · rw [if_neg h, if_neg h]; exact midx_get k L (i + 1)
end
section
variable {κ : Type} [DecidableEq κ] {P : Program} {Q : Exit → Act → World → Prop} {n : Nat} {σ : Nat → Value} {w w0 : World} {K : Act → World → Prop}
  {ty : TypeId} {pos : String} {aft : Array Edge} {g : Option (Nat × Bool)} {d : Nat} {t kt et : TypeId} {x y : Operand} {S : List Nat} {L : List Ch}
/-- 'make' of a map. -/
theorem o_mmake (kv : κ → Value) (H : Hp w0 w S L) (h : ∀ b w', Hp w0 w' S (L ++ [.obj b (mobj kv [] 0)]) → w0.heap.size ≤ b → K (mk n (up σ d (.map (some b)))) w') : Oper.wp P ⟨some d, .makeMap t none, ty, pos, aft, g⟩ (mk n σ) w K Q := by
  refine o_val (v := .map (some w.heap.size)) (w' := w.alloc (.map #[] 0)) ?_ (h w.heap.size _ (H.new _ (.obj w.heap.size (mobj kv [] 0)) rfl (heap_alloc_new' w _)) H.size)
  rfl
/-- a look-up. -/
theorem r_look {kv : κ → Value} {M : List (κ × Value × Nat)} {c i b : Nat} {k : κ} {z : Value} (H : Hp w0 w S L) (hi : L[i]? = some (.obj b (mobj kv M c))) (hu : P.underlying t = some (.map kt et)) (hK : KeyOf P kt kv) (hz : ∀ w, (zeroValue et).run P w = .ok z w)
    (hx : ev n σ x = .map (some b)) (hy : ev n σ y = kv k) (ok : Bool) :
    (execOp (ev n σ) ⟨some d, .lookup t x y ok, ty, pos, aft, g⟩).run P w = .ok (.value (if ok then .tuple #[(mget M k).getD z, .bool (mget M k).isSome] else (mget M k).getD z)) w := by
  have hb : w.heap[b]? = some (.map (M.map (ment kv)).toArray c) := H.has _ (List.mem_of_getElem? hi)
  have hg : (Instr.lookup t (.map (some b)) (kv k) ok).run P w = .ok (if ok then .tuple #[(mget M k).getD z, .bool (mget M k).isSome] else (mget M k).getD z) w := by
    unfold Instr.lookup
    simp only [Sem.run_bind, run_underlying hu, Result.andThen_ok, MapKept.run_getObj_map hb, hK.chk]
    have hf := hK.fnd k M w
    rw [← midx_get k M 0]
    cases hm : midx k M 0 with
    | none => rw [hm] at hf; cases ok <;> simp [hf, hz]
    | some r => rw [hm] at hf; cases ok <;> simp [hf]
  simp only [execOp, hx, hy, Sem.run_bind, hg, Result.andThen_ok]
  rfl
theorem keyStays (k : κ) {kv : κ → Value} (hK : KeyOf P kt kv) : (Instr.keyThatStays (kv k) (kv k)).run P w = .ok (kv k) w := by
  unfold Instr.keyThatStays
  rw [if_pos (hK.same k)]; rfl
theorem midx_some {k : κ} : ∀ {M : List (κ × Value × Nat)} {i j : Nat} {v : Value}, midx k M i = some (j, v) → ∃ x m, j = i + m ∧ M[m]? = some x ∧ x.1 = k ∧ x.2.1 = v
  | [], _, _, _, h => by cases h
  | x :: M, i, j, v, h => by
    rw [midx] at h
    by_cases hk : k = x.1
    · rw [if_pos hk] at h; cases h; exact ⟨x, 0, rfl, rfl, hk.symm, rfl⟩
    · rw [if_neg hk] at h
      obtain ⟨y, m, h1, h2, h3⟩ := midx_some h
      exact ⟨y, m + 1, by omega, h2, h3⟩
theorem mput_none {k : κ} {v : Value} {c : Nat} : ∀ {M : List (κ × Value × Nat)} {i : Nat}, midx k M i = none → mput k v c M = M ++ [(k, v, c)] ∧ mget M k = none
  | [], _, _ => ⟨rfl, rfl⟩
  | x :: M, i, h => by
    rw [midx] at h
    by_cases hk : k = x.1
    · rw [if_pos hk] at h; cases h
    · rw [if_neg hk] at h
      obtain ⟨h1, h2⟩ := mput_none (v := v) (c := c) h
      rw [mput, if_neg hk, h1, mget, if_neg hk]; exact ⟨rfl, h2⟩
theorem mput_some {kv : κ → Value} {k : κ} {v u : Value} {c : Nat} : ∀ {M : List (κ × Value × Nat)} {i j : Nat}, midx k M i = some (j, u) → ((M.map (ment kv)).modify (j - i) fun e => { e with key := kv k, val := v }) = (mput k v c M).map (ment kv) ∧ mget M k = some u ∧ i ≤ j
  | [], _, _, h => by cases h
  | x :: M, i, j, h => by
    rw [midx] at h
    by_cases hk : k = x.1
    · rw [if_pos hk] at h; cases h
      rw [mput, if_pos hk, mget, if_pos hk, Nat.sub_self]
      exact ⟨by simp [ment], rfl, Nat.le_refl _⟩
    · rw [if_neg hk] at h
      obtain ⟨h1, h2, h3⟩ := mput_some (kv := kv) (v := v) (c := c) h
      rw [mput, if_neg hk, mget, if_neg hk]
      refine ⟨?_, h2, by omega⟩
      rw [show j - i = (j - (i + 1)) + 1 by omega, List.map_cons, List.modify_succ_cons, h1, List.map_cons]
/-- 'm[k] = v'. -/
theorem o_mput {kv : κ → Value} {M : List (κ × Value × Nat)} {c i b : Nat} {k : κ} {v : Value} {z : Operand} (H : Hp w0 w S L) (hi : L[i]? = some (.obj b (mobj kv M c))) (hu : P.underlying t = some (.map kt et)) (hK : KeyOf P kt kv)
    (hx : ev n σ x = .map (some b)) (hy : ev n σ y = kv k) (hv : ev n σ z = v) (h : ∀ w', Hp w0 w' S (L.set i (.obj b (mobj kv (mput k v c M) (mclk M k c)))) → K (mk n σ) w') :
    Oper.wp P ⟨none, .mapUpdate t x y z, ty, pos, aft, g⟩ (mk n σ) w K Q := by
  have hb : w.heap[b]? = some (.map (M.map (ment kv)).toArray c) := H.has _ (List.mem_of_getElem? hi)
  have hset := heap_set (o' := mobj kv (mput k v c M) (mclk M k c)) hb
  have hg : (Instr.mapUpdate t (.map (some b)) (kv k) v).run P w = .ok () { w with heap := w.heap.setIfInBounds b (mobj kv (mput k v c M) (mclk M k c)) } := by
    unfold Instr.mapUpdate
    simp only [Sem.run_bind, run_underlying hu, Result.andThen_ok, MapKept.run_getObj_map hb, hK.chk]
    have hf := hK.fnd k M w
    cases hm : midx k M 0 with
    | none =>
      rw [hm] at hf
      obtain ⟨h1, h2⟩ := mput_none (v := v) (c := c) hm
      have e : mobj kv (mput k v c M) (mclk M k c) = .map ((M.map (ment kv)).toArray.push { key := kv k, val := v, born := c }) (c + 1) := by
        rw [mobj, h1, mclk, h2]; simp [ment]
      rw [e]
      simp [hf, MapKept.run_setObj_map _ hb]
    | some r =>
      obtain ⟨j, u⟩ := r
      rw [hm] at hf
      obtain ⟨h1, h2, _⟩ := mput_some (kv := kv) (v := v) (c := c) hm
      obtain ⟨xx, m, hj, hM, hk1, _⟩ := midx_some hm
      rw [Nat.sub_zero] at h1
      have hjm : j = m := by omega
      subst hjm
      have e : mobj kv (mput k v c M) (mclk M k c) = .map ((M.map (ment kv)).toArray.modify j fun e => { e with key := kv k, val := v }) c := by
        rw [mobj, ← h1, mclk, h2]; simp
      have hold : (((M.map (ment kv)).toArray[j]?).map (·.key)).getD (kv k) = kv k := by
        simp [hM, ment, hk1]
      have hst := keyStays (w := w) k hK
      rw [e]
      simp only [hf, Result.andThen_ok]
      rw [Sem.run_bind, hold, hst, Result.andThen_ok, MapKept.run_setObj_map _ hb]
  refine o_skip (w' := { w with heap := w.heap.setIfInBounds b (mobj kv (mput k v c M) (mclk M k c)) }) ?_ (h _ ?_)
  · simp only [execOp, hx, hy, hv, Sem.run_bind, hg, Result.andThen_ok]; rfl
  · refine H.turn hi (c' := .obj b (mobj kv (mput k v c M) (mclk M k c))) hset.1 (fun b' hb' => .inl hb') rfl rfl rfl (by simp) (fun b' _ hne => ?_)
    exact hset.2 b' (fun e => hne (by rw [e]; rfl))
end
end Go.Proofs.Ytncmcgcilijfkaa
namespace Go.Proofs.Ytncmcgcilijfkaa
open Go Go.MapKept
set_option linter.unusedSectionVars false
section
variable {κ : Type} [DecidableEq κ] {P : Program} {Q : Exit → Act → World → Prop} {n : Nat} {σ : Nat → Value} {w w0 : World} {K : Act → World → Prop}
  {ty : TypeId} {pos : String} {aft : Array Edge} {g : Option (Nat × Bool)} {d : Nat} {t kt et : TypeId} {x y : Operand} {S : List Nat} {L : List Ch}
theorem o_valN {op : Op} {v : Value} {w' : World} (hrun : (execOp (ev n σ) ⟨none, op, ty, pos, aft, g⟩).run P w = .ok (.value v) w')
    (h : K (mk n σ) w') : Oper.wp P ⟨none, op, ty, pos, aft, g⟩ (mk n σ) w K Q := by
  unfold Oper.wp
  rw [mk_evalf, hrun, Oper.upon_value]
  exact h
theorem Hp.mset {kv : κ → Value} {M M' : List (κ × Value × Nat)} {c c' i b : Nat} (H : Hp w0 w S L) (hi : L[i]? = some (.obj b (mobj kv M c))) : Hp w0 { w with heap := w.heap.setIfInBounds b (mobj kv M' c') } S (L.set i (.obj b (mobj kv M' c'))) := by
  have hb : w.heap[b]? = some (.map (M.map (ment kv)).toArray c) := H.has _ (List.mem_of_getElem? hi)
  have hset := heap_set (o' := mobj kv M' c') hb
  refine H.turn hi (c' := .obj b (mobj kv M' c')) hset.1 (fun b' hb' => .inl hb') rfl rfl rfl (by simp) (fun b' _ hne => ?_)
  exact hset.2 b' (fun e => hne (by rw [e]; rfl))
theorem mdel_none {k : κ} : ∀ {M : List (κ × Value × Nat)} {i : Nat}, midx k M i = none → mdel k M = M
  | [], _, _ => rfl
  | x :: M, i, h => by
    rw [midx] at h
    by_cases hk : k = x.1
    · rw [if_pos hk] at h; cases h
    · rw [if_neg hk] at h; rw [mdel, if_neg hk, mdel_none h]
theorem mdel_some {kv : κ → Value} {k : κ} {u : Value} : ∀ {M : List (κ × Value × Nat)} {i j : Nat}, midx k M i = some (j, u) → (M.map (ment kv)).eraseIdx (j - i) = (mdel k M).map (ment kv) ∧ i ≤ j
  | [], _, _, h => by cases h
  | x :: M, i, j, h => by
    rw [midx] at h
    by_cases hk : k = x.1
    · rw [if_pos hk] at h; cases h
      rw [mdel, if_pos hk, Nat.sub_self]
      exact ⟨rfl, Nat.le_refl _⟩
    · rw [if_neg hk] at h
      obtain ⟨h1, h3⟩ := mdel_some (kv := kv) h
      rw [mdel, if_neg hk]
      refine ⟨?_, by omega⟩
      rw [show j - i = (j - (i + 1)) + 1 by omega, List.map_cons, List.eraseIdx_cons_succ, h1, List.map_cons]
/-- 'delete(m, k)'. -/
theorem o_mdel {kv : κ → Value} {M : List (κ × Value × Nat)} {c i b : Nat} {k : κ} (H : Hp w0 w S L) (hi : L[i]? = some (.obj b (mobj kv M c))) (hu : P.underlying t = some (.map kt et)) (hK : KeyOf P kt kv)
    (hx : ev n σ x = .map (some b)) (hy : ev n σ y = kv k) {kt' : TypeId} (h : ∀ w', Hp w0 w' S (L.set i (.obj b (mobj kv (mdel k M) c))) → K (mk n σ) w') :
    Oper.wp P ⟨none, .call ⟨.builtin .delete, #[x, y], #[t, kt']⟩, ty, pos, aft, g⟩ (mk n σ) w K Q := by
  have hb : w.heap[b]? = some (.map (M.map (ment kv)).toArray c) := H.has _ (List.mem_of_getElem? hi)
  have hargs : (#[x, y] : Array Operand).map (ev n σ) = #[.map (some b), kv k] := by simp [hx, hy]
  have hg : (Builtin.delete_ #[t, kt'] ty #[.map (some b), kv k]).run P w = .ok (.tuple #[]) { w with heap := w.heap.setIfInBounds b (mobj kv (mdel k M) c) } := by
    unfold Builtin.delete_
    have hf := hK.fnd k M w
    cases hm : midx k M 0 with
    | none =>
      rw [hm] at hf
      have e := mdel_none hm
      rw [e]
      simp [run_underlying hu, MapKept.run_getObj_map hb, hK.chk, hf, MapKept.run_setObj_map _ hb, mobj]
    | some r =>
      obtain ⟨j, u⟩ := r
      rw [hm] at hf
      obtain ⟨h1, _⟩ := mdel_some (kv := kv) hm
      obtain ⟨xx, m, hj, hM, _, _⟩ := midx_some hm
      rw [Nat.sub_zero] at h1
      have e : mobj kv (mdel k M) c = .map ((M.map (ment kv)).toArray.eraseIdxIfInBounds j) c := by
        rw [mobj, ← h1]; simp
      rw [e]
      simp [run_underlying hu, MapKept.run_getObj_map hb, hK.chk, hf, MapKept.run_setObj_map _ hb]
  exact o_valN (run_builtin (s := Builtin.delete_ #[t, kt'] ty #[.map (some b), kv k]) (vs := #[.map (some b), kv k]) hargs (fun _ => rfl) hg) (h _ (H.mset hi))
/-- an entry's stamp. -/
def mborn (M : List (κ × Value × Nat)) (k : κ) : Nat :=
  match M with
  | [] => 0
  | x :: M => if k = x.1 then x.2.2 else mborn M k
theorem mborn_mem {k : κ} : ∀ {M : List (κ × Value × Nat)}, (mget M k).isSome = true → mborn M k ∈ M.map (·.2.2)
  | [], h => by cases h
  | x :: M, h => by
    rw [mget] at h
    rw [mborn]
    by_cases hk : k = x.1
    · rw [if_pos hk]; exact List.mem_cons_self ..
    · rw [if_neg hk] at h ⊢; exact List.mem_cons_of_mem _ (mborn_mem h)
theorem mset_idx {kv : κ → Value} {k : κ} {v : Value} {c : Nat} : ∀ {M : List (κ × Value × Nat)}, (M.map (·.2.2)).Nodup → (mget M k).isSome = true →
    ∃ j, (M.map (ment kv)).findIdx? (fun e => (e.born : Int) == ((mborn M k : Nat) : Int)) = some j ∧ (M.map (ment kv)).modify j (fun e => { e with val := v }) = (mput k v c M).map (ment kv)
  | [], _, h => by cases h
  | x :: M, hn, h => by
    rw [List.map_cons, List.nodup_cons] at hn
    rw [mget] at h
    rw [mborn, mput]
    by_cases hk : k = x.1
    · rw [if_pos hk, if_pos hk]
      exact ⟨0, by simp [ment, List.findIdx?_cons], by simp [ment, hk]⟩
    · rw [if_neg hk] at h
      rw [if_neg hk, if_neg hk]
      obtain ⟨j, h1, h2⟩ := mset_idx (kv := kv) (v := v) (c := c) hn.2 h
      have hne : ¬ ((x.2.2 : Int) = ((mborn M k : Nat) : Int)) := fun e => hn.1 (by have : x.2.2 = mborn M k := by omega
                                                                                    rw [this]; exact mborn_mem h)
      refine ⟨j + 1, ?_, by rw [List.map_cons, List.modify_succ_cons, h2, List.map_cons]⟩
      rw [List.map_cons, List.findIdx?_cons, h1]
      simp [ment, hne]
theorem mborn_put {k : κ} {v : Value} {c : Nat} : ∀ {M : List (κ × Value × Nat)}, (mborn (mput k v c M) k = if (mget M k).isSome then mborn M k else c) ∧ (mget (mput k v c M) k).isSome = true
  | [] => by simp [mput, mborn, mget]
  | x :: M => by
    rw [mput, mget]
    by_cases hk : k = x.1
    · rw [if_pos hk, if_pos hk]; simp [mborn, mget, hk]
    · rw [if_neg hk, if_neg hk]
      obtain ⟨h1, h2⟩ := mborn_put (k := k) (v := v) (c := c) (M := M)
      rw [mborn, if_neg hk, h1, mborn, if_neg hk, mget, if_neg hk]
      exact ⟨rfl, h2⟩
theorem midx_born {kv : κ → Value} {k : κ} {u : Value} : ∀ {M : List (κ × Value × Nat)} {i j : Nat}, midx k M i = some (j, u) → (((M.map (ment kv))[j - i]?).map (·.born)).getD 0 = mborn M k
  | [], _, _, h => by cases h
  | x :: M, i, j, h => by
    have h0 := h
    rw [midx] at h
    by_cases hk : k = x.1
    · rw [if_pos hk] at h; cases h
      rw [mborn, if_pos hk, Nat.sub_self]; simp [ment]
    · rw [if_neg hk] at h
      have h3 := (mdel_some (kv := kv) h).2
      rw [mborn, if_neg hk, ← midx_born (kv := kv) h, show j - i = (j - (i + 1)) + 1 by omega, List.map_cons, List.getElem?_cons_succ]
/-- an entry is there, or is made. -/
theorem o_ment {kv : κ → Value} {M : List (κ × Value × Nat)} {c i b : Nat} {k : κ} {z : Value} (H : Hp w0 w S L) (hi : L[i]? = some (.obj b (mobj kv M c))) (hu : P.underlying t = some (.map kt et)) (hK : KeyOf P kt kv) (hz : ∀ w, (zeroValue et).run P w = .ok z w)
    (hx : ev n σ x = .map (some b)) (hy : ev n σ y = kv k) (h : ∀ w', Hp w0 w' S (L.set i (.obj b (mobj kv (mput k ((mget M k).getD z) c M) (mclk M k c)))) → K (mk n (up σ d (.tuple #[(mget M k).getD z, VI ((mborn (mput k ((mget M k).getD z) c M) k : Nat) : Int)]))) w') :
    Oper.wp P ⟨some d, .mapEntry t x y, ty, pos, aft, g⟩ (mk n σ) w K Q := by
  have hb : w.heap[b]? = some (.map (M.map (ment kv)).toArray c) := H.has _ (List.mem_of_getElem? hi)
  have hg : (Instr.mapEntry t (.map (some b)) (kv k)).run P w = .ok (.tuple #[(mget M k).getD z, VI ((mborn (mput k ((mget M k).getD z) c M) k : Nat) : Int)]) { w with heap := w.heap.setIfInBounds b (mobj kv (mput k ((mget M k).getD z) c M) (mclk M k c)) } := by
    rw [mborn_put.1]
    unfold Instr.mapEntry
    simp only [Sem.run_bind, run_underlying hu, Result.andThen_ok, MapKept.run_getObj_map hb, hK.chk]
    have hf := hK.fnd k M w
    cases hm : midx k M 0 with
    | none =>
      rw [hm] at hf
      obtain ⟨h1, h2⟩ := mput_none (v := (mget M k).getD z) (c := c) hm
      have e : mobj kv (mput k ((mget M k).getD z) c M) (mclk M k c) = .map ((M.map (ment kv)).toArray.push { key := kv k, val := z, born := c }) (c + 1) := by
        rw [mobj, h1, mclk, h2]; simp [ment]
      rw [e, h2]
      simp [hf, hz, MapKept.run_setObj_map _ hb, goInt]
    | some r =>
      obtain ⟨j, u⟩ := r
      rw [hm] at hf
      obtain ⟨h1, h2, _⟩ := mput_some (kv := kv) (v := u) (c := c) hm
      have hbn := midx_born (kv := kv) hm
      obtain ⟨xx, m, hj, hM, hk1, hk2⟩ := midx_some hm
      rw [Nat.sub_zero] at h1 hbn
      have hjm : j = m := by omega
      subst hjm
      have e : mobj kv (mput k ((mget M k).getD z) c M) (mclk M k c) = .map ((M.map (ment kv)).toArray.modify j fun e => { e with key := kv k }) c := by
        rw [h2, Option.getD_some, mobj, ← h1, mclk, h2]
        simp only [Option.isSome_some, if_true, List.modify_toArray]
        congr 2
        apply List.ext_getElem?
        intro q
        rw [List.getElem?_modify, List.getElem?_modify]
        by_cases hq : j = q
        · subst hq; simp [hM, ment, hk2]
        · simp [hq]
      have hold : (((M.map (ment kv)).toArray[j]?).map (·.key)).getD (kv k) = kv k := by
        simp [hM, ment, hk1]
      have hst := keyStays (w := w) k hK
      have hbn' : (((M.map (ment kv)).toArray[j]?).map (fun x => (x.born : Int))).getD 0 = ((mborn M k : Nat) : Int) := by rw [← hbn]; simp [hM]
      rw [e, h2]
      simp only [hf, Result.andThen_ok]
      rw [Sem.run_bind, hold, hst, Result.andThen_ok, Sem.run_bind, MapKept.run_setObj_map _ hb, Result.andThen_ok, hbn']
      rfl
  refine o_val (v := .tuple #[(mget M k).getD z, VI ((mborn (mput k ((mget M k).getD z) c M) k : Nat) : Int)]) (w' := { w with heap := w.heap.setIfInBounds b (mobj kv (mput k ((mget M k).getD z) c M) (mclk M k c)) }) ?_ (h _ (H.mset hi))
  simp only [execOp, hx, hy, Sem.run_bind, hg, Result.andThen_ok]; rfl
/-- the entry of a stamp gets a value. -/
theorem o_mset {kv : κ → Value} {M : List (κ × Value × Nat)} {c c' i b : Nat} {k : κ} {v : Value} {z : Operand} (H : Hp w0 w S L) (hi : L[i]? = some (.obj b (mobj kv M c))) (hM : MOk M c) (hs : (mget M k).isSome = true)
    (hx : ev n σ x = .map (some b)) (hy : ev n σ y = VI ((mborn M k : Nat) : Int)) (hv : ev n σ z = v) (h : ∀ w', Hp w0 w' S (L.set i (.obj b (mobj kv (mput k v c' M) c))) → K (mk n σ) w') :
    Oper.wp P ⟨none, .entryStore t x y z, ty, pos, aft, g⟩ (mk n σ) w K Q := by
  have hb : w.heap[b]? = some (.map (M.map (ment kv)).toArray c) := H.has _ (List.mem_of_getElem? hi)
  obtain ⟨j, h1, h2⟩ := mset_idx (kv := kv) (v := v) (c := c') hM.born hs
  have hg : (Instr.entryStore t (.map (some b)) (VI ((mborn M k : Nat) : Int)) v).run P w = .ok () { w with heap := w.heap.setIfInBounds b (mobj kv (mput k v c' M) c) } := by
    have e : mobj kv (mput k v c' M) c = .map ((M.map (ment kv)).toArray.modify j fun e => { e with val := v }) c := by rw [mobj, ← h2]; simp
    unfold Instr.entryStore
    rw [e]
    have h1' : (M.map (ment kv)).toArray.findIdx? (fun e => (e.born : Int) == ((mborn M k : Nat) : Int)) = some j := by simpa using h1
    simp [MapKept.run_getObj_map hb, asInt, asIntOf, h1', MapKept.run_setObj_map _ hb]
  exact o_skip (w' := { w with heap := w.heap.setIfInBounds b (mobj kv (mput k v c' M) c) }) (by simp only [execOp, hx, hy, hv, Sem.run_bind, hg, Result.andThen_ok]; rfl) (h _ (H.mset hi))
end
end Go.Proofs.Ytncmcgcilijfkaa
namespace Go.Proofs.Ytncmcgcilijfkaa
open Go
theorem Hp.callAt2 {w0 w w' : World} {S : List Nat} {L : List Ch} (h : Hp w0 w S L) {i j bi bj : Nat} {ci cj ci' cj' : Ch} (hi : L[i]? = some ci) (hj : L[j]? = some cj) (hij : i ≠ j) (ki : ci.key = some bi) (kj : cj.key = some bj) (ki' : ci'.key = some bi) (kj' : cj'.key = some bj)
    (hc : Hp w w' [bi, bj] [ci', cj']) : Hp w0 w' S ((L.set i ci').set j cj') := by
  have hb : bi ≠ bj := fun e => pw_ne h.nd hi hj hij ki (by rw [kj, e])
  have hjlt := Ch.lt (h.has cj (List.mem_of_getElem? hj)) kj
  have hsz := hc.size
  obtain ⟨o, ho⟩ : ∃ o, w.heap[bj]? = some o := ⟨_, Array.getElem?_eq_getElem hjlt⟩
  have e1 : ({ w' with heap := w'.heap.setIfInBounds bj o } : World).heap[bj]? = some o := by
    have : bj < w'.heap.size := Nat.lt_of_lt_of_le hjlt hsz
    simp [this]
  have e2 : ∀ b, b ≠ bj → ({ w' with heap := w'.heap.setIfInBounds bj o } : World).heap[b]? = w'.heap[b]? := fun b hne => by simp [Ne.symm hne]
  have h1 : Hp w0 { w' with heap := w'.heap.setIfInBounds bj o } S (L.set i ci') := by
    refine h.turn hi (Ch.ok_of (hc.has ci' (by simp)) fun b hb' => ?_) (fun b hb' => .inl (by rw [ki]; rw [ki'] at hb'; exact hb')) hc.os hc.tape hc.output (by simpa using hsz) (fun b hlt hne => ?_)
    · rw [ki'] at hb'; cases hb'; exact e2 _ hb
    · by_cases hbj : b = bj
      · subst hbj; rw [e1, ho]
      · rw [e2 b hbj]
        refine hc.frame b hlt ?_
        simp only [List.mem_cons, List.not_mem_nil, or_false, not_or]
        exact ⟨fun e => hne (by rw [ki, e]), hbj⟩
  have hj' : (L.set i ci')[j]? = some cj := by rw [List.getElem?_set_ne hij]; exact hj
  exact h1.turn hj' (hc.has cj' (by simp)) (fun b hb' => .inl (by rw [kj]; rw [kj'] at hb'; exact hb')) rfl rfl rfl (by simp) (fun b _ hne => (e2 b (fun e => hne (by rw [kj, e]))).symm)
end Go.Proofs.Ytncmcgcilijfkaa
namespace Go.Proofs.Ytncmcgcilijfkaa
open Go
/-- 32 bytes. -/
abbrev Id32 := { l : List UInt8 // l.length = 32 }
section
variable {P : Program} {Q : Exit → Act → World → Prop} {n : Nat} {σ : Nat → Value} {w w0 : World} {K : Act → World → Prop}
  {ty : TypeId} {pos : String} {aft : Array Edge} {g : Option (Nat × Bool)} {d : Nat} {t e k' yt : TypeId} {x y : Operand} {S : List Nat} {L : List Ch}
theorem r_strlt {a b : List UInt8} (hx : ev n σ x = .string ⟨a.toArray⟩) (hy : ev n σ y = .string ⟨b.toArray⟩) :
    (execOp (ev n σ) ⟨some d, .binOp .lss t x y yt, ty, pos, aft, g⟩).run P w = .ok (.value (.bool (Op.bytesLess a b))) w :=
  r_str hx hy (fun w => by simp only [Op.stringOp, ba_toList]; rfl) (by decide)
end
end Go.Proofs.Ytncmcgcilijfkaa
namespace Go.Proofs.Ytncmcgcilijfkaa
open Go Go.MapKept
set_option maxRecDepth 100000
def kS (l : List UInt8) : Value := .string ⟨l.toArray⟩
theorem keyS : KeyOf Try.prog 9 kS := KeyOf.str (by kernel_rfl)
def kT (p : List UInt8 × Id32) : Value := .agg ([kS p.1] ++ p.2.1.map V8).toArray
theorem chk_u8s (e : Bool) (l : List UInt8) (hl : l.length = 32) (w : World) (n : Nat) : (Instr.checkKey e (n + 2) 36 (.agg (l.map V8).toArray)).run Try.prog w = .ok () w := by
  obtain ⟨i, hi⟩ : ∃ i, Try.prog.info? 5 = some i := info_of_underlying (by kernel_rfl : Try.prog.underlying 5 = some (.int .u8))
  have hs : Try.prog.cellsOf 5 = 1 := by kernel_rfl
  rw [show n + 2 = (n + 1) + 1 from rfl, Instr.checkKey]
  simp only [Sem.run_bind, run_underlying (by kernel_rfl : Try.prog.underlying 36 = some (.array 32 5)), Result.andThen_ok]
  simp only [Std.Legacy.Range.forIn_eq_forIn_range', Std.Legacy.Range.size, Nat.sub_zero, Nat.add_one_sub_one, Nat.div_one]
  have each : ∀ j ∈ List.range' 0 32, j < 32 := by intro j hj; simpa using hj
  generalize List.range' 0 32 = is at each
  induction is with
  | nil => simp
  | cons j is ih =>
    have hj := each j (by simp)
    have p1 : (part 5 (l.map V8).toArray (j * Try.prog.cellsOf 5)).run Try.prog w = .ok (V8 (l.getD j 0)) w := by
      rw [hs, Nat.mul_one]
      exact part_cell (by kernel_rfl) (by rw [List.getElem?_toArray, Sl.get l j (by omega)])
    have p2 : (Instr.checkKey e (n + 1) 5 (V8 (l.getD j 0))).run Try.prog w = .ok () w := run_checkKey (d := .int .u8) (by kernel_rfl) (by simp [IsKey]) e n
    simp only [List.forIn_cons, Sem.run_bind, run_sizeOf w hi, Result.andThen_ok, p1, p2, Sem.run_pure]
    exact ih (fun y hy => each y (by simp [hy]))
theorem tT : ∃ f g : Field, Try.prog.underlying 88 = some (.struct #[f, g]) ∧ f.name = "tenant" ∧ f.type = 9 ∧ f.offset = 0 ∧ g.name = "of" ∧ g.type = 36 ∧ g.offset = 1 := ⟨_, _, Try.underlying88, rfl, rfl, rfl, rfl, rfl, rfl⟩
theorem chkT (e : Bool) (p : List UInt8 × Id32) (w : World) : (Instr.checkKey e 10000 88 (kT p)).run Try.prog w = .ok () w := by
  obtain ⟨f, g, hu, f1, f2, f3, g1, g2, g3⟩ := tT
  show (Instr.checkKey e (9999 + 1) 88 (.agg _)).run Try.prog w = _
  have p1 : (part 9 ([kS p.1] ++ p.2.1.map V8).toArray 0).run Try.prog w = .ok (kS p.1) w := part_cell (by kernel_rfl) rfl
  have p2 : (part 36 ([kS p.1] ++ p.2.1.map V8).toArray 1).run Try.prog w = .ok (.agg (p.2.1.map V8).toArray) w := by
    rw [part_row (k := 32) (by kernel_rfl)]
    congr 2
    apply Array.ext'
    rw [Array.toList_extract]
    simp [List.extract]
    exact List.take_of_length_le (by simp [p.2.2])
  have c1 : (Instr.checkKey e 9999 9 (kS p.1)).run Try.prog w = .ok () w := run_checkKey (d := .string) (by kernel_rfl) (by simp [IsKey, kS]) e 9998
  have c2 := chk_u8s e p.2.1 p.2.2 w 9997
  rw [Instr.checkKey]
  simp only [Sem.run_bind, run_underlying hu, Result.andThen_ok]
  rw [List.singleton_append] at p1 p2
  simp [f1, f2, f3, g1, g2, g3, p1, p2, c1, c2]
theorem eqT (p q : List UInt8 × Id32) (w : World) : (Op.equal 88 (kT p) (kT q)).run Try.prog w = .ok (decide (p = q)) w := by
  refine eqS_of Try.underlying88 (by kernel_rfl) ?_
  have hb : (decide (p.1 = q.1) && (decide (p.2.1 = q.2.1) && true)) = decide (p = q) := by
    rw [Bool.eq_iff_iff]
    simp only [Bool.and_eq_true, decide_eq_true_eq, and_true]
    constructor
    · rintro ⟨h1, h2⟩; exact Prod.ext h1 (Subtype.ext h2)
    · rintro rfl; exact ⟨rfl, rfl⟩
  have ha : ∀ x : List UInt8 × Id32, (part 36 ([kS x.1] ++ x.2.1.map V8).toArray 1).run Try.prog w = .ok (.agg (x.2.1.map V8).toArray) w := by
    intro x
    rw [part_row (k := 32) (by kernel_rfl)]
    congr 2
    apply Array.ext'
    rw [Array.toList_extract]
    simp [List.extract]
    exact List.take_of_length_le (by simp [x.2.2])
  rw [← hb]
  exact eqF_cons (by decide) (part_cell (by kernel_rfl) rfl) (part_cell (by kernel_rfl) rfl) (eqI_str (by kernel_rfl) 9998 _ _)
    (eqF_cons (by decide) (ha p) (ha q) (eqI_u8s (m := 32) (by kernel_rfl) (e := 5) (by kernel_rfl) (by kernel_rfl) 9997 _ _ p.2.2 q.2.2) (eqF_nil _ _ _))
theorem sameT (p : List UInt8 × Id32) : Instr.sameBits 10000 (kT p) (kT p) = true := by
  show Instr.sameBits (9999 + 1) (.agg _) (.agg _) = true
  simp only [Instr.sameBits, beq_self_eq_true, Bool.true_and, List.all_eq_true]
  intro x hx
  obtain ⟨i, hi, e⟩ := List.getElem_of_mem hx
  rw [List.getElem_zip] at e
  rw [← e]
  have hm := List.getElem_mem (l := [kS p.1] ++ p.2.1.map V8) (n := i) (by simpa using hi)
  simp only at hm ⊢
  generalize ([kS p.1] ++ p.2.1.map V8)[i]'(by simpa using hi) = v at hm
  rcases List.mem_append.1 hm with h | h
  · rw [List.mem_singleton.1 h]; exact sameBits_self (d := .string) (by simp [IsKey, kS]) _
  · obtain ⟨u, _, rfl⟩ := List.mem_map.1 h; exact sameBits_self (d := .int .u8) (by simp [IsKey]) _
theorem keyT : KeyOf Try.prog 88 kT := KeyOf.ask (by kernel_rfl) chkT eqT sameT
end Go.Proofs.Ytncmcgcilijfkaa
namespace Go.Proofs.Ytncmcgcilijfkaa
open Go
def keys (L : List Ch) : List Nat := L.filterMap Ch.key
/-- chunks that stand in a world, no two of one block. -/
def Own (w : World) (L : List Ch) : Prop := (∀ c ∈ L, c.ok w) ∧ L.Pairwise fun c e => ∀ b, c.key = some b → e.key ≠ some b
theorem Hp.owns {w0 w : World} {S : List Nat} {L : List Ch} (h : Hp w0 w S L) : Own w L := ⟨h.has, h.nd⟩
theorem Own.sub {w : World} {L L' : List Ch} (h : Own w L) (hs : L'.Sublist L) : Own w L' := ⟨fun c hc => h.1 c (hs.subset hc), h.2.sublist hs⟩
theorem nd_symm {c e : Ch} (h : ∀ b, c.key = some b → e.key ≠ some b) : ∀ b, e.key = some b → c.key ≠ some b := fun b h1 h2 => h b h2 h1
theorem Hp.permL {w0 w : World} {S : List Nat} {L L' : List Ch} (h : Hp w0 w S L) (hp : L.Perm L') : Hp w0 w S L' :=
  ⟨h.os, h.tape, h.output, h.size, h.frame, fun c hc => h.has c (hp.mem_iff.2 hc), fun c hc => h.fresh c (hp.mem_iff.2 hc), h.nd.perm hp (fun h => nd_symm h)⟩
theorem perm_front {α : Type} {c : α} : ∀ {L : List α} {j : Nat}, L[j]? = some c → L.Perm (c :: L.eraseIdx j)
  | a :: L, 0, h => by cases h; exact .refl _
  | a :: L, j + 1, h => by
    have := perm_front (L := L) (j := j) h
    exact (List.Perm.cons a this).trans (.swap ..)
theorem mem_keys {L : List Ch} {b : Nat} : b ∈ keys L ↔ ∃ c ∈ L, c.key = some b := List.mem_filterMap
theorem Own.start {w : World} {L : List Ch} (h : Own w L) : Hp w w (keys L) L :=
  ⟨rfl, rfl, rfl, Nat.le_refl _, fun _ _ _ => rfl, h.1, fun c hc b hb => .inl (mem_keys.2 ⟨c, hc, hb⟩), h.2⟩
theorem Hp.callG {w0 w w' : World} {S : List Nat} {L L1 L1' Lr : List Ch} (h : Hp w0 w S L) (hL : L = L1 ++ Lr) (hc : Hp w w' (keys L1) L1') : Hp w0 w' S (Lr ++ L1') := by
  subst hL
  obtain ⟨n1, n2, n3⟩ := List.pairwise_append.1 h.nd
  have out : ∀ e ∈ Lr, ∀ b, e.key = some b → b < w.heap.size ∧ b ∉ keys L1 := fun e he b hb =>
    ⟨Ch.lt (h.has e (List.mem_append_right _ he)) hb, fun hm => by
      obtain ⟨c, hcm, hcb⟩ := mem_keys.1 hm
      exact n3 c hcm e he b hcb hb⟩
  refine ⟨hc.os.trans h.os, hc.tape.trans h.tape, hc.output.trans h.output, Nat.le_trans h.size hc.size, fun b hlt hn => ?_, fun c hcm => ?_, fun c hcm b hb => ?_, ?_⟩
  · have hk : b ∉ keys L1 := fun hm => by
      obtain ⟨c, hcm, hcb⟩ := mem_keys.1 hm
      rcases h.fresh c (List.mem_append_left _ hcm) b hcb with h1 | h1
      · exact hn h1
      · omega
    exact (hc.frame b (Nat.lt_of_lt_of_le hlt h.size) hk).trans (h.frame b hlt hn)
  · rcases List.mem_append.1 hcm with h1 | h1
    · exact Ch.ok_of (h.has c (List.mem_append_right _ h1)) fun b hb => hc.frame b (out c h1 b hb).1 (out c h1 b hb).2
    · exact hc.has c h1
  · rcases List.mem_append.1 hcm with h1 | h1
    · exact h.fresh c (List.mem_append_right _ h1) b hb
    · rcases hc.fresh c h1 b hb with h2 | h2
      · obtain ⟨e, hem, heb⟩ := mem_keys.1 h2
        exact h.fresh e (List.mem_append_left _ hem) b heb
      · exact .inr (Nat.le_trans h.size h2)
  · refine List.pairwise_append.2 ⟨n2, hc.nd, fun e he c hcm b hb hb2 => ?_⟩
    have ho := out e he b hb
    rcases hc.fresh c hcm b hb2 with h2 | h2
    · exact ho.2 h2
    · omega
theorem Hp.own1 {w0 w : World} {S : List Nat} {L L1 Lr : List Ch} (h : Hp w0 w S L) (hL : L = L1 ++ Lr) : Own w L1 := by
  subst hL; exact h.owns.sub (List.sublist_append_left ..)
theorem Hp.ownP {w0 w : World} {S : List Nat} {L LL L1 Lr : List Ch} (h : Hp w0 w S L) (hp : L.Perm LL) (hL : LL = L1 ++ Lr) : Own w L1 := (h.permL hp).own1 hL
theorem Hp.callP {w0 w w' : World} {S : List Nat} {L LL L1 L1' Lr L' : List Ch} (h : Hp w0 w S L) (hp : L.Perm LL) (hL : LL = L1 ++ Lr) (hc : Hp w w' (keys L1) L1') (hq : (Lr ++ L1').Perm L') : Hp w0 w' S L' :=
  ((h.permL hp).callG hL hc).permL hq
end Go.Proofs.Ytncmcgcilijfkaa
namespace Go.Proofs.Ytncmcgcilijfkaa
open Go Go.MapKept
set_option maxRecDepth 100000
section
variable {κ α : Type} [DecidableEq κ] {enc : α → Value} {M : List (κ × Value × Nat)} {F : κ → Option α}
/-- a map's entries are those of a function. -/
def MIs (enc : α → Value) (M : List (κ × Value × Nat)) (F : κ → Option α) : Prop := ∀ k, mget M k = (F k).map enc
def fput (F : κ → Option α) (k : κ) (v : α) : κ → Option α := fun j => if j = k then some v else F j
def fdel (F : κ → Option α) (k : κ) : κ → Option α := fun j => if j = k then none else F j
theorem MIs.nil : MIs enc ([] : List (κ × Value × Nat)) (fun _ => none) := fun _ => rfl
theorem MIs.put (h : MIs enc M F) (k : κ) (v : α) (c : Nat) : MIs enc (mput k (enc v) c M) (fput F k v) := fun j => by
  rw [mget_put, fput, h j]; split <;> rfl
theorem MIs.ent (h : MIs enc M F) (k : κ) (v : α) {X : Value} {c : Nat} : MIs enc (mput k (enc v) 0 (mput k X c M)) (fput F k v) := fun j => by
  rw [mget_put, mget_put, fput, h j]; split <;> rfl
theorem mput_cc {k : κ} {v : Value} (c c' : Nat) : ∀ {M : List (κ × Value × Nat)}, (mget M k).isSome = true → mput k v c M = mput k v c' M
  | [], h => by cases h
  | x :: M, h => by
    rw [mget] at h
    rw [mput, mput]
    by_cases hk : k = x.1
    · rw [if_pos hk, if_pos hk]
    · rw [if_neg hk] at h; rw [if_neg hk, if_neg hk, mput_cc c c' h]
theorem MOk.ent {k : κ} {X v : Value} {c c1 : Nat} (h : MOk (mput k X c M) c1) : MOk (mput k v 0 (mput k X c M)) c1 := by
  have h1 := h.put k v
  have h2 : mclk (mput k X c M) k c1 = c1 := if_pos mborn_put.2
  rw [h2, mput_cc c1 0 mborn_put.2] at h1
  exact h1
theorem MIs.del {c : Nat} (h : MIs enc M F) (hM : MOk M c) (k : κ) : MIs enc (mdel k M) (fdel F k) := fun j => by
  rw [mget_del k j M hM.keys, fdel, h j]; split <;> rfl
theorem MIs.getD (h : MIs enc M F) (k : κ) (z : α) : (mget M k).getD (enc z) = enc ((F k).getD z) := by
  rw [h k]; cases F k <;> rfl
theorem MIs.isSome (h : MIs enc M F) (k : κ) : (mget M k).isSome = (F k).isSome := by
  rw [h k]; cases F k <;> rfl
end
section
variable {κ α : Type} [DecidableEq κ] {P : Program} {n : Nat} {σ : Nat → Value} {w w0 : World}
  {ty : TypeId} {pos : String} {aft : Array Edge} {g : Option (Nat × Bool)} {d : Nat} {t kt et : TypeId} {x y : Operand} {S : List Nat} {L : List Ch}
/-- a look-up, told by the function. -/
theorem r_lookF {kv : κ → Value} {enc : α → Value} {M : List (κ × Value × Nat)} {F : κ → Option α} {c i b : Nat} {k : κ} (z : α) (hF : MIs enc M F) (H : Hp w0 w S L) (hi : L[i]? = some (.obj b (mobj kv M c))) (hu : P.underlying t = some (.map kt et)) (hK : KeyOf P kt kv) (hz : ∀ w, (zeroValue et).run P w = .ok (enc z) w)
    (hx : ev n σ x = .map (some b)) (hy : ev n σ y = kv k) :
    (execOp (ev n σ) ⟨some d, .lookup t x y false, ty, pos, aft, g⟩).run P w = .ok (.value (enc ((F k).getD z))) w := by
  have := r_look (P := P) (ty := ty) (pos := pos) (aft := aft) (g := g) (d := d) H hi hu hK hz hx hy false
  rw [hF.getD] at this
  exact this
theorem r_lookT {kv : κ → Value} {enc : α → Value} {M : List (κ × Value × Nat)} {F : κ → Option α} {c i b : Nat} {k : κ} (z : α) (hF : MIs enc M F) (H : Hp w0 w S L) (hi : L[i]? = some (.obj b (mobj kv M c))) (hu : P.underlying t = some (.map kt et)) (hK : KeyOf P kt kv) (hz : ∀ w, (zeroValue et).run P w = .ok (enc z) w)
    (hx : ev n σ x = .map (some b)) (hy : ev n σ y = kv k) :
    (execOp (ev n σ) ⟨some d, .lookup t x y true, ty, pos, aft, g⟩).run P w = .ok (.value (.tuple #[enc ((F k).getD z), .bool (F k).isSome])) w := by
  have := r_look (P := P) (ty := ty) (pos := pos) (aft := aft) (g := g) (d := d) H hi hu hK hz hx hy true
  rw [hF.getD, hF.isSome] at this
  exact this
end
end Go.Proofs.Ytncmcgcilijfkaa
namespace Go.Proofs.Ytncmcgcilijfkaa
open Go Go.MapKept
set_option maxRecDepth 100000
/-- what a tenant may have, what it uses, how many things it has. -/
structure Acc where
  quota : Int
  used : Int
  things : Int
def accE (a : Acc) : Value := .agg #[VI a.quota, VI a.used, VI a.things]
def acc0 : Acc := ⟨0, 0, 0⟩
theorem zv_acc (w : World) : (zeroValue 91).run Try.prog w = .ok (accE acc0) w := by
  have h : (Try.prog.info? 91).map (·.zero) = some (some (accE acc0)) := by kernel_rfl
  cases hi : Try.prog.info? 91 with
  | none => rw [hi] at h; cases h
  | some i =>
    rw [hi] at h
    have hz : i.zero = some (accE acc0) := by simpa using h
    simp [zeroValue, typeInfo, hi, hz]
theorem zv_int (w : World) : (zeroValue 2).run Try.prog w = .ok (VI 0) w := by
  have h : (Try.prog.info? 2).map (·.zero) = some (some (VI 0)) := by kernel_rfl
  cases hi : Try.prog.info? 2 with
  | none => rw [hi] at h; cases h
  | some i =>
    rw [hi] at h
    have hz : i.zero = some (VI 0) := by simpa using h
    simp [zeroValue, typeInfo, hi, hz]
end Go.Proofs.Ytncmcgcilijfkaa
namespace Go.Proofs.Ytncmcgcilijfkaa
open Go
set_option maxRecDepth 100000
section
variable {P : Program} {n : Nat} {σ : Nat → Value} {w : World} {ty : TypeId} {pos : String} {aft : Array Edge} {g : Option (Nat × Bool)} {d : Nat} {t e k yt : TypeId} {x y : Operand}
theorem eq_nilp {a : Addr} (hu : P.underlying t = some (.pointer e)) : (Op.equal t (.pointer (some a)) (.pointer none)).run P w = .ok false w := by
  have h : ∀ dd, (Op.equalIn (dd + 1) t (.pointer (some a)) (.pointer none)).run P w = .ok false w := fun dd => by
    simp only [Op.equalIn, Sem.run_bind, run_underlying hu, Result.andThen_ok]
    rfl
  exact h 9999
theorem eq_nilm {b : Nat} (hu : P.underlying t = some (.map k e)) : (Op.equal t (.map (some b)) (.map none)).run P w = .ok false w := by
  have h : ∀ dd, (Op.equalIn (dd + 1) t (.map (some b)) (.map none)).run P w = .ok false w := fun dd => by
    simp only [Op.equalIn, Sem.run_bind, run_underlying hu, Result.andThen_ok]
    rfl
  exact h 9999
/-- a pointer that is none is compared with nil. -/
theorem r_nilp {a : Addr} (hu : P.underlying t = some (.pointer e)) (_hg : P.eqGuardType P.depth t = false) (hx : ev n σ x = .pointer (some a)) (hy : ev n σ y = .pointer none) :
    (execOp (ev n σ) ⟨some d, .binOp .eql t x y yt, ty, pos, aft, g⟩).run P w = .ok (.value (.bool false)) w := by
  have e3 : (eqGuard .eql t x y (.pointer (some a)) (.pointer none)).run P w = .ok () w := by simp [eqGuard]
  have e4 : (binOp .eql t (.pointer (some a)) (.pointer none)).run P w = .ok (.bool false) w := by simp [binOp, eq_nilp hu]
  simp [execOp, hx, hy, e3, e4]
theorem r_nilm {b : Nat} (hu : P.underlying t = some (.map k e)) (_hg : P.eqGuardType P.depth t = false) (hx : ev n σ x = .map (some b)) (hy : ev n σ y = .map none) :
    (execOp (ev n σ) ⟨some d, .binOp .eql t x y yt, ty, pos, aft, g⟩).run P w = .ok (.value (.bool false)) w := by
  have e3 : (eqGuard .eql t x y (.map (some b)) (.map none)).run P w = .ok () w := by simp [eqGuard]
  have e4 : (binOp .eql t (.map (some b)) (.map none)).run P w = .ok (.bool false) w := by simp [binOp, eq_nilm hu]
  simp [execOp, hx, hy, e3, e4]
end
theorem Hp.start3 (w : World) (c e f : Ch) (b b' b'' : Nat) (h : c.ok w) (h' : e.ok w) (h'' : f.ok w) (hk : c.key = some b) (hk' : e.key = some b') (hk'' : f.key = some b'') (h1 : b ≠ b') (h2 : b ≠ b'') (h3 : b' ≠ b'') : Hp w w [b, b', b''] [c, e, f] :=
  ⟨rfl, rfl, rfl, Nat.le_refl _, fun _ _ _ => rfl, (by simpa using ⟨h, h', h''⟩), (by simp [hk, hk', hk'']), (by simp [hk, hk', hk'']; exact ⟨⟨fun e => h1 e.symm, fun e => h2 e.symm⟩, fun e => h3 e.symm⟩)⟩
/-- a meter, as a world has it. -/
structure MSt (w : World) (b b1 b2 : Nat) (Mh : List ((List UInt8 × Id32) × Value × Nat)) (ch : Nat) (Ma : List (List UInt8 × Value × Nat)) (ca : Nat) (F : List UInt8 × Id32 → Option Int) (A : List UInt8 → Option Acc) : Prop where
  hb : w.heap[b]? = some (.cells [Value.map (some b1), Value.map (some b2)].toArray 54 (0, 0))
  h1 : w.heap[b1]? = some (mobj kT Mh ch)
  h2 : w.heap[b2]? = some (mobj kS Ma ca)
  n1 : b ≠ b1
  n2 : b ≠ b2
  n12 : b1 ≠ b2
  fh : MIs VI Mh F
  fa : MIs accE Ma A
  oh : MOk Mh ch
  oa : MOk Ma ca
theorem MSt.start {w : World} {b b1 b2 : Nat} {Mh : List ((List UInt8 × Id32) × Value × Nat)} {ch : Nat} {Ma : List (List UInt8 × Value × Nat)} {ca : Nat} {F : List UInt8 × Id32 → Option Int} {A : List UInt8 → Option Acc} (h : MSt w b b1 b2 Mh ch Ma ca F A) :
    Hp w w [b, b1, b2] [.blk b [Value.map (some b1), Value.map (some b2)] 54, .obj b1 (mobj kT Mh ch), .obj b2 (mobj kS Ma ca)] :=
  Hp.start3 w _ _ _ b b1 b2 h.hb h.h1 h.h2 rfl rfl rfl h.n1 h.n2 h.n12
/-- a call that turns three chunks. -/
theorem Hp.callAt3 {w0 w w' : World} {S : List Nat} {L : List Ch} (h : Hp w0 w S L) {i j k bi bj bk : Nat} {ci cj ck ci' cj' ck' : Ch} (hi : L[i]? = some ci) (hj : L[j]? = some cj) (hk : L[k]? = some ck) (hij : i ≠ j) (hik : i ≠ k) (hjk : j ≠ k) (ki : ci.key = some bi) (kj : cj.key = some bj) (kk : ck.key = some bk)
    (ki' : ci'.key = some bi) (kj' : cj'.key = some bj) (kk' : ck'.key = some bk) (hc : Hp w w' [bi, bj, bk] [ci', cj', ck']) : Hp w0 w' S (((L.set i ci').set j cj').set k ck') := by
  have n1 : bi ≠ bk := fun e => pw_ne h.nd hi hk hik ki (by rw [kk, e])
  have n2 : bj ≠ bk := fun e => pw_ne h.nd hj hk hjk kj (by rw [kk, e])
  have hklt := Ch.lt (h.has ck (List.mem_of_getElem? hk)) kk
  have hsz := hc.size
  obtain ⟨o, ho⟩ : ∃ o, w.heap[bk]? = some o := ⟨_, Array.getElem?_eq_getElem hklt⟩
  have e1 : ({ w' with heap := w'.heap.setIfInBounds bk o } : World).heap[bk]? = some o := by
    have : bk < w'.heap.size := Nat.lt_of_lt_of_le hklt hsz
    simp [this]
  have e2 : ∀ b, b ≠ bk → ({ w' with heap := w'.heap.setIfInBounds bk o } : World).heap[b]? = w'.heap[b]? := fun b hne => by simp [Ne.symm hne]
  have hc1 : Hp w { w' with heap := w'.heap.setIfInBounds bk o } [bi, bj] [ci', cj'] := by
    refine ⟨hc.os, hc.tape, hc.output, by simpa using hsz, fun b hlt hn => ?_, fun c hcm => ?_, fun c hcm b hb => ?_, hc.nd.sublist (by simp)⟩
    · by_cases hbk : b = bk
      · subst hbk; rw [e1, ho]
      · rw [e2 b hbk]
        refine hc.frame b hlt ?_
        simp only [List.mem_cons, List.not_mem_nil, or_false, not_or] at hn ⊢
        exact ⟨hn.1, hn.2, hbk⟩
    · refine Ch.ok_of (hc.has c (by simp only [List.mem_cons, List.not_mem_nil, or_false] at hcm ⊢; rcases hcm with h | h <;> simp [h])) fun b hb => ?_
      simp only [List.mem_cons, List.not_mem_nil, or_false] at hcm
      rcases hcm with rfl | rfl
      · rw [ki'] at hb; cases hb; exact e2 _ n1
      · rw [kj'] at hb; cases hb; exact e2 _ n2
    · simp only [List.mem_cons, List.not_mem_nil, or_false] at hcm
      rcases hcm with rfl | rfl
      · rw [ki'] at hb; cases hb; exact .inl (by simp)
      · rw [kj'] at hb; cases hb; exact .inl (by simp)
  have h1 := h.callAt2 hi hj hij ki kj ki' kj' hc1
  have hk' : ((L.set i ci').set j cj')[k]? = some ck := by rw [List.getElem?_set_ne hjk, List.getElem?_set_ne hik]; exact hk
  exact h1.turn hk' (hc.has ck' (by simp)) (fun b hb' => .inl (by rw [kk]; rw [kk'] at hb'; exact hb')) rfl rfl rfl (by simp) (fun b _ hne => (e2 b (fun e => hne (by rw [kk, e]))).symm)
end Go.Proofs.Ytncmcgcilijfkaa
namespace Go.Proofs.Ytncmcgcilijfkaa
open Go
theorem mixed : Try.prog.follows .mixedOrders = true := by kernel_rfl
theorem ct2 : cellTy Try.prog 2 = true := by kernel_rfl
theorem cs2 : cellSz Try.prog 2 = some 1 := by kernel_rfl
theorem ct3 : cellTy Try.prog 3 = true := by kernel_rfl
theorem cs3 : cellSz Try.prog 3 = some 1 := by kernel_rfl
theorem ct5 : cellTy Try.prog 5 = true := by kernel_rfl
theorem cs5 : cellSz Try.prog 5 = some 1 := by kernel_rfl
theorem ct9 : cellTy Try.prog 9 = true := by kernel_rfl
theorem cs9 : cellSz Try.prog 9 = some 1 := by kernel_rfl
theorem zc9 : zeroCells Try.prog 9 = some [Value.string .empty] := by kernel_rfl
theorem el22 : eltOf Try.prog 22 = some 4 := by kernel_rfl
theorem rt30 : rowTy Try.prog 30 = some 4 := by kernel_rfl
theorem cs30 : cellSz Try.prog 30 = some 4 := by kernel_rfl
theorem zc30 : zeroCells Try.prog 30 = some ([Value.int .i64 0] ++ [Value.string .empty] ++ [Value.int .u8 0] ++ [Value.int .i64 0]) := by kernel_rfl
theorem fo30_0 : fieldOff Try.prog 30 0 = some 0 := by kernel_rfl
theorem fo30_1 : fieldOff Try.prog 30 1 = some 1 := by kernel_rfl
theorem fo30_2 : fieldOff Try.prog 30 2 = some 2 := by kernel_rfl
theorem fo30_3 : fieldOff Try.prog 30 3 = some 3 := by kernel_rfl
theorem rt36 : rowTy Try.prog 36 = some 32 := by kernel_rfl
theorem zc36 : zeroCells Try.prog 36 = some (List.replicate 32 (Value.int .u8 0)) := by kernel_rfl
theorem ar36 : arrOf Try.prog 36 = some (32, 1) := by kernel_rfl
theorem bd36 : Bld Try.prog 36 ((List.replicate 32 (Value.int .u8 0))).toArray (fun i => some (i * 1, 1)) := Bld.arr ar36 zc36
theorem ct43 : cellTy Try.prog 43 = true := by kernel_rfl
theorem cs43 : cellSz Try.prog 43 = some 1 := by kernel_rfl
theorem el43 : eltOf Try.prog 43 = some 34 := by kernel_rfl
theorem sl43 : SlTy Try.prog 43 93 34 56 := .mk' (by kernel_rfl) (by kernel_rfl)
theorem ct44 : cellTy Try.prog 44 = true := by kernel_rfl
theorem cs44 : cellSz Try.prog 44 = some 1 := by kernel_rfl
theorem el44 : eltOf Try.prog 44 = some 2 := by kernel_rfl
theorem sl44 : SlTy Try.prog 44 98 2 24 := .mk' (by kernel_rfl) (by kernel_rfl)
theorem zc46 : zeroCells Try.prog 46 = some ([Value.slice none 0 0] ++ [Value.slice none 0 0]) := by kernel_rfl
theorem fo46_0 : fieldOff Try.prog 46 0 = some 0 := by kernel_rfl
theorem fo46_1 : fieldOff Try.prog 46 1 = some 1 := by kernel_rfl
theorem pl46 : placesOf Try.prog 46 = some #[(0, 1), (1, 1)] := by kernel_rfl
theorem bd46 : Bld Try.prog 46 (([Value.slice none 0 0] ++ [Value.slice none 0 0])).toArray (fun i => (#[(0, 1), (1, 1)] : Array (Nat × Nat))[i]?) := Bld.str pl46 zc46
theorem el49 : eltOf Try.prog 49 = some 1 := by kernel_rfl
theorem sl49 : SlTy Try.prog 49 9 1 16 := .mk' (by kernel_rfl) (by kernel_rfl)
theorem ct51 : cellTy Try.prog 51 = true := by kernel_rfl
theorem ct52 : cellTy Try.prog 52 = true := by kernel_rfl
theorem zc54 : zeroCells Try.prog 54 = some ([Value.map none] ++ [Value.map none]) := by kernel_rfl
theorem fo54_0 : fieldOff Try.prog 54 0 = some 0 := by kernel_rfl
theorem fo54_1 : fieldOff Try.prog 54 1 = some 1 := by kernel_rfl
theorem pl54 : placesOf Try.prog 54 = some #[(0, 1), (1, 1)] := by kernel_rfl
theorem bd54 : Bld Try.prog 54 (([Value.map none] ++ [Value.map none])).toArray (fun i => (#[(0, 1), (1, 1)] : Array (Nat × Nat))[i]?) := Bld.str pl54 zc54
theorem rt88 : rowTy Try.prog 88 = some 33 := by kernel_rfl
theorem cs88 : cellSz Try.prog 88 = some 33 := by kernel_rfl
theorem zc88 : zeroCells Try.prog 88 = some ([Value.string .empty] ++ (List.replicate 32 (Value.int .u8 0))) := by kernel_rfl
theorem pl88 : placesOf Try.prog 88 = some #[(0, 1), (1, 32)] := by kernel_rfl
theorem bd88 : Bld Try.prog 88 (([Value.string .empty] ++ (List.replicate 32 (Value.int .u8 0)))).toArray (fun i => (#[(0, 1), (1, 32)] : Array (Nat × Nat))[i]?) := Bld.str pl88 zc88
theorem rt91 : rowTy Try.prog 91 = some 3 := by kernel_rfl
theorem cs91 : cellSz Try.prog 91 = some 3 := by kernel_rfl
theorem zc91 : zeroCells Try.prog 91 = some ([Value.int .i64 0] ++ [Value.int .i64 0] ++ [Value.int .i64 0]) := by kernel_rfl
theorem fo91_0 : fieldOff Try.prog 91 0 = some 0 := by kernel_rfl
theorem fo91_1 : fieldOff Try.prog 91 1 = some 1 := by kernel_rfl
theorem fo91_2 : fieldOff Try.prog 91 2 = some 2 := by kernel_rfl
theorem zc93 : zeroCells Try.prog 93 = some ([Value.string .empty] ++ (List.replicate 32 (Value.int .u8 0)) ++ [Value.int .i64 0]) := by kernel_rfl
theorem fo93_0 : fieldOff Try.prog 93 0 = some 0 := by kernel_rfl
theorem fo93_1 : fieldOff Try.prog 93 1 = some 1 := by kernel_rfl
theorem fo93_2 : fieldOff Try.prog 93 2 = some 33 := by kernel_rfl
theorem pl93 : placesOf Try.prog 93 = some #[(0, 1), (1, 32), (33, 1)] := by kernel_rfl
theorem bd93 : Bld Try.prog 93 (([Value.string .empty] ++ (List.replicate 32 (Value.int .u8 0)) ++ [Value.int .i64 0])).toArray (fun i => (#[(0, 1), (1, 32), (33, 1)] : Array (Nat × Nat))[i]?) := Bld.str pl93 zc93
theorem zc98 : zeroCells Try.prog 98 = some ([Value.string .empty] ++ [Value.int .i64 0]) := by kernel_rfl
theorem fo98_0 : fieldOff Try.prog 98 0 = some 0 := by kernel_rfl
theorem fo98_1 : fieldOff Try.prog 98 1 = some 1 := by kernel_rfl
theorem pl98 : placesOf Try.prog 98 = some #[(0, 1), (1, 1)] := by kernel_rfl
theorem bd98 : Bld Try.prog 98 (([Value.string .empty] ++ [Value.int .i64 0])).toArray (fun i => (#[(0, 1), (1, 1)] : Array (Nat × Nat))[i]?) := Bld.str pl98 zc98
end Go.Proofs.Ytncmcgcilijfkaa
