/- Lemmas for the statement ModelDooms, part 1: rules of operations, walks through functions, plain laws. -/
import Derived.Below
import Derived.Calls
import Derived.ChangeKeysEq
import Derived.Deep.AppendSrc
import Derived.Deep.MidRow
import Derived.IntWalk
import Derived.Laws.CopyRow
import Derived.Laws.Cover3
import Derived.Laws.IdiomStrings
import Derived.Laws.MakeOwn
import Derived.Laws.NewBlocks
import Derived.Laws.Tables
import Derived.OrdersHeld
import Derived.StillTail
import Derived.Test.YtmiabahejnjhiaaGreatDoorProg
import Derived.WalkKit
namespace Go.Proofs.YtmiabahejnjhiaaGreatDoor
open Go
/-- A frame of n slots, as a function of the slot. -/
def mk (n : Nat) (σ : Nat → Value) : Act := ⟨Array.ofFn (n := n) (fun i => σ i.val), []⟩
def up (σ : Nat → Value) (d : Nat) (v : Value) : Nat → Value := fun t => bif Nat.beq t d then v else σ t
def ev (n : Nat) (σ : Nat → Value) : Operand → Value
  | .tmp t => bif Nat.blt t n then σ t else undef
  | .const v => v
  | .global g => .pointer (some ⟨g, 0, none⟩)
  | .func f => .func (.func f) #[] #[]
def evs (n : Nat) (σ : Nat → Value) : List Operand → List Value
  | [] => []
  | x :: l => ev n σ x :: evs n σ l
theorem evs_eq (n σ) : ∀ l : List Operand, evs n σ l = l.map (ev n σ)
  | [] => rfl
  | x :: l => by rw [evs, evs_eq n σ l, List.map_cons]
def pvs (n : Nat) (σ : Nat → Value) : List (Nat × Operand) → List (Nat × Value)
  | [] => []
  | x :: l => (x.1, ev n σ x.2) :: pvs n σ l
theorem pvs_eq (n σ) : ∀ l : List (Nat × Operand), pvs n σ l = l.map fun (i, x) => (i, ev n σ x)
  | [] => rfl
  | x :: l => by rw [pvs, pvs_eq n σ l, List.map_cons]
theorem mk_put (n σ d v) : (mk n σ).put (some d) v = mk n (up σ d v) := by
  simp only [Act.put, mk, Act.mk.injEq, and_true]
  apply Array.ext
  · simp
  · intro i h1 h2
    simp only [Array.getElem_ofFn, up]
    rw [Array.getElem_setIfInBounds]
    · by_cases h : d = i
      · subst h; simp
      · have : Nat.beq i d = false := by
          cases hb : Nat.beq i d
          · rfl
          · exact absurd (Nat.eq_of_beq_eq_true hb).symm h
        rw [if_neg h, this]
        exact Array.getElem_ofFn _
    · simpa using h2
theorem mk_eval (n σ) (x : Operand) : (mk n σ).eval x = ev n σ x := by
  cases x <;> simp only [Act.eval, ev, mk]
  rename_i t
  by_cases h : t < n
  · have : Nat.blt t n = true := by rw [Nat.blt_eq]; exact h
    simp [this, h]
  · have : Nat.blt t n = false := by
      cases hb : Nat.blt t n
      · rfl
      · exact absurd (by rw [Nat.blt_eq] at hb; exact hb) h
    simp [this, h]
theorem mk_evalf (n σ) : (mk n σ).eval = ev n σ := funext (mk_eval n σ)
theorem up_self (σ : Nat → Value) (d : Nat) : up σ d (σ d) = σ := by
  funext t
  simp only [up]
  cases hb : Nat.beq t d
  · rfl
  · rw [Nat.eq_of_beq_eq_true hb]; rfl
theorem up_of (σ : Nat → Value) (d : Nat) (v : Value) (h : σ d = v) : up σ d v = σ := by subst h; exact up_self σ d
/-- several slots at once. -/
def ups (σ : Nat → Value) : List (Nat × Value) → (Nat → Value)
  | [] => σ
  | p :: l => up (ups σ l) p.1 p.2
def fits (σ : Nat → Value) : List (Nat × Value) → Prop
  | [] => True
  | p :: l => σ p.1 = p.2 ∧ fits σ l
theorem ups_of_fits (σ : Nat → Value) : ∀ l, fits σ l → ups σ l = σ
  | [], _ => rfl
  | p :: l, h => by
    rw [ups, ups_of_fits σ l h.2]
    exact up_of _ _ _ h.1
/-- A function's frame at its beginning. -/
theorem enter_mk (args : List Value) (n : Nat) (h : args.length ≤ n) :
    (⟨args.toArray ++ Array.replicate (n - args.toArray.size) undef, []⟩ : Act) = mk n (fun t => args.getD t undef) := by
  simp only [mk, Act.mk.injEq, and_true]
  apply Array.ext
  · simp; omega
  · intro i h1 h2
    simp only [Array.getElem_ofFn]
    by_cases hi : i < args.length
    · rw [Array.getElem_append_left (by simpa using hi)]
      simp [List.getD, hi]
    · rw [Array.getElem_append_right (by simpa using hi)]
      simp [List.getD, List.getElem?_eq_none (Nat.le_of_not_lt hi)]
theorem calls_mk {P : Program} {f : FuncId} {fn : Func} {c : Code} {args : List Value} {w : World} {R : Ending → World → Prop} {n : Nat}
    (hf : P.funcs[f]? = some fn) (hb : fn.body = some c) (hn : fn.ntmps = n) (hle : args.length ≤ n)
    (h : c.wp P (bodyPost P fn R) (mk n (fun t => args.getD t undef)) w) : Calls P f args.toArray w R := by
  refine calls_of_wp hf hb ?_
  rw [hn, enter_mk args n hle]
  exact h
section
variable {P : Program} {Q : Exit → Act → World → Prop} {n : Nat} {σ : Nat → Value} {w : World} {K : Act → World → Prop}
  {ty : TypeId} {pos : String} {aft : Array Edge} {g : Option (Nat × Bool)} {d : Nat}
theorem c_region {id : Nat} {l : List Oper} {a : Act} (h : wpList P l.toArray Q l a w) : (Code.region id l.toArray false).wp P Q a w := wp_region_lit h
theorem c_seq {x y : Code} {a : Act} (h : x.wp P (Exit.then (y.wp P Q) Q) a w) : (Code.seq x y).wp P Q a w := wp_seq h
/-- one operation of a list, not guarded. -/
theorem l_op {ops : Array Oper} {rest : List Oper} {op : Op} {dst : Option Tmp} {a : Act}
    (h : Oper.wp P ⟨dst, op, ty, pos, aft, none⟩ a w (wpList P ops Q rest) Q) : wpList P ops Q (⟨dst, op, ty, pos, aft, none⟩ :: rest) a w := by
  unfold wpList
  rw [if_pos (by simp [Region.wanted])]
  exact .inl h
theorem yielded_mk (ops : Array Oper) (j d : Nat) (h : (ops[j]?).bind (·.dst) = some d) (b : Bool) (hd : Nat.blt d n = true) (hv : σ d = .bool b) :
    yielded ops (mk n σ).tmps j = some b := by
  have hd' : d < n := by rw [Nat.blt_eq] at hd; exact hd
  unfold yielded
  simp [h, mk, hd', hv]
/-- .. guarded, and wanted. -/
theorem l_yes {ops : Array Oper} {rest : List Oper} {op : Op} {dst : Option Tmp} {j e : Nat} {b : Bool}
    (he : (ops[j]?).bind (·.dst) = some e) (hb : Nat.blt e n = true) (hv : σ e = .bool b)
    (h : Oper.wp P ⟨dst, op, ty, pos, aft, some (j, b)⟩ (mk n σ) w (wpList P ops Q rest) Q) : wpList P ops Q (⟨dst, op, ty, pos, aft, some (j, b)⟩ :: rest) (mk n σ) w := by
  have hw := yielded_mk ops j e he b hb hv
  unfold wpList
  rw [if_pos (by simp [Region.wanted, hw])]
  exact .inl h
/-- .. guarded, and not wanted. -/
theorem l_no {ops : Array Oper} {rest : List Oper} {op : Op} {j e : Nat} {b c : Bool}
    (he : (ops[j]?).bind (·.dst) = some e) (hb : Nat.blt e n = true) (hv : σ e = .bool c) (hc : (c == b) = false)
    (h : wpList P ops Q rest (mk n (up σ d undef)) w) : wpList P ops Q (⟨some d, op, ty, pos, aft, some (j, b)⟩ :: rest) (mk n σ) w := by
  have hw := yielded_mk ops j e he c hb hv
  unfold wpList
  rw [if_neg (by simp [Region.wanted, hw]; intro h'; subst h'; simp at hc), mk_put]
  exact h
theorem l_end {ops : Array Oper} {y : Code} {a : Act} (h : y.wp P Q a w) : wpList P ops (Exit.then (y.wp P Q) Q) [] a w := h
theorem l_nil {ops : Array Oper} {a : Act} (h : Q .normal a w) : wpList P ops Q [] a w := h
theorem c_if {c : Operand} {x y : Code} {b : Bool} (hc : ev n σ c = .bool b) (ht : b = true → x.wp P Q (mk n σ) w) (hf : b = false → y.wp P Q (mk n σ) w) :
    (Code.cond c x y).wp P Q (mk n σ) w := wp_cond_split ((mk_eval n σ c).trans hc) ht hf
theorem c_ifD {c : Operand} {x y : Code} {p : Prop} [Decidable p] (hc : ev n σ c = .bool (decide p)) (ht : p → x.wp P Q (mk n σ) w) (hf : ¬ p → y.wp P Q (mk n σ) w) :
    (Code.cond c x y).wp P Q (mk n σ) w := c_if hc (fun h => ht (of_decide_eq_true h)) (fun h => hf (of_decide_eq_false h))
theorem c_yes {c : Operand} {x y : Code} (hc : ev n σ c = .bool true) (ht : x.wp P Q (mk n σ) w) : (Code.cond c x y).wp P Q (mk n σ) w :=
  wp_cond_true ((mk_eval n σ c).trans hc) ht
theorem c_no {c : Operand} {x y : Code} (hc : ev n σ c = .bool false) (ht : y.wp P Q (mk n σ) w) : (Code.cond c x y).wp P Q (mk n σ) w :=
  wp_cond_false ((mk_eval n σ c).trans hc) ht
theorem c_skip {a : Act} (h : Q .normal a w) : Code.skip.wp P Q a w := wp_skip h
theorem c_ret {a : Act} (h : Q .ret a w) : Code.ret.wp P Q a w := wp_ret h
theorem c_exit {id : Nat} {a : Act} (h : Q (.exit id) a w) : (Code.exit id).wp P Q a w := wp_exit h
theorem c_block {id : Nat} {c : Code} {a : Act} (h : c.wp P (Exit.inBlock id Q) a w) : (Code.block id c).wp P Q a w := wp_block h
/-- A cut: of the frame only the listed slots are kept. -/
theorem cut {c : Code} {ι : Type} (pat : ι → List (Nat × Value)) (A : ι → World → Prop) (i : ι) (hp : fits σ (pat i)) (hA : A i w)
    (h : ∀ i τ w, A i w → c.wp P Q (mk n (ups τ (pat i))) w) : c.wp P Q (mk n σ) w := by
  have := h i σ w hA
  rwa [ups_of_fits σ _ hp] at this
/-- a frame of which the listed slots are known, for some i. -/
def Mid {ι : Type} (n : Nat) (pat : ι → List (Nat × Value)) (A : ι → World → Prop) (a : Act) (w : World) : Prop := ∃ i τ, a = mk n (ups τ (pat i)) ∧ A i w
/-- .. and the measure has gone down. -/
def Rnd {ι : Type} (n : Nat) (pat : ι → List (Nat × Value)) (A : ι → World → Prop) (μ : ι → Nat) (m : Nat) (a : Act) (w : World) : Prop := ∃ j τ, a = mk n (ups τ (pat j)) ∧ A j w ∧ μ j < m
def Exit.mid (M : Act → World → Prop) (Q : Exit → Act → World → Prop) : Exit → Act → World → Prop
  | .normal, a, w => M a w
  | e, a, w => Q e a w
/-- A piece of code that comes to its end, and to a frame of which the listed slots are known. -/
theorem c_piece {c : Code} {ι : Type} (pat : ι → List (Nat × Value)) (A : ι → World → Prop)
    (h1 : c.wp P (Exit.mid (Mid n pat A) Q) (mk n σ) w)
    (h2 : ∀ i τ w, A i w → Q .normal (mk n (ups τ (pat i))) w) : c.wp P Q (mk n σ) w := by
  refine wp_mono h1 fun e a w h => ?_
  cases e <;> simp only [Exit.mid] at h
  case normal => obtain ⟨i, τ, rfl, hA⟩ := h; exact h2 i τ w hA
  all_goals exact h
theorem fit_end {ι : Type} {pat : ι → List (Nat × Value)} {A : ι → World → Prop} (i : ι) (hp : fits σ (pat i)) (hA : A i w) : Mid n pat A (mk n σ) w :=
  ⟨i, σ, by rw [ups_of_fits σ _ hp], hA⟩
theorem least (p : Nat → Prop) : ∀ k, p k → ∃ m, p m ∧ ∀ j, p j → m ≤ j := by
  intro k
  induction k using Nat.strongRecOn with
  | _ k ih =>
    intro hk
    by_cases h : ∃ j, j < k ∧ p j
    · obtain ⟨j, hj, hp⟩ := h; exact ih j hj hp
    · exact ⟨k, hk, fun j hj => Nat.le_of_not_lt fun hlt => h ⟨j, hlt, hj⟩⟩
/-- A loop: what holds of the listed slots and of the world at every head; a measure. -/
theorem c_loop {c : Code} {ι : Type} (pat : ι → List (Nat × Value)) (A : ι → World → Prop) (μ : ι → Nat) (i : ι) (hp : fits σ (pat i)) (hA : A i w)
    (h : ∀ i τ w, A i w → c.wp P (Exit.then (Rnd n pat A μ (μ i)) Q) (mk n (ups τ (pat i))) w) :
    (Code.loop c).wp P Q (mk n σ) w := by
  classical
  let I : Act → World → Prop := fun a w => ∃ i τ, a = mk n (ups τ (pat i)) ∧ A i w
  let p : Act → World → Nat → Prop := fun a w k => ∃ i τ, a = mk n (ups τ (pat i)) ∧ A i w ∧ μ i = k
  have ex : ∀ a w, I a w → ∃ m, p a w m ∧ ∀ k, p a w k → m ≤ k := fun a w ⟨i, τ, h1, h2⟩ => least (p a w) (μ i) ⟨i, τ, h1, h2, rfl⟩
  let M : Act → World → Nat := fun a w => if h : I a w then Classical.choose (ex a w h) else 0
  have hM : ∀ a w, I a w → p a w (M a w) ∧ ∀ k, p a w k → M a w ≤ k := fun a w h => by
    have e : M a w = Classical.choose (ex a w h) := dif_pos h
    rw [e]
    exact Classical.choose_spec (ex a w h)
  refine wp_loop I M ⟨i, σ, by rw [ups_of_fits σ _ hp], hA⟩ ?_; intro a w hI
  obtain ⟨⟨i, τ, rfl, hAi, hμ⟩, _⟩ := hM a w hI
  refine wp_mono (h i τ w hAi) fun e a' w' hq => ?_
  cases e <;> simp only [Exit.then] at hq ⊢
  case normal =>
    obtain ⟨j, τ', rfl, hAj, hlt⟩ := hq
    have hI' : I (mk n (ups τ' (pat j))) w' := ⟨j, τ', rfl, hAj⟩
    exact ⟨hI', Nat.lt_of_le_of_lt ((hM _ _ hI').2 _ ⟨j, τ', rfl, hAj, rfl⟩) (hμ ▸ hlt)⟩
  all_goals exact hq
theorem round_end {ι : Type} {pat : ι → List (Nat × Value)} {A : ι → World → Prop} {μ : ι → Nat} {m : Nat} (j : ι) (hp : fits σ (pat j)) (hA : A j w) (hμ : μ j < m) :
    Rnd n pat A μ m (mk n σ) w := ⟨j, σ, by rw [ups_of_fits σ _ hp], hA, hμ⟩
theorem e_ret0 {fn : Func} {R : Ending → World → Prop} (h : fn.results = #[]) (hR : R (.returned (.tuple #[])) w) : bodyPost P fn R .ret (mk n σ) w :=
  ⟨rfl, _, results_none h _ _ _, hR⟩
theorem e_ret1 {fn : Func} {R : Ending → World → Prop} {t : Tmp} {v : Value} (h : fn.results = #[.tmp t]) (hv : ev n σ (.tmp t) = v) (hR : R (.returned v) w) : bodyPost P fn R .ret (mk n σ) w :=
  ⟨rfl, _, results_tmp h _ _ _, by rw [← hv, ← mk_eval] at hR; exact hR⟩
theorem e_norm {fn : Func} {R : Ending → World → Prop} {a : Act} (h : bodyPost P fn R .ret a w) : bodyPost P fn R .normal a w := h
theorem o_val {op : Op} {v : Value} {w' : World} (hrun : (execOp (ev n σ) ⟨some d, op, ty, pos, aft, g⟩).run P w = .ok (.value v) w')
    (h : K (mk n (up σ d v)) w') : Oper.wp P ⟨some d, op, ty, pos, aft, g⟩ (mk n σ) w K Q := by
  unfold Oper.wp
  rw [mk_evalf, hrun, Oper.upon_value]
  show K ((mk n σ).put (some d) v) w'
  rw [mk_put]
  exact h
theorem o_skip {op : Op} {w' : World} (hrun : (execOp (ev n σ) ⟨none, op, ty, pos, aft, g⟩).run P w = .ok .skip w')
    (h : K (mk n σ) w') : Oper.wp P ⟨none, op, ty, pos, aft, g⟩ (mk n σ) w K Q := by
  unfold Oper.wp
  rw [mk_evalf, hrun, Oper.upon_skip]
  exact h
theorem o_mv {x : Operand} (h : K (mk n (up σ d (ev n σ x))) w) : Oper.wp P ⟨some d, .move x, ty, pos, aft, g⟩ (mk n σ) w K Q :=
  o_val (by simp [execOp]) h
theorem o_as {x : Operand} (h : K (mk n (up σ d (ev n σ x))) w) : Oper.wp P ⟨some d, .assign x, ty, pos, aft, g⟩ (mk n σ) w K Q :=
  o_val (by simp [execOp]) h
theorem o_pick {c x y : Operand} {b : Bool} (hc : ev n σ c = .bool b) (h : K (mk n (up σ d (bif b then ev n σ x else ev n σ y))) w) :
    Oper.wp P ⟨some d, .pick c x y, ty, pos, aft, g⟩ (mk n σ) w K Q :=
  o_val (by cases b <;> simp [execOp, hc, asBool]) h
theorem o_nilc {x : Operand} {a : Addr} (hx : ev n σ x = .pointer (some a)) (h : K (mk n (up σ d (.pointer (some a)))) w) :
    Oper.wp P ⟨some d, .nilCheck x, ty, pos, aft, g⟩ (mk n σ) w K Q :=
  o_val (by simp [execOp, hx]) h
theorem o_not {x : Operand} {b : Bool} {t : TypeId} (hx : ev n σ x = .bool b) (h : K (mk n (up σ d (.bool (!b)))) w) :
    Oper.wp P ⟨some d, .unOp .not t x, ty, pos, aft, g⟩ (mk n σ) w K Q :=
  o_val (by simp [execOp, hx, Op.unary]) h
/-- A call of a Go function, by its contract. -/
theorem o_call {f : FuncId} {fn : Func} {args : Array Operand} {ats : Array TypeId} {vs : Array Value} (hf : P.funcs[f]? = some fn) (hb : fn.body.isSome = true) (hname : (fn.name == "runtime.NumGoroutine") = false)
    (ha : args.map (ev n σ) = vs)
    (h : Calls P f vs w fun e w' => match e with | .returned v => K (mk n (up σ d v)) w' | _ => False) :
    Oper.wp P ⟨some d, .call ⟨.value (.func f), args, ats⟩, ty, pos, aft, g⟩ (mk n σ) w K Q := by
  unfold Oper.wp
  rw [mk_evalf]
  have hn : fn.body ≠ none := by cases hh : fn.body <;> simp_all
  have hnm : fn.name ≠ "runtime.NumGoroutine" := by intro e; simp [e] at hname
  have : (execOp (ev n σ) ⟨some d, .call ⟨.value (.func f), args, ats⟩, ty, pos, aft, g⟩).run P w = .ok (.enter f vs) w := by
    simp [execOp, resolve, ev, Deferred.ofValue, invoke, callFunc, hf, hnm, hn, ha]
  rw [this, Oper.upon_enter]
  refine h.mono fun e w' he => ?_
  cases e <;> simp only at he ⊢
  rw [mk_put]; exact he
end
theorem mk_defers (n : Nat) (σ : Nat → Value) : (mk n σ).defers = [] := rfl
theorem mk_tmp (n : Nat) (σ : Nat → Value) (t : Nat) : (mk n σ).tmps.getD t undef = ev n σ (.tmp t) := mk_eval n σ (.tmp t)
attribute [irreducible] mk Mid Rnd
end Go.Proofs.YtmiabahejnjhiaaGreatDoor
namespace Go.Proofs.YtmiabahejnjhiaaGreatDoor
open Go
abbrev VI (a : Int) : Value := .int .i64 a
abbrev V8 (x : UInt8) : Value := .int .u8 (x.toNat : Int)
abbrev V32 (x : UInt32) : Value := .int .u32 (x.toNat : Int)
abbrev V64 (x : UInt64) : Value := .int .u64 (x.toNat : Int)
theorem wrap_i64 {n : Int} (h1 : -9223372036854775808 ≤ n) (h2 : n ≤ 9223372036854775807) : IntKind.i64.wrap n = n := by
  exact IntWalk.i64_in n ⟨h1, h2⟩
theorem wrap_uns {k : IntKind} (hk : k.signed = false) (n : Int) : k.wrap n = n % (2 ^ k.bits : Int) := by
  simp [IntKind.wrap, hk]
theorem run_equal_bool {P : Program} {t : TypeId} (hu : P.underlying t = some .bool) (a b : Bool) (w : World) : (Op.equal t (.bool a) (.bool b)).run P w = .ok (a == b) w := by
  unfold Op.equal Op.maxDepth Op.equalIn
  rw [Sem.run_bind, run_underlying hu]
  simp
section
variable {P : Program} {Q : Exit → Act → World → Prop} {n : Nat} {σ : Nat → Value} {w : World} {K : Act → World → Prop}
  {ty : TypeId} {pos : String} {aft : Array Edge} {g : Option (Nat × Bool)} {d : Nat} {t yt : TypeId} {x y : Operand} {op : BinOp}
theorem o_bin {k : IntKind} {a b : Int} {v : Value} (hx : ev n σ x = .int k a) (hy : ev n σ y = .int k b)
    (hr : ∀ w : World, (binOp op t (.int k a) (.int k b)).run P w = .ok v w) (h : K (mk n (up σ d v)) w) :
    Oper.wp P ⟨some d, .binOp op t x y yt, ty, pos, aft, g⟩ (mk n σ) w K Q :=
  o_val (by
    have he : (eqGuard op t x y (.int k a) (.int k b)).run P w = .ok () w := by
      unfold eqGuard
      cases op <;> simp
    simp [execOp, hx, hy, he, hr]) h
theorem o_shift {k yk : IntKind} {a b : Int} {v : Value} (hx : ev n σ x = .int k a) (hy : ev n σ y = .int yk b) (ho : op = .shl ∨ op = .shr)
    (hr : ∀ w : World, (Op.shift op k a yk b).run P w = .ok v w) (h : K (mk n (up σ d v)) w) :
    Oper.wp P ⟨some d, .binOp op t x y yt, ty, pos, aft, g⟩ (mk n σ) w K Q :=
  o_val (by
    rcases ho with rfl | rfl <;> simp [execOp, hx, hy, eqGuard, binOp, hr]) h
theorem o_conv {k : IntKind} {a : Int} {ds : TypeDesc} {k' : IntKind} {v : Int} (hs : P.underlying t = some ds) (hd : P.underlying yt = some (.int k')) (hx : ev n σ x = .int k a)
    (hr : k'.wrap a = v) (h : K (mk n (up σ d (.int k' v))) w) :
    Oper.wp P ⟨some d, .convert t yt x, ty, pos, aft, g⟩ (mk n σ) w K Q :=
  o_val (by
    have h1 : (underlying t).run P w = .ok ds w := run_underlying hs w
    have h2 : (underlying yt).run P w = .ok (.int k') w := run_underlying hd w
    cases ds <;> simp [execOp, hx, convert, h1, h2, Conv.intToInt, hr]) h
end
section
variable {P : Program} {w : World} {t : TypeId}
theorem b_seql (a b : ByteArray) : (Op.stringOp .eql a b).run P w = .ok (.bool (a.toList == b.toList)) w := by simp [Op.stringOp]
theorem b_sneq (a b : ByteArray) : (Op.stringOp .neq a b).run P w = .ok (.bool (!(a.toList == b.toList))) w := by simp [Op.stringOp]
theorem b_add {a b : Int} (h1 : -9223372036854775808 ≤ a + b) (h2 : a + b ≤ 9223372036854775807) : (binOp .add t (VI a) (VI b)).run P w = .ok (VI (a + b)) w := by
  simp [binOp, Op.intArith, wrap_i64 h1 h2]
theorem b_sub {a b : Int} (h1 : -9223372036854775808 ≤ a - b) (h2 : a - b ≤ 9223372036854775807) : (binOp .sub t (VI a) (VI b)).run P w = .ok (VI (a - b)) w := by
  simp [binOp, Op.intArith, wrap_i64 h1 h2]
theorem b_mul {a b : Int} (h1 : -9223372036854775808 ≤ a * b) (h2 : a * b ≤ 9223372036854775807) : (binOp .mul t (VI a) (VI b)).run P w = .ok (VI (a * b)) w := by
  simp [binOp, Op.intArith, wrap_i64 h1 h2]
theorem b_rem {k : IntKind} {a b : Int} (h1 : 0 ≤ a) (h2 : 0 < b) : (binOp .rem t (.int k a) (.int k b)).run P w = .ok (.int k (a % b)) w := by
  simp [binOp, Op.intDiv, Int.ne_of_gt h2, Int.tmod_eq_emod_of_nonneg h1]
theorem b_quo {a b : Int} (h1 : 0 ≤ a) (h2 : 0 < b) (h3 : a ≤ 9223372036854775807) : (binOp .quo t (VI a) (VI b)).run P w = .ok (VI (a / b)) w := by
  have e1 : 0 ≤ a / b := Int.ediv_nonneg h1 (Int.le_of_lt h2)
  have e2 : a / b ≤ a := Int.ediv_le_self _ h1
  simp [binOp, Op.intDiv, Int.ne_of_gt h2, Int.tdiv_eq_ediv_of_nonneg h1, wrap_i64 (n := a / b) (by omega) (by omega)]
theorem b_lss {k : IntKind} {a b : Int} : (binOp .lss t (.int k a) (.int k b)).run P w = .ok (.bool (decide (a < b))) w := by simp [binOp, Op.intCmp]
theorem b_leq {k : IntKind} {a b : Int} : (binOp .leq t (.int k a) (.int k b)).run P w = .ok (.bool (decide (a ≤ b))) w := by simp [binOp, Op.intCmp]
theorem b_gtr {k : IntKind} {a b : Int} : (binOp .gtr t (.int k a) (.int k b)).run P w = .ok (.bool (decide (b < a))) w := by simp [binOp, Op.intCmp]
theorem b_geq {k : IntKind} {a b : Int} : (binOp .geq t (.int k a) (.int k b)).run P w = .ok (.bool (decide (b ≤ a))) w := by simp [binOp, Op.intCmp]
theorem b_eql {k : IntKind} {a b : Int} : (binOp .eql t (.int k a) (.int k b)).run P w = .ok (.bool (decide (a = b))) w := by
  simp [binOp, Op.intCmp]; rfl
theorem b_neq {k : IntKind} {a b : Int} : (binOp .neq t (.int k a) (.int k b)).run P w = .ok (.bool (decide (a ≠ b))) w := by
  simp [binOp, Op.intCmp, bne]; rfl
theorem wrap_u8 (n : Int) : IntKind.u8.wrap n = n % 256 := by rw [wrap_uns rfl]; rfl
theorem u8_lt (x : UInt8) : x.toNat < 256 := x.toNat_lt
theorem bv_u8 (x : UInt8) : BitVec.ofInt 8 (x.toNat : Int) = x.toBitVec := by
  apply BitVec.eq_of_toNat_eq; simp []
theorem bk_u8 (x : UInt8) : IntKind.u8.wrap ((x.toBitVec.toNat : Nat) : Int) = (x.toNat : Int) := by
  have := u8_lt x
  rw [wrap_u8]; simp; omega
theorem b_and_u8 {x y : UInt8} : (binOp .and t (V8 x) (V8 y)).run P w = .ok (V8 (x &&& y)) w := by
  have h := bk_u8 (x &&& y)
  have e : binOp .and t (V8 x) (V8 y) = Sem.pure (.int .u8 (IntKind.u8.wrap ((BitVec.ofInt 8 (x.toNat:Int) &&& BitVec.ofInt 8 (y.toNat:Int)).toNat : Nat))) := rfl
  simp only [UInt8.toBitVec_and] at h
  rw [e, bv_u8, bv_u8, h]; rfl
theorem b_or_u8 {x y : UInt8} : (binOp .or t (V8 x) (V8 y)).run P w = .ok (V8 (x ||| y)) w := by
  have h := bk_u8 (x ||| y)
  have e : binOp .or t (V8 x) (V8 y) = Sem.pure (.int .u8 (IntKind.u8.wrap ((BitVec.ofInt 8 (x.toNat:Int) ||| BitVec.ofInt 8 (y.toNat:Int)).toNat : Nat))) := rfl
  simp only [UInt8.toBitVec_or] at h
  rw [e, bv_u8, bv_u8, h]; rfl
theorem b_xor_u8 {x y : UInt8} : (binOp .xor t (V8 x) (V8 y)).run P w = .ok (V8 (x ^^^ y)) w := by
  have h := bk_u8 (x ^^^ y)
  have e : binOp .xor t (V8 x) (V8 y) = Sem.pure (.int .u8 (IntKind.u8.wrap ((BitVec.ofInt 8 (x.toNat:Int) ^^^ BitVec.ofInt 8 (y.toNat:Int)).toNat : Nat))) := rfl
  simp only [UInt8.toBitVec_xor] at h
  rw [e, bv_u8, bv_u8, h]; rfl
theorem b_andNot_u8 {x y : UInt8} : (binOp .andNot t (V8 x) (V8 y)).run P w = .ok (V8 (x &&& ~~~ y)) w := by
  have h := bk_u8 (x &&& ~~~ y)
  have e : binOp .andNot t (V8 x) (V8 y) = Sem.pure (.int .u8 (IntKind.u8.wrap ((BitVec.ofInt 8 (x.toNat:Int) &&& ~~~ BitVec.ofInt 8 (y.toNat:Int)).toNat : Nat))) := rfl
  simp only [UInt8.toBitVec_and, UInt8.toBitVec_not] at h
  rw [e, bv_u8, bv_u8, h]; rfl
theorem wrap_u32 (n : Int) : IntKind.u32.wrap n = n % 4294967296 := by rw [wrap_uns rfl]; rfl
theorem u32_lt (x : UInt32) : x.toNat < 4294967296 := x.toNat_lt
theorem b_add_u32 {x y : UInt32} : (binOp .add t (V32 x) (V32 y)).run P w = .ok (V32 (x + y)) w := by
  have : ((x + y).toNat : Int) = (x.toNat + y.toNat : Int) % 4294967296 := by rw [UInt32.toNat_add]; simp
  simp [binOp, Op.intArith, wrap_u32]
theorem bv_u32 (x : UInt32) : BitVec.ofInt 32 (x.toNat : Int) = x.toBitVec := by
  apply BitVec.eq_of_toNat_eq; simp []
theorem bk_u32 (x : UInt32) : IntKind.u32.wrap ((x.toBitVec.toNat : Nat) : Int) = (x.toNat : Int) := by
  have := u32_lt x
  rw [wrap_u32]; simp; omega
theorem b_and_u32 {x y : UInt32} : (binOp .and t (V32 x) (V32 y)).run P w = .ok (V32 (x &&& y)) w := by
  have h := bk_u32 (x &&& y)
  have e : binOp .and t (V32 x) (V32 y) = Sem.pure (.int .u32 (IntKind.u32.wrap ((BitVec.ofInt 32 (x.toNat:Int) &&& BitVec.ofInt 32 (y.toNat:Int)).toNat : Nat))) := rfl
  simp only [UInt32.toBitVec_and] at h
  rw [e, bv_u32, bv_u32, h]; rfl
theorem b_or_u32 {x y : UInt32} : (binOp .or t (V32 x) (V32 y)).run P w = .ok (V32 (x ||| y)) w := by
  have h := bk_u32 (x ||| y)
  have e : binOp .or t (V32 x) (V32 y) = Sem.pure (.int .u32 (IntKind.u32.wrap ((BitVec.ofInt 32 (x.toNat:Int) ||| BitVec.ofInt 32 (y.toNat:Int)).toNat : Nat))) := rfl
  simp only [UInt32.toBitVec_or] at h
  rw [e, bv_u32, bv_u32, h]; rfl
theorem b_xor_u32 {x y : UInt32} : (binOp .xor t (V32 x) (V32 y)).run P w = .ok (V32 (x ^^^ y)) w := by
  have h := bk_u32 (x ^^^ y)
  have e : binOp .xor t (V32 x) (V32 y) = Sem.pure (.int .u32 (IntKind.u32.wrap ((BitVec.ofInt 32 (x.toNat:Int) ^^^ BitVec.ofInt 32 (y.toNat:Int)).toNat : Nat))) := rfl
  simp only [UInt32.toBitVec_xor] at h
  rw [e, bv_u32, bv_u32, h]; rfl
theorem b_not_u32 {x : UInt32} : (Op.unary .xor (V32 x)).run P w = .ok (V32 (~~~x)) w := by
  have h := bk_u32 (~~~x)
  have e1 : BitVec.ofInt 32 IntKind.u32.max ^^^ x.toBitVec = ~~~x.toBitVec := by
    have : BitVec.ofInt 32 IntKind.u32.max = BitVec.allOnes 32 := by decide
    rw [this, BitVec.allOnes_xor]
  have e : Op.unary .xor (V32 x) = Sem.pure (.int .u32 (IntKind.u32.wrap ((BitVec.ofInt 32 IntKind.u32.max ^^^ BitVec.ofInt 32 (x.toNat:Int)).toNat : Nat))) := rfl
  simp only [UInt32.toBitVec_not] at h
  rw [e, bv_u32, e1, h]; rfl
theorem b_shl_u32 {x : UInt32} {yk : IntKind} {c : Int} (h0 : 0 ≤ c) (h1 : c < 32) : (Op.shift .shl .u32 (x.toNat : Int) yk c).run P w = .ok (V32 (x <<< UInt32.ofNat c.toNat)) w := by
  obtain ⟨m, rfl⟩ := Int.eq_ofNat_of_zero_le h0
  have hm : m < 32 := by omega
  have e : ((x <<< UInt32.ofNat m).toNat : Int) = ((x.toNat : Int) * 2 ^ m) % 4294967296 := by
    rw [UInt32.toNat_shiftLeft]
    have : (UInt32.ofNat m).toNat % 32 = m := by rw [UInt32.toNat_ofNat']; omega
    rw [this, Nat.shiftLeft_eq]; simp
  have e2 : Op.shift .shl .u32 (x.toNat : Int) yk (m : Int) = Sem.pure (.int .u32 (IntKind.u32.wrap ((x.toNat : Int) * 2 ^ (min (m : Int).toNat 32)))) := by
    unfold Op.shift
    rw [if_neg (by omega)]; rfl
  rw [e2, Int.toNat_natCast, Nat.min_eq_left (Nat.le_of_lt hm), wrap_u32, ← e]; rfl
theorem b_shr_u32 {x : UInt32} {yk : IntKind} {c : Int} (h0 : 0 ≤ c) (h1 : c < 32) : (Op.shift .shr .u32 (x.toNat : Int) yk c).run P w = .ok (V32 (x >>> UInt32.ofNat c.toNat)) w := by
  obtain ⟨m, rfl⟩ := Int.eq_ofNat_of_zero_le h0
  have hm : m < 32 := by omega
  have e : ((x >>> UInt32.ofNat m).toNat : Int) = (x.toNat : Int) / 2 ^ m := by
    rw [UInt32.toNat_shiftRight]
    have : (UInt32.ofNat m).toNat % 32 = m := by rw [UInt32.toNat_ofNat']; omega
    rw [this, Nat.shiftRight_eq_div_pow]; simp
  have e3 : (x.toNat : Int).fdiv (2 ^ m) = (x.toNat : Int) / 2 ^ m := by
    rw [Int.fdiv_eq_ediv_of_nonneg]; exact Int.le_of_lt (Int.pow_pos (by omega))
  have e2 : Op.shift .shr .u32 (x.toNat : Int) yk (m : Int) = Sem.pure (.int .u32 ((x.toNat : Int).fdiv (2 ^ (min (m : Int).toNat 32)))) := by
    unfold Op.shift
    rw [if_neg (by omega)]; rfl
  rw [e2, Int.toNat_natCast, Nat.min_eq_left (Nat.le_of_lt hm), e3, ← e]; rfl
theorem wrap_u64 (n : Int) : IntKind.u64.wrap n = n % 18446744073709551616 := by rw [wrap_uns rfl]; rfl
theorem u64_lt (x : UInt64) : x.toNat < 18446744073709551616 := x.toNat_lt
theorem b_add_u64 {x y : UInt64} : (binOp .add t (V64 x) (V64 y)).run P w = .ok (V64 (x + y)) w := by
  have : ((x + y).toNat : Int) = (x.toNat + y.toNat : Int) % 18446744073709551616 := by rw [UInt64.toNat_add]; simp
  simp [binOp, Op.intArith, wrap_u64]
theorem b_sub_u64 {x y : UInt64} : (binOp .sub t (V64 x) (V64 y)).run P w = .ok (V64 (x - y)) w := by
  have hx := u64_lt x
  have hy := u64_lt y
  have : ((x - y).toNat : Int) = (x.toNat - y.toNat : Int) % 18446744073709551616 := by rw [UInt64.toNat_sub]; omega
  simp [binOp, Op.intArith, wrap_u64, this]
theorem b_mul_u64 {x y : UInt64} : (binOp .mul t (V64 x) (V64 y)).run P w = .ok (V64 (x * y)) w := by
  have : ((x * y).toNat : Int) = (x.toNat * y.toNat : Int) % 18446744073709551616 := by rw [UInt64.toNat_mul]; simp
  simp [binOp, Op.intArith, wrap_u64]
theorem bv_u64 (x : UInt64) : BitVec.ofInt 64 (x.toNat : Int) = x.toBitVec := by
  apply BitVec.eq_of_toNat_eq; simp []
theorem bk_u64 (x : UInt64) : IntKind.u64.wrap ((x.toBitVec.toNat : Nat) : Int) = (x.toNat : Int) := by
  have := u64_lt x
  rw [wrap_u64]; simp; omega
theorem b_and_u64 {x y : UInt64} : (binOp .and t (V64 x) (V64 y)).run P w = .ok (V64 (x &&& y)) w := by
  have h := bk_u64 (x &&& y)
  have e : binOp .and t (V64 x) (V64 y) = Sem.pure (.int .u64 (IntKind.u64.wrap ((BitVec.ofInt 64 (x.toNat:Int) &&& BitVec.ofInt 64 (y.toNat:Int)).toNat : Nat))) := rfl
  simp only [UInt64.toBitVec_and] at h
  rw [e, bv_u64, bv_u64, h]; rfl
theorem b_or_u64 {x y : UInt64} : (binOp .or t (V64 x) (V64 y)).run P w = .ok (V64 (x ||| y)) w := by
  have h := bk_u64 (x ||| y)
  have e : binOp .or t (V64 x) (V64 y) = Sem.pure (.int .u64 (IntKind.u64.wrap ((BitVec.ofInt 64 (x.toNat:Int) ||| BitVec.ofInt 64 (y.toNat:Int)).toNat : Nat))) := rfl
  simp only [UInt64.toBitVec_or] at h
  rw [e, bv_u64, bv_u64, h]; rfl
theorem b_xor_u64 {x y : UInt64} : (binOp .xor t (V64 x) (V64 y)).run P w = .ok (V64 (x ^^^ y)) w := by
  have h := bk_u64 (x ^^^ y)
  have e : binOp .xor t (V64 x) (V64 y) = Sem.pure (.int .u64 (IntKind.u64.wrap ((BitVec.ofInt 64 (x.toNat:Int) ^^^ BitVec.ofInt 64 (y.toNat:Int)).toNat : Nat))) := rfl
  simp only [UInt64.toBitVec_xor] at h
  rw [e, bv_u64, bv_u64, h]; rfl
theorem b_shl_u64 {x : UInt64} {yk : IntKind} {c : Int} (h0 : 0 ≤ c) (h1 : c < 64) : (Op.shift .shl .u64 (x.toNat : Int) yk c).run P w = .ok (V64 (x <<< UInt64.ofNat c.toNat)) w := by
  obtain ⟨m, rfl⟩ := Int.eq_ofNat_of_zero_le h0
  have hm : m < 64 := by omega
  have e : ((x <<< UInt64.ofNat m).toNat : Int) = ((x.toNat : Int) * 2 ^ m) % 18446744073709551616 := by
    rw [UInt64.toNat_shiftLeft]
    have : (UInt64.ofNat m).toNat % 64 = m := by rw [UInt64.toNat_ofNat']; omega
    rw [this, Nat.shiftLeft_eq]; simp
  have e2 : Op.shift .shl .u64 (x.toNat : Int) yk (m : Int) = Sem.pure (.int .u64 (IntKind.u64.wrap ((x.toNat : Int) * 2 ^ (min (m : Int).toNat 64)))) := by
    unfold Op.shift
    rw [if_neg (by omega)]; rfl
  rw [e2, Int.toNat_natCast, Nat.min_eq_left (Nat.le_of_lt hm), wrap_u64, ← e]; rfl
theorem b_shr_u64 {x : UInt64} {yk : IntKind} {c : Int} (h0 : 0 ≤ c) (h1 : c < 64) : (Op.shift .shr .u64 (x.toNat : Int) yk c).run P w = .ok (V64 (x >>> UInt64.ofNat c.toNat)) w := by
  obtain ⟨m, rfl⟩ := Int.eq_ofNat_of_zero_le h0
  have hm : m < 64 := by omega
  have e : ((x >>> UInt64.ofNat m).toNat : Int) = (x.toNat : Int) / 2 ^ m := by
    rw [UInt64.toNat_shiftRight]
    have : (UInt64.ofNat m).toNat % 64 = m := by rw [UInt64.toNat_ofNat']; omega
    rw [this, Nat.shiftRight_eq_div_pow]; simp
  have e3 : (x.toNat : Int).fdiv (2 ^ m) = (x.toNat : Int) / 2 ^ m := by
    rw [Int.fdiv_eq_ediv_of_nonneg]; exact Int.le_of_lt (Int.pow_pos (by omega))
  have e2 : Op.shift .shr .u64 (x.toNat : Int) yk (m : Int) = Sem.pure (.int .u64 ((x.toNat : Int).fdiv (2 ^ (min (m : Int).toNat 64)))) := by
    unfold Op.shift
    rw [if_neg (by omega)]; rfl
  rw [e2, Int.toNat_natCast, Nat.min_eq_left (Nat.le_of_lt hm), e3, ← e]; rfl
theorem w_i64_8 (x : UInt8) : IntKind.i64.wrap (x.toNat : Int) = (x.toNat : Int) := wrap_i64 (by omega) (by have := u8_lt x; omega)
theorem w_i64_64 {x : UInt64} (h : (x.toNat : Int) ≤ 9223372036854775807) : IntKind.i64.wrap (x.toNat : Int) = (x.toNat : Int) := wrap_i64 (by omega) h
theorem w_u32_8 (x : UInt8) : IntKind.u32.wrap (x.toNat : Int) = (x.toUInt32.toNat : Int) := by
  have := u8_lt x
  rw [wrap_u32, UInt8.toNat_toUInt32]; omega
theorem w_u64_8 (x : UInt8) : IntKind.u64.wrap (x.toNat : Int) = (x.toUInt64.toNat : Int) := by
  have := u8_lt x
  rw [wrap_u64, UInt8.toNat_toUInt64]; omega
theorem w_u8_64 (x : UInt64) : IntKind.u8.wrap (x.toNat : Int) = (x.toUInt8.toNat : Int) := by
  rw [wrap_u8, UInt64.toNat_toUInt8]; simp
theorem w_u8_32 (x : UInt32) : IntKind.u8.wrap (x.toNat : Int) = (x.toUInt8.toNat : Int) := by
  rw [wrap_u8, UInt32.toNat_toUInt8]; simp
theorem w_u64_i {a : Int} (h0 : 0 ≤ a) : IntKind.u64.wrap a = ((UInt64.ofNat a.toNat).toNat : Int) := by
  obtain ⟨m, rfl⟩ := Int.eq_ofNat_of_zero_le h0
  rw [wrap_u64, UInt64.toNat_ofNat']; simp
theorem w_u8_i {a : Int} (h0 : 0 ≤ a) : IntKind.u8.wrap a = ((UInt8.ofNat a.toNat).toNat : Int) := by
  obtain ⟨m, rfl⟩ := Int.eq_ofNat_of_zero_le h0
  rw [wrap_u8, UInt8.toNat_ofNat']; simp
end
section
variable {n : Nat} {σ : Nat → Value}
theorem c8 (k : Nat) (h : k < 256) : ev n σ (.const (.int .u8 (k : Int))) = V8 (UInt8.ofNat k) := by
  simp only [ev, V8, UInt8.toNat_ofNat']
  congr 1; omega
theorem c32 (k : Nat) (h : k < 4294967296) : ev n σ (.const (.int .u32 (k : Int))) = V32 (UInt32.ofNat k) := by
  simp only [ev, V32, UInt32.toNat_ofNat']
  congr 1; omega
theorem c64 (k : Nat) (h : k < 18446744073709551616) : ev n σ (.const (.int .u64 (k : Int))) = V64 (UInt64.ofNat k) := by
  simp only [ev, V64, UInt64.toNat_ofNat']
  congr 1; omega
end
end Go.Proofs.YtmiabahejnjhiaaGreatDoor
namespace Go.Proofs.YtmiabahejnjhiaaGreatDoor
open Go
/-- What is known of one block: all its cells; or a slice of the call's own from the block's head on; or another object. -/
inductive Ch where
  | blk (b : Nat) (C : List Value) (T : TypeId)
  | own (a : Option Nat) (len cap : Nat) (xs : List Value) (T : TypeId) (sz : Nat)
  | obj (b : Nat) (o : Obj)
def Ch.key : Ch → Option Nat
  | .blk b _ _ => some b
  | .own a _ _ _ _ _ => a
  | .obj b _ => some b
def Ch.ok (w : World) : Ch → Prop
  | .blk b C T => w.heap[b]? = some (.cells C.toArray T (0, 0))
  | .own none len cap xs _ _ => len = 0 ∧ cap = 0 ∧ xs = []
  | .own (some b) len cap xs T sz => xs.length = len * sz ∧ len ≤ cap ∧ cap ≤ maxLen ∧ ∃ rest, w.heap[b]? = some (.cells (xs ++ rest).toArray T (0, 0)) ∧ (xs ++ rest).length = cap * sz
  | .obj b o => w.heap[b]? = some o
def hd (a : Option Nat) : Option Addr := a.map fun b => ⟨b, 0, none⟩
theorem Ch.ok_of {w w' : World} {c : Ch} (h : c.ok w) (he : ∀ b, c.key = some b → w'.heap[b]? = w.heap[b]?) : c.ok w' := by
  cases c with
  | blk b C T => simp only [Ch.ok] at *; rw [he b rfl]; exact h
  | obj b o => simp only [Ch.ok] at *; rw [he b rfl]; exact h
  | own a len cap xs T sz => cases a with
    | none => exact h
    | some b => simp only [Ch.ok] at *; rw [he b rfl]; exact h
theorem Ch.lt {w : World} {c : Ch} (h : c.ok w) {b : Nat} (hb : c.key = some b) : b < w.heap.size := by
  have aux : ∀ o, w.heap[b]? = some o → b < w.heap.size := fun o ho => (Array.getElem?_eq_some_iff.1 ho).1
  cases c with
  | blk b' C T => cases hb; exact aux _ h
  | obj b' o => cases hb; exact aux _ h
  | own a len cap xs T sz => cases a with
    | none => cases hb
    | some b' => cases hb; obtain ⟨_, _, _, r, h, _⟩ := h; exact aux _ h
/-- w came of w0: of w0's blocks only those of S may have turned; the chunks of L stand. -/
structure Hp (w0 w : World) (S : List Nat) (L : List Ch) : Prop where
  os : w.os = w0.os
  tape : w.tape = w0.tape
  output : w.output = w0.output
  size : w0.heap.size ≤ w.heap.size
  frame : ∀ b, b < w0.heap.size → b ∉ S → w.heap[b]? = w0.heap[b]?
  has : ∀ c ∈ L, c.ok w
  fresh : ∀ c ∈ L, ∀ b, c.key = some b → b ∈ S ∨ w0.heap.size ≤ b
  nd : L.Pairwise fun c e => ∀ b, c.key = some b → e.key ≠ some b
theorem Hp.refl (w : World) (S : List Nat) : Hp w w S [] := ⟨rfl, rfl, rfl, Nat.le_refl _, fun _ _ _ => rfl, (by simp), (by simp), .nil⟩
theorem Hp.start (w : World) (c : Ch) (b : Nat) (h : c.ok w) (hk : c.key = some b) : Hp w w [b] [c] :=
  ⟨rfl, rfl, rfl, Nat.le_refl _, fun _ _ _ => rfl, (by simpa using h), (by simp [hk]), by simp⟩
theorem Hp.drew {w0 w : World} {S L} (h : Hp w0 w S L) : Hp w0 w.drew S L :=
  ⟨h.os, h.tape, h.output, h.size, h.frame, fun c hc => Ch.ok_of (h.has c hc) (fun _ _ => rfl), h.fresh, h.nd⟩
theorem Hp.sub {w0 w : World} {S L L'} (h : Hp w0 w S L) (hs : L'.Sublist L) : Hp w0 w S L' :=
  ⟨h.os, h.tape, h.output, h.size, h.frame, fun c hc => h.has c (hs.subset hc), fun c hc => h.fresh c (hs.subset hc), h.nd.sublist hs⟩
theorem Hp.below {w0 w : World} {L} (h : Hp w0 w [] L) : RowKit.Below w0.heap.size w0 w := ⟨h.os, h.tape, h.output, h.size, fun k hk => h.frame k hk (by simp)⟩
theorem heap_alloc_new' (w : World) (o : Obj) : (w.alloc o).heap[w.heap.size]? = some o := heap_alloc_new w o
theorem heap_alloc_old' (w : World) (o : Obj) (k : Nat) (h : k ≠ w.heap.size) : (w.alloc o).heap[k]? = w.heap[k]? := by
  show (w.heap.push o)[k]? = _
  rw [Array.getElem?_push, if_neg h]
/-- a new block. -/
theorem Hp.new {w0 w : World} {S L} (h : Hp w0 w S L) (o : Obj) (c : Ch) (hk : c.key = some w.heap.size) (hc : c.ok (w.alloc o)) : Hp w0 (w.alloc o) S (L ++ [c]) := by
  refine ⟨h.os, h.tape, h.output, ?_, ?_, ?_, ?_, ?_⟩
  · have := h.size; simp; omega
  · intro b hb hn
    rw [heap_alloc_old' _ _ _ (by have := h.size; omega)]
    exact h.frame b hb hn
  · intro e he
    rcases List.mem_append.1 he with he | he
    · exact Ch.ok_of (h.has e he) fun b hb => heap_alloc_old' _ _ _ (by have := Ch.lt (h.has e he) hb; omega)
    · simp at he; subst he; exact hc
  · intro e he b hb
    rcases List.mem_append.1 he with he | he
    · exact h.fresh e he b hb
    · simp at he; subst he; rw [hk] at hb; cases hb; exact .inr h.size
  · rw [List.pairwise_append]
    refine ⟨h.nd, by simp, fun e he f hf b hb => ?_⟩
    simp at hf; subst hf
    rw [hk]; intro e'; cases e'
    have := Ch.lt (h.has e he) hb; omega
theorem Hp.alloc {w0 w : World} {S L} (h : Hp w0 w S L) (C : List Value) (T : TypeId) : Hp w0 (w.alloc (.cells C.toArray T)) S (L ++ [.blk w.heap.size C T]) :=
  h.new _ _ rfl (heap_alloc_new' w _)
theorem mem_set_cases {α : Type} {L : List α} {i : Nat} {c e : α} (h : e ∈ L.set i c) : e = c ∨ ∃ j, j ≠ i ∧ L[j]? = some e := by
  obtain ⟨j, hj⟩ := List.getElem?_of_mem h
  by_cases hij : i = j
  · subst hij
    rw [List.getElem?_set] at hj
    simp at hj
    exact .inl hj.2.symm
  · rw [List.getElem?_set_ne hij] at hj
    exact .inr ⟨j, Ne.symm hij, hj⟩
theorem pw_ne {L : List Ch} (h : L.Pairwise fun c e => ∀ b, c.key = some b → e.key ≠ some b) {i j : Nat} {c e : Ch} (hi : L[i]? = some c) (hj : L[j]? = some e) (hij : i ≠ j) {b : Nat} (hb : c.key = some b) : e.key ≠ some b := by
  rw [List.pairwise_iff_getElem] at h
  obtain ⟨hi', rfl⟩ := List.getElem?_eq_some_iff.1 hi
  obtain ⟨hj', rfl⟩ := List.getElem?_eq_some_iff.1 hj
  rcases Nat.lt_or_gt_of_ne hij with hlt | hlt
  · exact h i j hi' hj' hlt b hb
  · intro he
    exact h j i hj' hi' hlt b he hb
/-- chunk i turns: the new chunk lies in the old one's block, or in a new one; no other known block turns. -/
theorem Hp.turn {w0 w w' : World} {S L} (h : Hp w0 w S L) {i : Nat} {c c' : Ch} (hi : L[i]? = some c) (hok : c'.ok w') (hk : ∀ b, c'.key = some b → c.key = some b ∨ w.heap.size ≤ b)
    (hos : w'.os = w.os) (htape : w'.tape = w.tape) (hout : w'.output = w.output) (hsize : w.heap.size ≤ w'.heap.size)
    (hother : ∀ b, b < w.heap.size → c.key ≠ some b → w'.heap[b]? = w.heap[b]?) : Hp w0 w' S (L.set i c') := by
  have hmem := List.mem_of_getElem? hi
  refine ⟨hos.trans h.os, htape.trans h.tape, hout.trans h.output, Nat.le_trans h.size hsize, ?_, ?_, ?_, ?_⟩
  · intro b hb hn
    rw [hother b (Nat.lt_of_lt_of_le hb h.size) ?_, h.frame b hb hn]
    intro hc
    rcases h.fresh c hmem b hc with h1 | h1
    · exact hn h1
    · omega
  · intro e he
    rcases mem_set_cases he with rfl | ⟨j, hj, hje⟩
    · exact hok
    · have hm := List.mem_of_getElem? hje
      refine Ch.ok_of (h.has e hm) fun b hb => hother b (Ch.lt (h.has e hm) hb) fun hc => ?_
      exact pw_ne h.nd hi hje (Ne.symm hj) hc hb
  · intro e he b hb
    rcases mem_set_cases he with rfl | ⟨j, hj, hje⟩
    · rcases hk b hb with h1 | h1
      · exact h.fresh c hmem b h1
      · exact .inr (Nat.le_trans h.size h1)
    · exact h.fresh e (List.mem_of_getElem? hje) b hb
  · rw [List.pairwise_iff_getElem]
    intro j k hj hk' hlt b hb
    simp only [List.length_set] at hj hk'
    have key : ∀ m (hm : m < L.length), m ≠ i → (L[m]).key = some b → c'.key ≠ some b := fun m hm hne hb' hc' => by
      have hmok := h.has _ (List.getElem_mem hm)
      rcases hk b hc' with h1 | h1
      · exact pw_ne h.nd hi (List.getElem?_eq_getElem hm) (Ne.symm hne) h1 hb'
      · have := Ch.lt hmok hb'; omega
    rw [List.getElem_set] at hb ⊢
    by_cases h1 : i = j
    · rw [if_pos h1] at hb
      rw [if_neg (by omega)]
      intro he
      exact key k hk' (by omega) he hb
    · rw [if_neg h1] at hb
      by_cases h2 : i = k
      · rw [if_pos h2]; exact key j hj (Ne.symm h1) hb
      · rw [if_neg h2]
        exact (List.pairwise_iff_getElem.1 h.nd) j k hj hk' hlt b hb
/-- a row is laid anew. -/
theorem Hp.row {w0 w : World} {S L} (h : Hp w0 w S L) {i b : Nat} {c c' : Ch} {C C' : List Value} {T : TypeId} (hi : L[i]? = some c) (hk : c.key = some b) (hk' : c'.key = some b)
    (hw : w.heap[b]? = some (.cells C.toArray T (0, 0))) (hok : ∀ w' : World, w'.heap[b]? = some (.cells C'.toArray T (0, 0)) → c'.ok w') : Hp w0 (w.setRow b C'.toArray) S (L.set i c') :=
  h.turn hi (hok _ (setRow_heap w b _ _ T (0, 0) hw)) (fun b' hb' => .inl (by rw [hk] ; rw [hk'] at hb'; exact hb')) rfl rfl rfl (by simp)
    (fun b' _ hne => setRow_other w b b' _ (fun e => hne (by rw [hk, e])))
/-- a call that turns nothing that was there. -/
theorem Hp.call {w0 w w' : World} {S L L'} (h : Hp w0 w S L) (hc : Hp w w' [] L') : Hp w0 w' S (L ++ L') := by
  refine ⟨hc.os.trans h.os, hc.tape.trans h.tape, hc.output.trans h.output, Nat.le_trans h.size hc.size, ?_, ?_, ?_, ?_⟩
  · intro b hb hn
    rw [hc.frame b (Nat.lt_of_lt_of_le hb h.size) (by simp), h.frame b hb hn]
  · intro e he
    rcases List.mem_append.1 he with he | he
    · exact Ch.ok_of (h.has e he) fun b hb => hc.frame b (Ch.lt (h.has e he) hb) (by simp)
    · exact hc.has e he
  · intro e he b hb
    rcases List.mem_append.1 he with he | he
    · exact h.fresh e he b hb
    · rcases hc.fresh e he b hb with h1 | h1
      · simp at h1
      · exact .inr (Nat.le_trans h.size h1)
  · rw [List.pairwise_append]
    refine ⟨h.nd, hc.nd, fun e he f hf b hb hb' => ?_⟩
    rcases hc.fresh f hf b hb' with h1 | h1
    · simp at h1
    · have := Ch.lt (h.has e he) hb; omega
/-- a call that turns chunk i. -/
theorem Hp.callAt {w0 w w' : World} {S L L'} (h : Hp w0 w S L) {i b : Nat} {c c' : Ch} (hi : L[i]? = some c) (hk : c.key = some b) (hk' : c'.key = some b) (hc : Hp w w' [b] (c' :: L')) : Hp w0 w' S (L.set i c' ++ L') := by
  have h1 : Hp w0 w' S (L.set i c') := h.turn hi (hc.has c' (by simp)) (fun b' hb' => .inl (by rw [hk]; rw [hk'] at hb'; exact hb')) hc.os hc.tape hc.output hc.size
    (fun b' hb' hne => hc.frame b' hb' (by simp; intro e; exact hne (by rw [hk, e])))
  have hnd := List.pairwise_cons.1 hc.nd
  refine ⟨h1.os, h1.tape, h1.output, h1.size, h1.frame, ?_, ?_, ?_⟩
  · intro e he
    rcases List.mem_append.1 he with he | he
    · exact h1.has e he
    · exact hc.has e (by simp [he])
  · intro e he b' hb
    rcases List.mem_append.1 he with he | he
    · exact h1.fresh e he b' hb
    · rcases hc.fresh e (by simp [he]) b' hb with h2 | h2
      · simp at h2; subst h2; exact absurd hb (hnd.1 e he _ hk')
      · exact .inr (Nat.le_trans h.size h2)
  · rw [List.pairwise_append]
    refine ⟨h1.nd, hnd.2, fun e he f hf b' hb hb' => ?_⟩
    rcases hc.fresh f (by simp [hf]) b' hb' with h2 | h2
    · simp at h2; subst h2; exact hnd.1 f hf _ hk' hb'
    · rcases mem_set_cases he with rfl | ⟨j, hj, hje⟩
      · rw [hk'] at hb; cases hb; exact hnd.1 f hf _ hk' hb'
      · have := Ch.lt (h.has e (List.mem_of_getElem? hje)) hb; omega
/-- from the slice's beginning on the cells are vs. -/
def RdS (w : World) (a : Option Addr) (vs : List Value) : Prop :=
  vs = [] ∨ ∃ b o C T fr, a = some ⟨b, o, none⟩ ∧ w.heap[b]? = some (.cells C T fr) ∧ ∀ i v, vs[i]? = some v → C[o + i]? = some v
def Apart (a : Option Addr) (S : List Nat) : Prop := ∀ x, a = some x → x.block ∉ S
theorem apart_nil (a : Option Addr) : Apart a [] := fun _ _ => by simp
theorem RdS.nil (w : World) (a : Option Addr) : RdS w a [] := .inl rfl
theorem RdS.of_heap {w w' : World} {a : Option Addr} {vs : List Value} (h : RdS w a vs) (he : ∀ x, a = some x → x.block < w.heap.size → w'.heap[x.block]? = w.heap[x.block]?) : RdS w' a vs := by
  rcases h with h | ⟨b, o, C, T, fr, ha, hb, hc⟩
  · exact .inl h
  · exact .inr ⟨b, o, C, T, fr, ha, by rw [he _ ha (Array.getElem?_eq_some_iff.1 hb).1]; exact hb, hc⟩
theorem Hp.rd {w0 w : World} {S L} (h : Hp w0 w S L) {a : Option Addr} {vs : List Value} (hr : RdS w0 a vs) (hap : Apart a S) : RdS w a vs :=
  hr.of_heap fun x hx hlt => h.frame _ hlt (hap x hx)
theorem RdS.cell {w : World} {a : Option Addr} {vs : List Value} (h : RdS w a vs) {i : Nat} {v : Value} (hv : vs[i]? = some v) : ∃ b o, a = some ⟨b, o, none⟩ ∧ w.cell? ⟨b, o + i, none⟩ = some v := by
  rcases h with rfl | ⟨b, o, C, T, fr, ha, hb, hc⟩
  · simp at hv
  · exact ⟨b, o, ha, by simp [World.cell?, hb, hc i v hv]⟩
theorem RdS.drop {w : World} {a : Option Addr} {vs : List Value} (h : RdS w a vs) (k : Nat) : RdS w (a.map (·.add k)) (vs.drop k) := by
  rcases h with rfl | ⟨b, o, C, T, fr, rfl, hb, hc⟩
  · exact .inl (by simp)
  · refine .inr ⟨b, o + k, C, T, fr, ?_, hb, fun i v hv => ?_⟩
    · simp only [Option.map_some, Addr.add]
      by_cases hk : k = 0
      · subst hk; simp
      · rw [if_neg hk]
    · rw [List.getElem?_drop] at hv
      have := hc (k + i) v hv
      rwa [← Nat.add_assoc] at this
theorem RdS.take {w : World} {a : Option Addr} {vs : List Value} (h : RdS w a vs) (k : Nat) : RdS w a (vs.take k) := by
  rcases h with rfl | ⟨b, o, C, T, fr, rfl, hb, hc⟩
  · exact .inl (by simp)
  · refine .inr ⟨b, o, C, T, fr, rfl, hb, fun i v hv => hc i v ?_⟩
    rw [List.getElem?_take] at hv
    split at hv
    · exact hv
    · cases hv
theorem Ch.rd_own {w : World} {a : Option Nat} {len cap : Nat} {xs : List Value} {T sz} (h : (Ch.own a len cap xs T sz).ok w) : RdS w (hd a) xs := by
  cases a with
  | none => exact .inl h.2.2
  | some b =>
    obtain ⟨_, _, _, rest, hb, _⟩ := h
    refine .inr ⟨b, 0, _, T, (0, 0), rfl, hb, fun i v hv => ?_⟩; have hi : i < xs.length := (List.getElem?_eq_some_iff.1 hv).1
    simp [List.getElem?_append_left hi, hv]
theorem Ch.rd_blk {w : World} {b : Nat} {C : List Value} {T} (h : (Ch.blk b C T).ok w) (o : Nat) : RdS w (some ⟨b, o, none⟩) (C.drop o) :=
  .inr ⟨b, o, _, T, (0, 0), rfl, h, fun i v hv => by simpa [List.getElem?_drop] using hv⟩
theorem Ch.rd_all {w : World} {b : Nat} {C : List Value} {T} (h : (Ch.blk b C T).ok w) : RdS w (some ⟨b, 0, none⟩) C := by simpa using Ch.rd_blk h 0
theorem Hp.own {w0 w : World} {S L} (h : Hp w0 w S L) {i : Nat} {a : Option Nat} {len cap : Nat} {xs : List Value} {T sz} (hi : L[i]? = some (.own a len cap xs T sz)) : RdS w (hd a) xs :=
  Ch.rd_own (h.has _ (List.mem_of_getElem? hi))
theorem Hp.blk {w0 w : World} {S L} (h : Hp w0 w S L) {i b : Nat} {C : List Value} {T} (hi : L[i]? = some (.blk b C T)) : w.heap[b]? = some (.cells C.toArray T (0, 0)) :=
  h.has _ (List.mem_of_getElem? hi)
def cellTy (P : Program) (t : TypeId) : Bool := match P.underlying t with | some (.struct _) | some (.array _ _) => false | some _ => true | none => false
def rowTy (P : Program) (t : TypeId) : Option Nat := match P.underlying t with | some (.struct _) | some (.array _ _) => (P.info? t).map (·.size) | _ => none
def cellSz (P : Program) (t : TypeId) : Option Nat := (P.info? t).map (·.size)
theorem run_isAgg_cell {P : Program} {t : TypeId} (h : cellTy P t = true) (w : World) : (isAgg t).run P w = .ok false w := by
  unfold cellTy at h
  cases hu : P.underlying t with
  | none => simp [hu] at h
  | some d => cases d <;> simp_all [isAgg, run_underlying hu]
theorem run_isAgg_row {P : Program} {t : TypeId} {k : Nat} (h : rowTy P t = some k) (w : World) : (isAgg t).run P w = .ok true w := by
  unfold rowTy at h
  cases hu : P.underlying t with
  | none => simp [hu] at h
  | some d => cases d <;> simp_all [isAgg, run_underlying hu]
theorem sz_of_row {P : Program} {t : TypeId} {k : Nat} (h : rowTy P t = some k) : cellSz P t = some k := by
  unfold rowTy at h
  cases hu : P.underlying t with
  | none => simp [hu] at h
  | some d => cases d <;> simp_all [cellSz]
theorem run_sizeOf_sz {P : Program} {t : TypeId} {k : Nat} (h : cellSz P t = some k) (w : World) : (sizeOf t).run P w = .ok k w := by
  unfold cellSz at h
  cases hi : P.info? t with
  | none => simp [hi] at h
  | some i => simp [hi] at h; simp [sizeOf, typeInfo, hi, h]
theorem run_loadCells_row {P : Program} {w : World} {b o : Nat} {C : List Value} {T : TypeId} {fr : Nat × Nat} (hb : w.heap[b]? = some (.cells C.toArray T fr)) (k : Nat) (hk : o + k ≤ C.length) :
    ∀ i acc, (loadCellsFrom ⟨b, o, none⟩ i k acc).run P w = .ok (acc ++ ((C.drop (o + i)).take k).toArray) w ∨ k + i + o > C.length := by
  induction k with
  | zero => intro i acc; left; simp [loadCellsFrom]
  | succ k ih =>
    intro i acc
    by_cases hlt : k + 1 + i + o > C.length
    · exact .inr hlt
    · left
      have hcell : w.cell? ((⟨b, o, none⟩ : Addr).add i) = some (C[o + i]'(by omega)) := by
        rw [Addr.add_mid]; simp [World.cell?, hb]
        try rw [List.getElem?_eq_getElem (by omega)]
      rcases ih (by omega) (i + 1) (acc.push (C[o + i]'(by omega))) with h | h
      · simp only [loadCellsFrom, Sem.run_bind, run_load, hcell, Result.andThen_ok, h]
        congr 1
        have e1 : C.drop (o + i) = C[o + i]'(by omega) :: C.drop (o + i + 1) := List.drop_eq_getElem_cons (by omega)
        rw [e1, List.take_succ_cons]
        apply Array.ext'
        simp [Nat.add_assoc]
      · omega
theorem run_loadAt_row {P : Program} {w : World} {b o : Nat} {C : List Value} {T : TypeId} {fr : Nat × Nat} {t : TypeId} {k : Nat} (hb : w.heap[b]? = some (.cells C.toArray T fr)) (ht : rowTy P t = some k) (hk : o + k ≤ C.length) :
    (Instr.loadAt t (.pointer (some ⟨b, o, none⟩))).run P w = .ok (.agg ((C.drop o).take k).toArray) w := by
  have h1 := run_isAgg_row ht w
  have h2 := run_sizeOf_sz (sz_of_row ht) w
  rcases run_loadCells_row (P := P) hb k hk 0 #[] with h | h
  · simp [Instr.loadAt, Instr.sureAddr, loadVar, h1, h2, loadCells, h]
  · omega
theorem run_loadAt_cell {P : Program} {w : World} {a : Addr} {t : TypeId} {v : Value} (ht : cellTy P t = true) (hv : w.cell? a = some v) :
    (Instr.loadAt t (.pointer (some a))).run P w = .ok v w := by
  simp [Instr.loadAt, Instr.sureAddr, loadVar, run_isAgg_cell ht w, hv]
theorem run_storeAt_row {P : Program} {w : World} {b o : Nat} {C : List Value} {T : TypeId} {t : TypeId} {v : Value} (hb : w.heap[b]? = some (.cells C.toArray T (0, 0)))
    (hs : cellSz P t = some v.cells.size) (hk : o + v.cells.size ≤ C.length) (h1 : v.cells.all (·.oneCell') = true) :
    (Instr.storeAt t (.pointer (some ⟨b, o, none⟩)) v).run P w = .ok () (w.setRow b (C.take o ++ v.cells.toList ++ C.drop (o + v.cells.size)).toArray) := by
  have h2 := run_sizeOf_sz hs w
  have h3 := run_storeCells_at (P := P) b o T v.cells.toList 0 C.toArray w hb (by simpa using hk) (fun x hx => by
    rw [Array.mem_toList_iff] at hx
    obtain ⟨i, hi, rfl⟩ := Array.getElem_of_mem hx
    exact (Array.all_eq_true.1 h1) i hi)
  simp only [Nat.add_zero, Array.length_toList] at h3
  simp only [List.append_assoc] at h3 ⊢
  simp [Instr.storeAt, Instr.sureAddr, storeVar, h2, h3]
section
variable {P : Program} {Q : Exit → Act → World → Prop} {n : Nat} {σ : Nat → Value} {w w0 : World} {K : Act → World → Prop}
  {ty : TypeId} {pos : String} {aft : Array Edge} {g : Option (Nat × Bool)} {d : Nat} {t yt : TypeId} {x y : Operand} {S : List Nat} {L : List Ch}
def zeroCells (P : Program) (t : TypeId) : Option (List Value) := (P.info? t).bind fun i => i.zero.map fun v => v.cells.toList
theorem run_zero {C : List Value} (h : zeroCells P t = some C) (w : World) : ∃ z, (zeroValue t).run P w = .ok z w ∧ z.cells = C.toArray := by
  unfold zeroCells at h
  cases hi : P.info? t with
  | none => simp [hi] at h
  | some i =>
    cases hz : i.zero with
    | none => simp [hi, hz] at h
    | some z => simp [hi, hz] at h; exact ⟨z, by simp [zeroValue, typeInfo, hi, hz], by rw [← h]⟩
theorem o_alloc {C : List Value} (H : Hp w0 w S L) (hz : zeroCells P t = some C)
    (h : ∀ b w', Hp w0 w' S (L ++ [.blk b C t]) → w0.heap.size ≤ b → K (mk n (up σ d (.pointer (some ⟨b, 0, none⟩)))) w') :
    Oper.wp P ⟨some d, .alloc t, ty, pos, aft, g⟩ (mk n σ) w K Q := by
  obtain ⟨z, hz1, hz2⟩ := run_zero hz w
  refine o_val (v := .pointer (some ⟨w.heap.size, 0, none⟩)) (w' := w.alloc (.cells C.toArray t)) ?_ (h _ _ (H.alloc C t) H.size)
  simp [execOp, Instr.alloc, hz1, newVar, newRow, hz2]
theorem o_box {v : Value} (H : Hp w0 w S L) (hx : ev n σ x = v)
    (h : ∀ b w', Hp w0 w' S (L ++ [.blk b v.cells.toList t]) → w0.heap.size ≤ b → K (mk n (up σ d (.pointer (some ⟨b, 0, none⟩)))) w') :
    Oper.wp P ⟨some d, .box t x, ty, pos, aft, g⟩ (mk n σ) w K Q := by
  refine o_val (v := .pointer (some ⟨w.heap.size, 0, none⟩)) (w' := w.alloc (.cells v.cells t)) ?_ (h _ _ (by simpa using H.alloc v.cells.toList t) H.size)
  simp [execOp, Instr.box, hx, newVar, newRow]
def fieldOff (P : Program) (t : TypeId) (i : Nat) : Option Nat :=
  match P.underlying t with
  | some (.struct fs) => (fs[i]?).bind fun f => (P.info? f.type).bind fun j => if j.size = 0 then none else some f.offset
  | _ => none
theorem o_fa {b o i k : Nat} (hx : ev n σ x = .pointer (some ⟨b, o, none⟩)) (hf : fieldOff P t i = some k) (h : K (mk n (up σ d (.pointer (some ⟨b, o + k, none⟩)))) w) :
    Oper.wp P ⟨some d, .fieldAddr t x i, ty, pos, aft, g⟩ (mk n σ) w K Q := by
  refine o_val ?_ h
  unfold fieldOff at hf
  cases hu : P.underlying t with
  | none => simp [hu] at hf
  | some ds =>
    cases ds <;> simp only [hu] at hf <;> try (cases hf)
    rename_i fs
    cases hfs : fs[i]? with
    | none => simp [hfs] at hf
    | some f =>
      cases hj : P.info? f.type with
      | none => simp [hfs, hj] at hf
      | some j =>
        simp only [hfs, hj, Option.bind_some] at hf
        split at hf
        · cases hf
        · cases hf
          rename_i hsz
          simp [execOp, hx, Instr.fieldAt, run_underlying hu, hfs, Instr.sureAddr, fieldPlace, sizeOf, typeInfo, hj, hsz, Addr.add_mid]
def arrOf (P : Program) (t : TypeId) : Option (Nat × Nat) :=
  match P.underlying t with
  | some (.array len e) => (P.info? e).map fun i => (len, i.size)
  | _ => none
def eltOf (P : Program) (t : TypeId) : Option Nat :=
  match P.underlying t with
  | some (.slice e) => (P.info? e).map fun i => i.size
  | _ => none
/-- an element's address, of an array. -/
theorem o_ia {b o len sz : Nat} {k : IntKind} {i : Int} (hx : ev n σ x = .pointer (some ⟨b, o, none⟩)) (hy : ev n σ y = .int k i) (ha : arrOf P t = some (len, sz)) (h0 : 0 ≤ i) (h1 : i < len)
    (h : K (mk n (up σ d (.pointer (some ⟨b, o + i.toNat * sz, none⟩)))) w) : Oper.wp P ⟨some d, .indexAddr t x y, ty, pos, aft, g⟩ (mk n σ) w K Q := by
  refine o_val ?_ h
  unfold arrOf at ha
  cases hu : P.underlying t with
  | none => simp [hu] at ha
  | some ds =>
    cases ds <;> simp only [hu] at ha <;> try (cases ha)
    rename_i l e
    cases hj : P.info? e with
    | none => simp [hj] at ha
    | some j =>
      simp only [hj, Option.map_some, Option.some.injEq, Prod.mk.injEq] at ha
      obtain ⟨rfl, rfl⟩ := ha
      simp [execOp, hx, hy, Instr.indexAt, run_underlying hu, asIntOf, Instr.sureAddr, h0, h1, sizeOf, typeInfo, hj, Addr.add_mid]
/-- .. of a slice. -/
theorem o_is {a : Option Addr} {len cap sz : Nat} {k : IntKind} {i : Int} {vs : List Value} (hx : ev n σ x = .slice a len cap) (hy : ev n σ y = .int k i) (ha : eltOf P t = some sz) (h0 : 0 ≤ i) (h1 : i < len)
    (hs : 0 < sz) (hr : RdS w a vs) (hl : len * sz ≤ vs.length)
    (h : ∀ b o, a = some ⟨b, o, none⟩ → K (mk n (up σ d (.pointer (some ⟨b, o + i.toNat * sz, none⟩)))) w) : Oper.wp P ⟨some d, .indexAddr t x y, ty, pos, aft, g⟩ (mk n σ) w K Q := by
  rcases hr with rfl | ⟨b, o, C, T, fr, rfl, hb, hc⟩
  · simp only [List.length_nil, Nat.le_zero, Nat.mul_eq_zero] at hl; omega
  refine o_val ?_ (h b o rfl)
  unfold eltOf at ha
  cases hu : P.underlying t with
  | none => simp [hu] at ha
  | some ds =>
    cases ds <;> simp only [hu] at ha <;> try (cases ha)
    rename_i e
    cases hj : P.info? e with
    | none => simp [hj] at ha
    | some j =>
      simp only [hj, Option.map_some, Option.some.injEq] at ha
      subst ha
      simp [execOp, hx, hy, Instr.indexAt, run_underlying hu, asIntOf, h0, h1, sizeOf, typeInfo, hj, Addr.add_mid]
/-- a load of one cell, of a known block. -/
theorem o_ld {b o i : Nat} {C : List Value} {T : TypeId} {v : Value} (H : Hp w0 w S L) (hi : L[i]? = some (.blk b C T)) (hx : ev n σ x = .pointer (some ⟨b, o, none⟩)) (ht : cellTy P t = true) (hv : C[o]? = some v)
    (h : K (mk n (up σ d v)) w) : Oper.wp P ⟨some d, .load t x, ty, pos, aft, g⟩ (mk n σ) w K Q :=
  o_val (by
    have hc : w.cell? ⟨b, o, none⟩ = some v := by simp [World.cell?, H.blk hi, hv]
    simp [execOp, hx, run_loadAt_cell ht hc]) h
/-- .. of a row of cells. -/
theorem o_ldr {b o i k : Nat} {C : List Value} {T : TypeId} (H : Hp w0 w S L) (hi : L[i]? = some (.blk b C T)) (hx : ev n σ x = .pointer (some ⟨b, o, none⟩)) (ht : rowTy P t = some k) (hk : o + k ≤ C.length)
    (h : K (mk n (up σ d (.agg ((C.drop o).take k).toArray))) w) : Oper.wp P ⟨some d, .load t x, ty, pos, aft, g⟩ (mk n σ) w K Q :=
  o_val (by simp [execOp, hx, run_loadAt_row (H.blk hi) ht hk]) h
/-- a load of one cell, of what a slice reads. -/
theorem o_lds {b o i : Nat} {a : Option Addr} {vs : List Value} {v : Value} (hr : RdS w a vs) (ha : a = some ⟨b, o, none⟩) (hx : ev n σ x = .pointer (some ⟨b, o + i, none⟩)) (ht : cellTy P t = true) (hv : vs[i]? = some v)
    (h : K (mk n (up σ d v)) w) : Oper.wp P ⟨some d, .load t x, ty, pos, aft, g⟩ (mk n σ) w K Q :=
  o_val (by
    obtain ⟨b', o', ha', hc⟩ := hr.cell hv
    rw [ha] at ha'; cases ha'
    simp [execOp, hx, run_loadAt_cell ht hc]) h
end
end Go.Proofs.YtmiabahejnjhiaaGreatDoor
namespace Go.Proofs.YtmiabahejnjhiaaGreatDoor
open Go
section
variable {P : Program} {Q : Exit → Act → World → Prop} {n : Nat} {σ : Nat → Value} {w w0 : World} {K : Act → World → Prop}
  {ty : TypeId} {pos : String} {aft : Array Edge} {g : Option (Nat × Bool)} {d : Nat} {t yt : TypeId} {x y z : Operand} {S : List Nat} {L : List Ch}
theorem splice_one (C : List Value) (o : Nat) (v : Value) (h : o < C.length) : C.take o ++ [v] ++ C.drop (o + 1) = C.set o v := by
  apply List.ext_getElem?
  intro i
  rw [List.append_assoc, List.getElem?_set]
  by_cases h1 : i < o
  · rw [List.getElem?_append_left (by simp; omega), List.getElem?_take_of_lt h1, if_neg (by omega)]
  · rw [List.getElem?_append_right (by simp; omega)]
    by_cases h2 : o = i
    · subst h2; simp [h, Nat.min_eq_left (Nat.le_of_lt h)]
    · rw [if_neg h2, List.getElem?_append_right (by simp; omega)]
      simp only [List.length_take, Nat.min_eq_left (Nat.le_of_lt h), List.length_singleton, List.getElem?_drop]
      congr 1; omega
/-- a store of one cell into a known block. -/
theorem o_st {b o i : Nat} {C : List Value} {T : TypeId} {v : Value} (H : Hp w0 w S L) (hi : L[i]? = some (.blk b C T)) (hx : ev n σ x = .pointer (some ⟨b, o, none⟩)) (hy : ev n σ y = v)
    (hs : cellSz P t = some 1) (h1 : v.oneCell' = true) (ho : o < C.length)
    (h : ∀ w', Hp w0 w' S (L.set i (.blk b (C.set o v) T)) → K (mk n σ) w') : Oper.wp P ⟨none, .store t x y, ty, pos, aft, g⟩ (mk n σ) w K Q := by
  have hc : v.cells = #[v] := by cases v <;> simp_all [Value.cells, Value.oneCell']
  have hr := run_storeAt_row (P := P) (t := t) (v := v) (H.blk hi) (o := o) (by rw [hc]; exact hs) (by rw [hc]; simp; omega) (by rw [hc]; simpa using h1)
  rw [hc] at hr
  have e : C.take o ++ (#[v] : Array Value).toList ++ C.drop (o + (#[v] : Array Value).size) = C.set o v := splice_one C o v ho
  rw [e] at hr
  refine o_skip (w' := w.setRow b (C.set o v).toArray) (by simp [execOp, hx, hy, hr]) (h _ ?_); exact H.row hi rfl rfl (H.blk hi) fun w' hw => hw
/-- a store of a row of cells. -/
theorem o_sr {b o i : Nat} {C : List Value} {T : TypeId} {vs : Array Value} (H : Hp w0 w S L) (hi : L[i]? = some (.blk b C T)) (hx : ev n σ x = .pointer (some ⟨b, o, none⟩)) (hy : ev n σ y = .agg vs)
    (hs : cellSz P t = some vs.size) (h1 : vs.all (·.oneCell') = true) (ho : o + vs.size ≤ C.length)
    (h : ∀ w', Hp w0 w' S (L.set i (.blk b (C.take o ++ vs.toList ++ C.drop (o + vs.size)) T)) → K (mk n σ) w') : Oper.wp P ⟨none, .store t x y, ty, pos, aft, g⟩ (mk n σ) w K Q := by
  have hr := run_storeAt_row (P := P) (t := t) (v := .agg vs) (H.blk hi) (o := o) hs ho h1
  refine o_skip (w' := w.setRow b (C.take o ++ vs.toList ++ C.drop (o + vs.size)).toArray) (by simp only [execOp, hx, hy, Sem.run_bind, hr]; simp [Value.cells]) (h _ ?_); exact H.row hi rfl rfl (H.blk hi) fun w' hw => hw
/-- a store of a whole row. -/
theorem o_stw {b i : Nat} {C : List Value} {T : TypeId} {vs : Array Value} (H : Hp w0 w S L) (hi : L[i]? = some (.blk b C T)) (hx : ev n σ x = .pointer (some ⟨b, 0, none⟩)) (hy : ev n σ y = .agg vs)
    (hs : cellSz P t = some vs.size) (h1 : vs.all (·.oneCell') = true) (ho : vs.size = C.length)
    (h : ∀ w', Hp w0 w' S (L.set i (.blk b vs.toList T)) → K (mk n σ) w') : Oper.wp P ⟨none, .store t x y, ty, pos, aft, g⟩ (mk n σ) w K Q := by
  refine o_sr H hi hx hy hs h1 (by omega) fun w' H' => h w' ?_
  simpa [ho] using H'
/-- a store into an element of a slice of the call's own. -/
theorem o_sto {b o i : Nat} {a : Option Nat} {len cap : Nat} {xs : List Value} {T : TypeId} {sz : Nat} {v : Value} (H : Hp w0 w S L) (hi : L[i]? = some (.own a len cap xs T sz)) (hx : ev n σ x = .pointer (some ⟨b, o, none⟩)) (ha : hd a = some ⟨b, 0, none⟩)
    (hy : ev n σ y = v) (hs : cellSz P t = some 1) (h1 : v.oneCell' = true) (ho : o < xs.length)
    (h : ∀ w', Hp w0 w' S (L.set i (.own a len cap (xs.set o v) T sz)) → K (mk n σ) w') : Oper.wp P ⟨none, .store t x y, ty, pos, aft, g⟩ (mk n σ) w K Q := by
  cases a with
  | none => cases ha
  | some b' =>
    simp only [hd, Option.map_some, Option.some.injEq, Addr.mk.injEq, and_true] at ha
    subst ha
    obtain ⟨q1, q2, q3, rest, hw, q5⟩ := H.has _ (List.mem_of_getElem? hi)
    have hc : v.cells = #[v] := by cases v <;> simp_all [Value.cells, Value.oneCell']
    have hol : o < (xs ++ rest).length := by simp; omega
    have hr := run_storeAt_row (P := P) (t := t) (v := v) hw (o := o) (by rw [hc]; exact hs) (by rw [hc]; simp at hol ⊢; omega) (by rw [hc]; simpa using h1)
    rw [hc] at hr
    have e : (xs ++ rest).take o ++ (#[v] : Array Value).toList ++ (xs ++ rest).drop (o + (#[v] : Array Value).size) = xs.set o v ++ rest := by
      rw [show (xs ++ rest).take o ++ (#[v] : Array Value).toList ++ (xs ++ rest).drop (o + (#[v] : Array Value).size) = (xs ++ rest).set o v from splice_one _ o v hol, List.set_append_left _ _ ho]
    rw [e] at hr
    refine o_skip (w' := w.setRow b' (xs.set o v ++ rest).toArray) (by simp [execOp, hx, hy, hr]) (h _ ?_); exact H.row hi rfl rfl hw fun w' hw' => ⟨by simpa using q1, q2, q3, rest, hw', by simpa using q5⟩
theorem Hp.conv {i : Nat} {c c' : Ch} (H : Hp w0 w S L) (hi : L[i]? = some c) (hk : c'.key = c.key) (hok : c.ok w → c'.ok w) : Hp w0 w S (L.set i c') :=
  H.turn hi (hok (H.has _ (List.mem_of_getElem? hi))) (fun b hb => .inl (by rw [← hk]; exact hb)) rfl rfl rfl (Nat.le_refl _) (fun _ _ _ => rfl)
/-- a block as a slice of its first elements. -/
theorem Hp.toOwn {i b len cap sz : Nat} {C : List Value} {T : TypeId} (H : Hp w0 w S L) (hi : L[i]? = some (.blk b C T)) (hl : len ≤ cap) (hm : cap ≤ maxLen) (hc : C.length = cap * sz) :
    Hp w0 w S (L.set i (.own (some b) len cap (C.take (len * sz)) T sz)) :=
  H.conv hi rfl fun hok => ⟨by rw [List.length_take, hc]; exact Nat.min_eq_left (Nat.mul_le_mul_right sz hl), hl, hm, C.drop (len * sz), by rw [List.take_append_drop]; exact hok, by rw [List.take_append_drop]; exact hc⟩
def sa (a : Option Addr) (l cap sz : Nat) : Option Addr := if cap = l then a else a.map (·.add (l * sz))
theorem RdS.sa {a : Option Addr} {vs : List Value} (h : RdS w a vs) (l cap sz : Nat) (hl : vs.length ≤ cap * sz) : RdS w (sa a l cap sz) (vs.drop (l * sz)) := by
  unfold Go.Proofs.YtmiabahejnjhiaaGreatDoor.sa
  split
  · rename_i e; subst e
    rw [List.drop_eq_nil_of_le hl]; exact .nil _ _
  · exact h.drop _
theorem sa_zero (a : Option Addr) (cap sz : Nat) : sa a 0 cap sz = a := by
  unfold sa
  split
  · rfl
  · cases a <;> simp [Addr.add]
theorem Apart.sa {a : Option Addr} {S : List Nat} (h : Apart a S) (l cap sz : Nat) : Apart (sa a l cap sz) S := by
  unfold Go.Proofs.YtmiabahejnjhiaaGreatDoor.sa
  split
  · exact h
  · intro x hx
    cases a with
    | none => cases hx
    | some a =>
      simp only [Option.map_some, Option.some.injEq] at hx
      subst hx
      have := h a rfl
      unfold Addr.add; split <;> exact this
theorem sb_l {s : Bool} {len cap : Nat} {k : IntKind} {l : Int} (h0 : 0 ≤ l) (h1 : l ≤ len) (w : World) : (Instr.sliceBounds s len cap (some (.int k l)) none none).run P w = .ok (l.toNat, len, cap) w := by
  simp [Instr.sliceBounds, run_sliceBound, h0, h1]
theorem sb_h {s : Bool} {len cap : Nat} {k : IntKind} {h : Int} (h0 : 0 ≤ h) (h1 : h ≤ cap) (w : World) : (Instr.sliceBounds s len cap none (some (.int k h)) none).run P w = .ok (0, h.toNat, cap) w := by
  simp [Instr.sliceBounds, run_sliceBound, h0, h1]
theorem sb_lh {s : Bool} {len cap : Nat} {k k' : IntKind} {l h : Int} (h0 : 0 ≤ l) (h1 : l ≤ h) (h2 : h ≤ cap) (w : World) : (Instr.sliceBounds s len cap (some (.int k l)) (some (.int k' h)) none).run P w = .ok (l.toNat, h.toNat, cap) w := by
  have eh : (h.toNat : Int) = h := Int.toNat_of_nonneg (by omega)
  simp [Instr.sliceBounds, run_sliceBound, h0, h1, h2, eh, (by omega : 0 ≤ h)]
theorem sb_n {s : Bool} {len cap : Nat} (w : World) : (Instr.sliceBounds s len cap none none none).run P w = .ok (0, len, cap) w := by simp [Instr.sliceBounds]
/-- a slice cut. -/
theorem o_sl {lo hi mx : Option Operand} {a : Option Addr} {len cap sz l h m : Nat} {lv hv mv : Option Value} (hx : ev n σ x = .slice a len cap) (ht : eltOf P t = some sz)
    (hl : lo.map (ev n σ) = lv) (hh : hi.map (ev n σ) = hv) (hm : mx.map (ev n σ) = mv) (hb : ∀ w, (Instr.sliceBounds true len cap lv hv mv).run P w = .ok (l, h, m) w)
    (hk : K (mk n (up σ d (.slice (sa a l m sz) (h - l) (m - l)))) w) : Oper.wp P ⟨some d, .slice t x lo hi mx, ty, pos, aft, g⟩ (mk n σ) w K Q := by
  refine o_val ?_ hk
  unfold eltOf at ht
  cases hu : P.underlying t with
  | none => simp [hu] at ht
  | some ds =>
    cases ds <;> simp only [hu] at ht <;> try (cases ht)
    rename_i e
    cases hj : P.info? e with
    | none => simp [hj] at ht
    | some j =>
      simp only [hj, Option.map_some, Option.some.injEq] at ht
      subst ht
      simp [execOp, hx, hl, hh, hm, Instr.sliceAt, Instr.slice, run_underlying hu, hb, sizeOf, typeInfo, hj, sa]
/-- an array cut. -/
theorem o_sla {lo hi mx : Option Operand} {b o len sz l h m : Nat} {lv hv mv : Option Value} (hx : ev n σ x = .pointer (some ⟨b, o, none⟩)) (ht : arrOf P t = some (len, sz))
    (hl : lo.map (ev n σ) = lv) (hh : hi.map (ev n σ) = hv) (hm : mx.map (ev n σ) = mv) (hb : ∀ w, (Instr.sliceBounds false len len lv hv mv).run P w = .ok (l, h, m) w)
    (hk : K (mk n (up σ d (.slice (sa (some ⟨b, o, none⟩) l m sz) (h - l) (m - l)))) w) : Oper.wp P ⟨some d, .slice t x lo hi mx, ty, pos, aft, g⟩ (mk n σ) w K Q := by
  refine o_val ?_ hk
  unfold arrOf at ht
  cases hu : P.underlying t with
  | none => simp [hu] at ht
  | some ds =>
    cases ds <;> simp only [hu] at ht <;> try (cases ht)
    rename_i n' e
    cases hj : P.info? e with
    | none => simp [hj] at ht
    | some j =>
      simp only [hj, Option.map_some, Option.some.injEq, Prod.mk.injEq] at ht
      obtain ⟨rfl, rfl⟩ := ht
      by_cases hml : m = l
      · simp [execOp, hx, hl, hh, hm, Instr.sliceAt, Instr.sureAddr, run_underlying hu, hb, sizeOf, typeInfo, hj, sa, hml]
      · simp [execOp, hx, hl, hh, hm, Instr.sliceAt, Instr.sureAddr, run_underlying hu, hb, sizeOf, typeInfo, hj, sa, hml]
theorem sa_lt {b o l cap sz : Nat} (h : l < cap) : sa (some ⟨b, o, none⟩) l cap sz = some ⟨b, o + l * sz, none⟩ := by
  unfold sa
  rw [if_neg (by omega), Option.map_some, Addr.add_mid]
/-- an array cut, not at its end. -/
theorem o_slb {lo hi mx : Option Operand} {b o len sz l h m : Nat} {lv hv mv : Option Value} (hx : ev n σ x = .pointer (some ⟨b, o, none⟩)) (ht : arrOf P t = some (len, sz))
    (hl : lo.map (ev n σ) = lv) (hh : hi.map (ev n σ) = hv) (hm : mx.map (ev n σ) = mv) (hb : ∀ w, (Instr.sliceBounds false len len lv hv mv).run P w = .ok (l, h, m) w) (hlm : l < m)
    (hk : K (mk n (up σ d (.slice (some ⟨b, o + l * sz, none⟩) (h - l) (m - l)))) w) : Oper.wp P ⟨some d, .slice t x lo hi mx, ty, pos, aft, g⟩ (mk n σ) w K Q :=
  o_sla hx ht hl hh hm hb (by rw [sa_lt hlm]; exact hk)
theorem run_builtin {b : Builtin} {args : Array Operand} {ats : Array TypeId} {s : Sem Value} {v : Value} {w' : World} {dst : Option Tmp} {vs : Array Value}
    (ha : args.map (ev n σ) = vs)
    (hb : ∀ cs, builtin b ats ty cs vs = (do pure (.value (← s)))) (hs : s.run P w = .ok v w') :
    (execOp (ev n σ) ⟨dst, .call ⟨.builtin b, args, ats⟩, ty, pos, aft, g⟩).run P w = .ok (.value v) w' := by
  simp [execOp, resolve, invoke, ha, hb, hs]
theorem o_lens {a : Option Addr} {len cap : Nat} {sz : Nat} (ht : eltOf P t = some sz) (hx : ev n σ x = .slice a len cap) (h : K (mk n (up σ d (VI len))) w) :
    Oper.wp P ⟨some d, .call ⟨.builtin .len, #[x], #[t]⟩, ty, pos, aft, g⟩ (mk n σ) w K Q :=
  o_val (run_builtin (s := Builtin.len_ #[t] ty #[.slice a len cap]) (vs := #[.slice a len cap]) (by simp [hx]) (fun _ => rfl) (by
    unfold eltOf at ht
    cases hu : P.underlying t with
    | none => simp [hu] at ht
    | some ds =>
      cases ds <;> simp only [hu] at ht <;> try (cases ht)
      simp [Builtin.len_, run_underlying hu, goInt])) h
theorem run_max_int2' {ts : Array TypeId} {t : TypeId} {k : IntKind} {x y : Int} : (Builtin.max_ ts t #[.int k x, .int k y]).run P w = .ok (.int k (if y > x then y else x)) w := by
  simp [Builtin.max_, Builtin.max2]
structure SlTy (P : Program) (t e : TypeId) (sz bytes : Nat) : Prop where
  und : P.underlying t = some (.slice e)
  row : ∃ i z, P.info? e = some i ∧ i.zero = some z ∧ i.size = sz ∧ i.bytes = bytes ∧ z.cells.size = sz
theorem SlTy.mk' {t e sz bytes : Nat} (h1 : P.underlying t = some (.slice e)) (h2 : ((P.info? e).bind fun i => i.zero.map fun z => (i.size, i.bytes, z.cells.size)) = some (sz, bytes, sz)) : SlTy P t e sz bytes := by
  refine ⟨h1, ?_⟩
  cases hi : P.info? e with
  | none => simp [hi] at h2
  | some i =>
    cases hz : i.zero with
    | none => simp [hi, hz] at h2
    | some z => simp [hi, hz] at h2; exact ⟨i, z, rfl, hz, h2.1, h2.2.1, h2.2.2⟩
theorem RdS.src {sz : Nat} {tx e' : TypeId} {a : Option Addr} {len cap : Nat} {vs : List Value} (hk : P.underlying tx = some (.slice e')) (hr : RdS w a vs) (hl : vs.length = len * sz) (hs : 0 < sz) (h1 : ∀ u ∈ vs, u.oneCell' = true) :
    Src P sz tx (.slice a len cap) len vs w := by
  by_cases h0 : vs = []
  · subst h0
    have : len = 0 := by rcases Nat.mul_eq_zero.1 hl.symm with h | h <;> omega
    subst this
    cases a with
    | none => exact Src.ofNil w hk cap
    | some a => exact Src.ofSlice w hk a 0 cap [] (by simp) (by simp) (by simp)
  · rcases hr with h | ⟨b, o, C, T, fr, rfl, hb, hc⟩
    · exact absurd h h0
    · exact Src.ofSlice w hk _ len cap vs hl (fun j u hj => by rw [Addr.add_mid]; simp [World.cell?, hb, hc j u hj]) h1
theorem slicecap_le {a b by_ : Nat} (h : a * by_ ≤ 140737488355328) (hb : b < a) : Builtin.nextslicecap a b * by_ ≤ 281474976710656 :=
  Nat.le_trans (Nat.mul_le_mul_right _ (nextslicecap_le hb)) (by rw [Nat.mul_assoc]; omega)
/-- append to a slice of the call's own. -/
theorem o_app {i : Nat} {a : Option Nat} {len cap : Nat} {xs : List Value} {e : TypeId} {sz bytes m : Nat} {tx : TypeId} {v : Value} {news : List Value} (H : Hp w0 w S L) (hi : L[i]? = some (.own a len cap xs e sz))
    (hT : SlTy P t e sz bytes) (hx : ev n σ x = .slice (hd a) len cap) (hy : ev n σ y = v) (hsrc : Src P sz tx v m news w) (_hsz : 0 < sz)
    (hlen : len + m ≤ 4611686018427387903) (hbytes : (len + m) * bytes ≤ 140737488355328)
    (h : ∀ a' cap' w', Hp w0 w' S (L.set i (.own a' (len + m) cap' (xs ++ news) e sz)) → K (mk n (up σ d (.slice (hd a') (len + m) cap'))) w') :
    Oper.wp P ⟨some d, .call ⟨.builtin .append, #[x, y], #[t, tx]⟩, ty, pos, aft, g⟩ (mk n σ) w K Q := by
  obtain ⟨inf, zv, hinf, hzv, hsize, hby, hzs⟩ := hT.row
  have hok := H.has _ (List.mem_of_getElem? hi)
  have hargs : (#[x, y] : Array Operand).map (ev n σ) = #[.slice (hd a) len cap, v] := by simp [hx, hy]
  have hxl : xs.length = len * sz := by
    cases a with
    | none => obtain ⟨rfl, rfl, rfl⟩ := hok; simp
    | some b => exact hok.1
  by_cases hroom : len + m ≤ cap
  · cases a with
    | none =>
      obtain ⟨rfl, rfl, rfl⟩ := hok
      have hm : m = 0 := by omega
      subst hm
      have hnews : news = [] := List.length_eq_zero_iff.1 (by rw [hsrc.newsLen]; simp)
      subst hnews
      refine o_val (run_builtin (s := Builtin.append_ #[t, tx] ty #[.slice none 0 0, v]) (vs := #[.slice none 0 0, v]) (v := .slice none 0 0) hargs (fun _ => rfl) ?_) (h none 0 w ?_)
      · rcases hsrc.kind with ⟨e', hk⟩ | hk <;> simp [Builtin.append_, run_underlying hT.und, run_underlying hk, sizeOf, typeInfo, hinf, hsrc.len, hsize, hsrc.cells]
      · have : L.set i (.own none (0 + 0) 0 ([] ++ []) e sz) = L := by
          apply List.ext_getElem?
          intro j
          by_cases hij : i = j
          · subst hij
            have hlt := (List.getElem?_eq_some_iff.1 hi).1
            rw [List.getElem?_set_self hlt, hi]; rfl
          · rw [List.getElem?_set_ne hij]
        rw [this]; exact H
    | some b =>
      obtain ⟨_, hle, hmx, rest, hw, hcap⟩ := hok
      have hrow := run_append_room_src (P := P) w t tx ty e inf hT.und hinf b 0 len cap v m news (by rw [hsize]; exact hsrc) hroom
        (fun j hj => by
          have : 0 + len * inf.size + j < (xs ++ rest).length := by
            rw [hcap, hsize, Nat.zero_add]
            have := hsrc.newsLen
            have h2 : (len + m) * sz ≤ cap * sz := Nat.mul_le_mul_right _ hroom
            rw [Nat.add_mul] at h2; omega
          simp only [World.cell?, hw]
          rw [List.getElem?_toArray, List.getElem?_eq_getElem this]; simp)
        (fun j hj => by simp [World.frozen?, hw])
      have hnl := hsrc.newsLen
      have hfit : len * sz + news.length ≤ (xs ++ rest).length := by
        rw [hcap, hnl, ← Nat.add_mul]; exact Nat.mul_le_mul_right _ hroom
      have hset : w.setCells b (0 + len * inf.size) news = w.setRow b (xs ++ news ++ rest.drop news.length).toArray := by
        have h1 := run_storeCells_at (P := P) b (0 + len * inf.size) e news 0 (xs ++ rest).toArray w hw (by simp only [List.size_toArray]; rw [hsize]; omega) hsrc.one
        have h2 := run_storeCells_cells (P := P) b (0 + len * inf.size) news 0 w
          (fun j hj => by
            have : 0 + len * inf.size + 0 + j < (xs ++ rest).length := by rw [hsize]; omega
            simp only [World.cell?, hw]
            rw [List.getElem?_toArray, List.getElem?_eq_getElem this]; simp)
          (fun j hj => by simp [World.frozen?, hw]) hsrc.one
        rw [h1] at h2
        simp only [Result.ok.injEq, true_and, Nat.add_zero, Nat.zero_add] at h2
        rw [Nat.zero_add, ← h2, hsize]
        congr 2
        rw [show len * sz = xs.length from hxl.symm]
        simp [List.drop_append]
      rw [hset] at hrow
      refine o_val (run_builtin (s := Builtin.append_ #[t, tx] ty #[.slice (some ⟨b, 0, none⟩) len cap, v]) (vs := #[.slice (some ⟨b, 0, none⟩) len cap, v]) hargs (fun _ => rfl) hrow) (h (some b) cap _ ?_); refine H.row hi rfl rfl hw fun w' hw' => ⟨by rw [List.length_append, hxl, hnl, Nat.add_mul], hroom, hmx, rest.drop news.length, hw', ?_⟩
      rw [← hcap]; simp only [List.length_append, List.length_drop]
      simp only [List.length_append] at hfit hcap
      rw [hxl] at *; omega
  · have hfc : (Builtin.firstCells inf.size len (.slice (hd a) len cap)).run P w.drew = .ok xs.toArray w.drew := by
      cases a with
      | none => obtain ⟨rfl, rfl, rfl⟩ := hok; exact run_firstCells_none w.drew inf.size 0 0 0
      | some b =>
        obtain ⟨h1, _, _, rest, hw, _⟩ := hok
        refine run_firstCells_some w.drew inf.size len ⟨b, 0, none⟩ len cap xs (by rw [h1, hsize]) fun j u hj => ?_
        rw [Addr.add_mid, World.cell?_drew]
        have hlt : j < xs.length := (List.getElem?_eq_some_iff.1 hj).1
        simp [World.cell?, hw, List.getElem?_append_left hlt, hj]
    have hrow := run_append_grow_src (P := P) w t tx ty e inf zv hT.und hinf hzv (hd a) len cap xs hfc v m news (by rw [hsize]; exact hsrc) (by omega) (by omega)
      (by rw [hby]; exact slicecap_le hbytes (by omega))
    have hgc := grownCap_ge w (len + m) cap e
    have hgm := grownCap_le_maxLen w (len + m) cap e (by simp [maxLen]; omega)
    generalize hcc : grownCap w (len + m) cap e = cc at *
    refine o_val (run_builtin (s := Builtin.append_ #[t, tx] ty #[.slice (hd a) len cap, v]) (vs := #[.slice (hd a) len cap, v]) hargs (fun _ => rfl) hrow) (h (some w.heap.size) cc _ ?_); have hL : (xs ++ news ++ (Builtin.zeroCells zv.cells (cc - (len + m))).toList).length = cc * sz := by
      simp only [List.length_append, Array.length_toList, size_zeroCells, hzs, hxl, hsrc.newsLen]
      rw [← Nat.add_mul, ← Nat.add_mul]; congr 1; omega
    refine H.drew.turn hi (c' := .own (some w.heap.size) (len + m) cc (xs ++ news) e sz) ⟨by rw [List.length_append, hxl, hsrc.newsLen, Nat.add_mul], hgc, hgm, (Builtin.zeroCells zv.cells (cc - (len + m))).toList, ?_, hL⟩
      (fun b hb => .inr (by cases hb; exact Nat.le_refl _)) rfl rfl rfl (by simp) (fun b hb _ => heap_alloc_old' _ _ _ (by simp at hb ⊢; omega))
    have := heap_alloc_new' w.drew (.cells ((xs ++ news).toArray ++ Builtin.zeroCells zv.cells (cc - (len + m))) e)
    simp only [World.size_drew] at this
    rw [this]
    congr 2
    apply Array.ext'
    simp
end
end Go.Proofs.YtmiabahejnjhiaaGreatDoor
namespace Go.Proofs.YtmiabahejnjhiaaGreatDoor
open Go
section
variable {P : Program} {Q : Exit → Act → World → Prop} {n : Nat} {σ : Nat → Value} {w w0 : World} {K : Act → World → Prop}
  {ty : TypeId} {pos : String} {aft : Array Edge} {g : Option (Nat × Bool)} {d : Nat} {t yt : TypeId} {x y z : Operand} {S : List Nat} {L : List Ch}
/-- 'make([]T, l, c)', elements of one cell. -/
theorem o_make {e : TypeId} {bytes l c : Nat} {k k' : IntKind} {li ci : Int} {zv : Value} (H : Hp w0 w S L) (hT : SlTy P t e 1 bytes) (hz : zeroCells P e = some [zv]) (hx : ev n σ x = .int k li) (hy : ev n σ y = .int k' ci)
    (hl : li = (l : Int)) (hc : ci = (c : Int)) (hlc : l ≤ c) (hb : bytes * c ≤ 281474976710656) (h63 : c ≤ maxLen)
    (h : ∀ b w', Hp w0 w' S (L ++ [.blk b (List.replicate c zv) e]) → w0.heap.size ≤ b → K (mk n (up σ d (.slice (some ⟨b, 0, none⟩) l c))) w') :
    Oper.wp P ⟨some d, .makeSlice t x y, ty, pos, aft, g⟩ (mk n σ) w K Q := by
  obtain ⟨i, z0, hi, hz0, hs, hby, hzs⟩ := hT.row
  subst hl hc
  have hzc : z0.cells.toList = [zv] := by simpa [zeroCells, hi, hz0] using hz
  have hzc' : z0.cells = #[zv] := by apply Array.ext'; simpa using hzc
  have h63' : (c : Int) ≤ 9223372036854775807 := Int.ofNat_le.2 h63
  have hr := run_make (P := P) (w := w) t e i z0 hT.und hi hz0 k k' (l : Int) (c : Int) (by omega) (by omega) (by rw [hby]; exact Int.ofNat_le.2 hb) h63'
  have e1 : madeCells z0.cells ((c : Int).toNat * i.size) = (List.replicate c zv).toArray := by
    rw [hzc', hs, Nat.mul_one, Int.toNat_natCast]
    apply Array.ext'
    exact toList_madeCells_one zv c
  rw [e1] at hr
  refine o_val (by simp only [execOp, hx, hy, Sem.run_bind, hr, Result.andThen_ok, Int.toNat_natCast]; rfl) (h w.heap.size _ (H.alloc _ e) H.size)
theorem run_bsl {e : TypeId} {sz bytes len : Nat} {zs : List Value} {cells : Array Value} (hT : SlTy P t e sz bytes) (hz : zeroCells P e = some zs) (_hs : 0 < sz) (hlen : len * sz ≤ 16777216) (parts : Array (Nat × Value))
    (hf : Instr.fill (fun i => some (i * sz, sz)) ((Array.range (len * sz)).map (zs.toArray[· % zs.toArray.size]!)) parts.toList = some cells) :
    (Instr.buildSlice t len parts).run P w = .ok (.slice (some ⟨w.heap.size, 0, none⟩) len len) (w.alloc (.cells cells e)) := by
  obtain ⟨i, z0, hi, hz0, hsz, hby, hzs⟩ := hT.row
  have hzc : z0.cells = zs.toArray := by
    have : z0.cells.toList = zs := by simpa [zeroCells, hi, hz0] using hz
    apply Array.ext'; simpa using this
  have h1 : (sizeOf e).run P w = .ok sz w := run_sizeOf_sz (by simp [cellSz, hi, hsz]) w
  have h2 : (zeroValue e).run P w = .ok z0 w := by simp [zeroValue, typeInfo, hi, hz0]
  have hn : ¬ (len * sz > 2 ^ 24) := by omega
  have fin : ∀ zz : Array Value, Instr.fill (fun i => some (i * sz, sz)) ((Array.range (len * sz)).map (zz[· % zz.size]!)) parts.toList = some cells →
      (match Instr.fill (fun i => some (i * sz, sz)) ((Array.range (len * sz)).map (zz[· % zz.size]!)) parts.toList with
        | some cells => (do pure (.slice (some (← newRow e cells)) len len) : Sem Value)
        | _ => stuck "buildSlice: a part of the wrong size").run P w = .ok (.slice (some ⟨w.heap.size, 0, none⟩) len len) (w.alloc (.cells cells e)) := by
    intro zz hzz
    rw [hzz]
    simp [newRow]
  unfold Instr.buildSlice
  rw [Sem.run_bind, run_underlying hT.und]
  simp only [Result.andThen_ok]
  rw [Sem.run_bind, h1]
  simp only [Result.andThen_ok]
  rw [if_neg hn]
  by_cases h0 : len * sz = 0
  · have e1 : ∀ zz : Array Value, (Array.range (len * sz)).map (zz[· % zz.size]!) = #[] := fun zz => by
      rw [h0]; apply Array.ext'; simp
    rw [if_pos h0, Sem.run_bind, Sem.run_pure]
    simp only [Result.andThen_ok]
    exact fin #[] (by rw [e1, ← e1 zs.toArray]; exact hf)
  · rw [if_neg h0, Sem.run_bind, h2]
    simp only [Result.andThen_ok]
    rw [Sem.run_bind, Sem.run_pure]
    simp only [Result.andThen_ok]
    exact fin z0.cells (by rw [hzc]; exact hf)
/-- a slice literal. -/
theorem o_bsl {e : TypeId} {sz bytes len : Nat} {parts : Array (Nat × Operand)} {zs : List Value} {pv : List (Nat × Value)} {cells : Array Value} (H : Hp w0 w S L) (hT : SlTy P t e sz bytes) (hz : zeroCells P e = some zs) (hs : 0 < sz)
    (hp0 : pvs n σ parts.toList = pv) (hlen : len * sz ≤ 16777216)
    (hf : Instr.fill (fun i => some (i * sz, sz)) ((Array.range (len * sz)).map (zs.toArray[· % zs.toArray.size]!)) pv = some cells)
    (h : ∀ b w', Hp w0 w' S (L ++ [.blk b cells.toList e]) → w0.heap.size ≤ b → K (mk n (up σ d (.slice (some ⟨b, 0, none⟩) len len))) w') :
    Oper.wp P ⟨some d, .buildSlice t len parts, ty, pos, aft, g⟩ (mk n σ) w K Q := by
  have hp : (parts.map fun (i, x) => (i, ev n σ x)).toList = pv := by rw [← hp0, pvs_eq, Array.toList_map]
  refine o_val (v := .slice (some ⟨w.heap.size, 0, none⟩) len len) (w' := w.alloc (.cells cells e)) ?_ (h _ _ (by simpa using H.alloc cells.toList e) H.size); have hr := run_bsl (P := P) (w := w) hT hz hs hlen (parts.map fun (i, x) => (i, ev n σ x)) (by rw [hp]; exact hf)
  simp only [execOp, Sem.run_bind, hr, Result.andThen_ok]
  rfl
/-- an array or struct literal. -/
theorem o_bld {parts : Array (Nat × Operand)} {pv : List (Nat × Value)} {cells : Array Value}
    (hp0 : pvs n σ parts.toList = pv) (hf : P.built t pv = some cells)
    (h : K (mk n (up σ d (.agg cells))) w) : Oper.wp P ⟨some d, .build t parts, ty, pos, aft, g⟩ (mk n σ) w K Q := by
  refine o_val ?_ h; have hp : (parts.map fun (i, x) => (i, ev n σ x)).toList = pv := by rw [← hp0, pvs_eq, Array.toList_map]
  have := run_build (P := P) w t (parts.map fun (i, x) => (i, ev n σ x)) cells (by rw [hp]; exact hf)
  simp only [execOp, Sem.run_bind, this]
  simp
/-- how a type is built: its zero, and where its parts lie. -/
structure Bld (P : Program) (t : TypeId) (zs : Array Value) (places : Nat → Option (Nat × Nat)) : Prop where
  eq : ∀ parts, P.built t parts = Instr.fill places zs parts
theorem Bld.arr {t : TypeId} {len sz : Nat} {zs : List Value} (h1 : arrOf P t = some (len, sz)) (h2 : zeroCells P t = some zs) : Bld P t zs.toArray fun i => some (i * sz, sz) := by
  constructor
  intro parts
  unfold arrOf at h1
  cases hu : P.underlying t with
  | none => simp [hu] at h1
  | some ds =>
    cases ds <;> simp only [hu] at h1 <;> try (cases h1)
    rename_i l e
    cases hj : P.info? e with
    | none => simp [hj] at h1
    | some j =>
      simp only [hj, Option.map_some, Option.some.injEq, Prod.mk.injEq] at h1
      obtain ⟨rfl, rfl⟩ := h1
      unfold zeroCells at h2
      cases hi : P.info? t with
      | none => simp [hi] at h2
      | some i =>
        cases hz : i.zero with
        | none => simp [hi, hz] at h2
        | some z =>
          simp [hi, hz] at h2
          have : z.cells = zs.toArray := by apply Array.ext'; simpa using h2
          simp only [Program.built, hi, hu, hz, hj, this]
def placesOf (P : Program) (t : TypeId) : Option (Array (Nat × Nat)) :=
  match P.underlying t with
  | some (.struct fs) => (fs.toList.mapM fun f => (P.info? f.type).map fun i => (f.offset, i.size)).map (·.toArray)
  | _ => none
theorem Bld.str {t : TypeId} {pl : Array (Nat × Nat)} {zs : List Value} (h1 : placesOf P t = some pl) (h2 : zeroCells P t = some zs) : Bld P t zs.toArray fun i => pl[i]? := by
  constructor
  intro parts
  unfold placesOf at h1
  cases hu : P.underlying t with
  | none => simp [hu] at h1
  | some ds =>
    cases ds <;> simp only [hu] at h1 <;> try (cases h1)
    rename_i fs
    cases hm : fs.toList.mapM (fun f => (P.info? f.type).map fun i => (f.offset, i.size)) with
    | none => simp [hm] at h1
    | some places =>
      simp only [hm, Option.map_some, Option.some.injEq] at h1
      subst h1
      unfold zeroCells at h2
      cases hi : P.info? t with
      | none => simp [hi] at h2
      | some i =>
        cases hz : i.zero with
        | none => simp [hi, hz] at h2
        | some z =>
          simp [hi, hz] at h2
          have : z.cells = zs.toArray := by apply Array.ext'; simpa using h2
          simp only [Program.built, hi, hu, hz, hm, this]
theorem o_bld' {parts : Array (Nat × Operand)} {zs : Array Value} {places : Nat → Option (Nat × Nat)} {pv : List (Nat × Value)} {cells : Array Value} (hB : Bld P t zs places)
    (hp0 : pvs n σ parts.toList = pv) (hf : Instr.fill places zs pv = some cells)
    (h : K (mk n (up σ d (.agg cells))) w) : Oper.wp P ⟨some d, .build t parts, ty, pos, aft, g⟩ (mk n σ) w K Q :=
  o_bld hp0 (by rw [hB.eq]; exact hf) h
def en : Nat → List Value → List (Nat × Value)
  | _, [] => []
  | i, v :: l => (i, v) :: en (i + 1) l
theorem fill_en_aux : ∀ (vs A : List Value) (B : List Value), (∀ v ∈ vs, v.oneCell' = true) → vs.length = B.length → Instr.fill (fun i => some (i * 1, 1)) (A ++ B).toArray (en A.length vs) = some (A ++ vs).toArray
  | [], A, B, _, hl => by
    have : B = [] := List.length_eq_zero_iff.1 (by simpa using hl.symm)
    subst this; simp [en, Instr.fill]
  | v :: vs, A, [], _, hl => by simp at hl
  | v :: vs, A, b :: B, h1, hl => by
    have hv := h1 v (by simp)
    have hc : v.cells = #[v] := by cases v <;> simp_all [Value.cells, Value.oneCell']
    have ih := fill_en_aux vs (A ++ [v]) B (fun u hu => h1 u (by simp [hu])) (by simpa using hl)
    simp only [List.length_append, List.length_singleton, List.append_assoc, List.singleton_append] at ih
    simp only [en, Instr.fill, hc, Nat.mul_one]
    rw [if_neg (by simp)]
    have e : (#[v] : Array Value).zipIdx = #[(v, 0)] := by simp [Array.zipIdx]
    rw [← ih]
    congr 1
    · funext i; rw [Nat.mul_one]
    · rw [e]
      apply Array.ext'
      simp []
theorem fill_en {zs : List Value} (vs : List Value) (h1 : vs.toArray.all (·.oneCell') = true) (hl : vs.length = zs.length) : Instr.fill (fun i => some (i * 1, 1)) zs.toArray (en 0 vs) = some vs.toArray := by
  have := fill_en_aux vs [] zs (by rw [List.all_toArray] at h1; simpa using h1) hl
  simpa using this
/-- 'copy' onto cells of a known block. -/
theorem o_copy {b o i : Nat} {C : List Value} {T e e' : TypeId} {sz dLen dCap sLen sCap : Nat} {a : Option Addr} {vs : List Value} {tx : TypeId} (H : Hp w0 w S L) (hi : L[i]? = some (.blk b C T)) (hu : P.underlying t = some (.slice e)) (hu' : P.underlying tx = some (.slice e')) (hs : cellSz P e = some sz) (hsz : 0 < sz)
    (hx : ev n σ x = .slice (some ⟨b, o, none⟩) dLen dCap) (hy : ev n σ y = .slice a sLen sCap) (hr : RdS w a vs) (hl : vs.length = sLen * sz) (h1 : ∀ u ∈ vs, u.oneCell' = true) (hfit : o + dLen * sz ≤ C.length)
    (h : ∀ w', Hp w0 w' S (L.set i (.blk b (C.take o ++ vs.take (min sLen dLen * sz) ++ C.drop (o + min sLen dLen * sz)) T)) → K (mk n (up σ d (VI ((min sLen dLen : Nat) : Int)))) w') :
    Oper.wp P ⟨some d, .call ⟨.builtin .copy, #[x, y], #[t, tx]⟩, ty, pos, aft, g⟩ (mk n σ) w K Q := by
  have hmin : min sLen dLen * sz ≤ vs.length := by rw [hl]; exact Nat.mul_le_mul_right _ (Nat.min_le_left _ _)
  have hmin2 : min sLen dLen * sz ≤ dLen * sz := Nat.mul_le_mul_right _ (Nat.min_le_right _ _)
  have hlen : (vs.take (min sLen dLen * sz)).length = min sLen dLen * sz := by rw [List.length_take]; omega
  have hst := run_storeCells_at (P := P) b o T (vs.take (min sLen dLen * sz)) 0 C.toArray w (H.blk hi) (by rw [hlen]; simp; omega) (fun v hv => h1 v (List.mem_of_mem_take hv))
  rw [hlen] at hst
  simp only [Nat.add_zero] at hst
  have hfc : (Builtin.firstCells sz (min sLen dLen) (.slice a sLen sCap)).run P w = .ok (vs.take (min sLen dLen * sz)).toArray w := by
    have hsrc : Src P sz tx (.slice a (min sLen dLen) sCap) (min sLen dLen) (vs.take (min sLen dLen * sz)) w :=
      (hr.take _).src hu' hlen hsz (fun v hv => h1 v (List.mem_of_mem_take hv))
    have := hsrc.cells
    cases a <;> exact this
  have hsz' := run_sizeOf_sz hs w
  refine o_val (run_builtin (s := Builtin.copy_ #[t, tx] ty #[.slice (some ⟨b, o, none⟩) dLen dCap, .slice a sLen sCap]) (vs := #[.slice (some ⟨b, o, none⟩) dLen dCap, .slice a sLen sCap]) (v := VI ((min sLen dLen : Nat) : Int))
    (w' := w.setRow b (C.take o ++ vs.take (min sLen dLen * sz) ++ C.drop (o + min sLen dLen * sz)).toArray) (by simp [hx, hy]) (fun _ => rfl) ?_) (h _ (H.row hi rfl rfl (H.blk hi) fun w' hw => hw))
  have hnat : Nat.min sLen dLen = min sLen dLen := rfl
  simp only [List.append_assoc] at hst ⊢
  simp [Builtin.copy_, run_underlying hu, Builtin.lenOf, hsz', hnat, hfc, hst, goInt]
theorem o_s2b {e : TypeId} {s : ByteArray} (H : Hp w0 w S L) (hs : P.underlying t = some .string) (hd : P.underlying yt = some (.slice e)) (he : P.underlying e = some (.int .u8)) (hx : ev n σ x = .string s)
    (h : ∀ b cap ob w', Hp w0 w' S (L ++ [.obj b ob]) → w0.heap.size ≤ b → (∀ w'' : World, w''.heap[b]? = some ob → RdS w'' (some ⟨b, 0, none⟩) (s.data.toList.map V8)) → s.size ≤ cap → K (mk n (up σ d (.slice (some ⟨b, 0, none⟩) s.size cap))) w') :
    Oper.wp P ⟨some d, .convert t yt x, ty, pos, aft, g⟩ (mk n σ) w K Q := by
  have hr := run_bytes_of_string (P := P) w t yt e s hs hd he
  refine o_val (by simp only [execOp, Sem.run_bind, hx, hr, Result.andThen_ok]; rfl)
    (h w.heap.size _ _ _ (H.drew.new _ (.obj w.heap.size (.cells (bytesRow s (grownCap w s.size 0 e)) e ((bytesRow s (grownCap w s.size 0 e)).size, (bytesRow s (grownCap w s.size 0 e)).size + 1))) rfl (heap_alloc_new' w.drew _)) H.size ?_ (grownCap_ge w s.size 0 e))
  intro w'' hw
  refine .inr ⟨_, 0, _, _, _, rfl, hw, fun i v hv => ?_⟩
  rw [List.getElem?_map] at hv
  obtain ⟨u, hu, rfl⟩ := Option.map_eq_some_iff.1 hv
  have hlt := (List.getElem?_eq_some_iff.1 hu).1
  rw [Array.length_toList] at hlt
  rw [Nat.zero_add, bytesRow_at s _ i hlt]
  have : s.data.toList[i]? = some s.data[i] := by simp []
  rw [this] at hu; cases hu; rfl
theorem o_idxa {len : Nat} {k : IntKind} {i : Int} {cs : Array Value} {e : TypeId} {v : Value} (hu : P.underlying t = some (.array len e)) (hc : cellTy P e = true) (hsz : cellSz P e = some 1) (hx : ev n σ x = .agg cs) (hy : ev n σ y = .int k i) (h0 : 0 ≤ i) (h1 : i < len) (hv : cs[i.toNat]? = some v)
    (h : K (mk n (up σ d v)) w) : Oper.wp P ⟨some d, .index t x y, ty, pos, aft, g⟩ (mk n σ) w K Q :=
  o_val (by simp [execOp, hx, hy, Instr.index, asIntOf, run_underlying hu, h0, h1, run_sizeOf_sz hsz, part, run_isAgg_cell hc, hv]) h
theorem eqItems_u8 {e : TypeId} (he : P.underlying e = some (.int .u8)) (dd : Nat) (a b : List UInt8) (hab : a.length = b.length) (w : World) :
    ∀ is : List Nat, (∀ i ∈ is, i < a.length) → (Op.eqItems (dd + 1) e 1 (a.map V8).toArray (b.map V8).toArray is).run P w = .ok (is.all fun i => a[i]? == b[i]?) w := by
  intro is
  induction is with
  | nil => intro _; simp [Op.eqItems]
  | cons i is ih =>
    intro h
    have hi := h i (by simp)
    have hca : (part e (a.map V8).toArray (i * 1)).run P w = .ok (V8 (a[i]'hi)) w := by
      have hct : cellTy P e = true := by simp [cellTy, he]
      simp [part, run_isAgg_cell hct, hi]
    have hcb : (part e (b.map V8).toArray (i * 1)).run P w = .ok (V8 (b[i]'(by omega))) w := by
      have hct : cellTy P e = true := by simp [cellTy, he]
      simp [part, run_isAgg_cell hct, show i < b.length by omega]
    have heq : (Op.equalIn (dd + 1) e (V8 (a[i]'hi)) (V8 (b[i]'(by omega)))).run P w = .ok (a[i]'hi == b[i]'(by omega)) w := by
      simp only [Op.equalIn, Sem.run_bind, run_underlying he, Result.andThen_ok]
      simp
      rw [Bool.eq_iff_iff]; simp only [beq_iff_eq]
      rw [← UInt8.toNat_inj]; omega
    have h2 := ih (fun j hj => h j (by simp [hj]))
    simp only [Op.eqItems, Sem.run_bind, hca, hcb, heq, Result.andThen_ok]
    rw [List.all_cons, List.getElem?_eq_getElem hi, List.getElem?_eq_getElem (by omega : i < b.length)]
    by_cases hh : a[i]'hi = b[i]'(by omega)
    · simp [hh, h2]
    · simp [hh]
theorem run_equal_u8s {t e : TypeId} {m : Nat} (hu : P.underlying t = some (.array m e)) (he : P.underlying e = some (.int .u8)) (hc : cellSz P e = some 1) (a b : List UInt8) (ha : a.length = m) (hb : b.length = m) (w : World) :
    (Op.equal t (.agg (a.map V8).toArray) (.agg (b.map V8).toArray)).run P w = .ok (decide (a = b)) w := by
  cases hi : P.info? e with
  | none => simp [cellSz, hi] at hc
  | some i =>
    have hco : P.cellsOf e = 1 := by simpa [cellSz, hi, Program.cellsOf] using hc
    unfold Op.equal Op.maxDepth
    rw [run_equalIn_array w 9999 _ _ hu hi, hco, eqItems_u8 he 9998 a b (by omega) w _ (by simp [ha])]
    congr 1
    rw [Bool.eq_iff_iff]
    simp only [List.all_eq_true, List.mem_range, beq_iff_eq, decide_eq_true_eq]
    constructor
    · intro h
      apply List.ext_getElem?
      intro j
      by_cases hj : j < m
      · exact h j hj
      · rw [List.getElem?_eq_none (by omega), List.getElem?_eq_none (by omega)]
    · rintro rfl j _; rfl
theorem eqGuardType_u8s {t e : TypeId} {m : Nat} (hu : P.underlying t = some (.array m e)) (he : P.underlying e = some (.int .u8)) (dd : Nat) : P.eqGuardType (dd + 2) t = false := by
  simp [Program.eqGuardType, hu, he]
theorem run_eqGuard_u8s {t e : TypeId} {m : Nat} {op : BinOp} (hu : P.underlying t = some (.array m e)) (he : P.underlying e = some (.int .u8)) (x y : Operand) (a b : Array Value) (w : World) :
    (eqGuard op t x y (.agg a) (.agg b)).run P w = .ok () w := by
  have h1 : P.eqGuardType P.depth t = false := by
    unfold Program.depth
    exact eqGuardType_u8s hu he _
  cases op <;> simp [eqGuard, h1]
/-- pointers held against nil. -/
theorem o_pnil {e : TypeId} {a : Option Addr} (hu : P.underlying t = some (.pointer e)) (hx : ev n σ x = .pointer a) (hy : ev n σ y = .pointer none) (h : K (mk n (up σ d (.bool a.isNone))) w) :
    Oper.wp P ⟨some d, .binOp .eql t x y yt, ty, pos, aft, g⟩ (mk n σ) w K Q :=
  o_val (by
    have e1 : (Op.equal t (.pointer a) (.pointer none)).run P w = .ok a.isNone w := by
      unfold Op.equal Op.maxDepth Op.equalIn
      rw [Sem.run_bind, run_underlying hu]
      cases a <;> simp
    have e2 : binOp .eql t (.pointer a) (.pointer none) = (do pure (.bool (← Op.equal t (.pointer a) (.pointer none)))) := by cases a <;> rfl
    simp only [execOp, hx, hy, Sem.run_bind, e2]
    simp [eqGuard, e1]) h
theorem e_retc {fn : Func} {R : Ending → World → Prop} {tt : Tmp} {rt : TypeId} {b i k : Nat} {C : List Value} {T : TypeId} (hres : fn.results = #[.cell tt rt]) (H : Hp w0 w S L) (hi : L[i]? = some (.blk b C T)) (hv : ev n σ (.tmp tt) = .pointer (some ⟨b, 0, none⟩)) (hr : rowTy P rt = some k) (hk : k = C.length)
    (hR : R (.returned (.agg C.toArray)) w) : bodyPost P fn R .ret (mk n σ) w := by
  refine ⟨mk_defers n σ, .agg C.toArray, ?_, hR⟩
  have h1 := run_loadAt_row (P := P) (o := 0) (H.blk hi) hr (by omega)
  simp only [Instr.loadAt, Instr.sureAddr, Sem.run_bind, Sem.run_pure, Result.andThen_ok] at h1
  have h2 : (mk n σ).tmps.getD tt undef = .pointer (some ⟨b, 0, none⟩) := by rw [← hv, ← mk_tmp]
  have h3 : C.toArray = ((C.drop 0).take k).toArray := by simp [hk]
  rw [h3]
  simp only [results, hres]
  simp only [mk] at h2 ⊢
  simp [Array.mapM_eq_foldlM, asAddr]
  rw [← Array.getD_eq_getD_getElem?, h2]
  simp [h1]
theorem wp_held {id : Nat} {l : List Oper} {a : Act} (S' : World → Prop) (hm : P.follows .mixedOrders = true)
    (h : wpAnyH P .any l.toArray Q S' l.length (Array.replicate l.length false) a w.drew) : (Code.region id l.toArray true).wp P Q a w :=
  wp_region_held hm (by simpa using h)
end
end Go.Proofs.YtmiabahejnjhiaaGreatDoor
namespace Go.Proofs.YtmiabahejnjhiaaGreatDoor
open Go
section
variable {P : Program} {Q : Exit → Act → World → Prop} {n : Nat} {σ : Nat → Value} {w w0 : World} {K : Act → World → Prop}
  {ty : TypeId} {pos : String} {aft : Array Edge} {g : Option (Nat × Bool)} {d : Nat} {t yt : TypeId} {x y z : Operand} {S : List Nat} {L : List Ch} {op : BinOp}
theorem r_mv {x : Operand}  :
    (execOp (ev n σ) ⟨some d, .move x, ty, pos, aft, g⟩).run P w = .ok (.value ((ev n σ x))) w :=
  (by simp [execOp])
theorem r_as {x : Operand}  :
    (execOp (ev n σ) ⟨some d, .assign x, ty, pos, aft, g⟩).run P w = .ok (.value ((ev n σ x))) w :=
  (by simp [execOp])
theorem r_pick {c x y : Operand} {b : Bool} (hc : ev n σ c = .bool b)  :
    (execOp (ev n σ) ⟨some d, .pick c x y, ty, pos, aft, g⟩).run P w = .ok (.value ((bif b then ev n σ x else ev n σ y))) w :=
  (by cases b <;> simp [execOp, hc, asBool])
theorem r_ext {x : Operand} {i : Nat} {vs : Array Value} {v : Value} (hx : ev n σ x = .tuple vs) (hv : vs[i]? = some v)  :
    (execOp (ev n σ) ⟨some d, .extract x i, ty, pos, aft, g⟩).run P w = .ok (.value (v)) w :=
  (by simp [execOp, hx, Instr.extract, hv])
theorem r_nilc {x : Operand} {a : Addr} (hx : ev n σ x = .pointer (some a))  :
    (execOp (ev n σ) ⟨some d, .nilCheck x, ty, pos, aft, g⟩).run P w = .ok (.value ((.pointer (some a)))) w :=
  (by simp [execOp, hx])
theorem r_not {x : Operand} {b : Bool} {t : TypeId} (hx : ev n σ x = .bool b)  :
    (execOp (ev n σ) ⟨some d, .unOp .not t x, ty, pos, aft, g⟩).run P w = .ok (.value ((.bool (!b)))) w :=
  (by simp [execOp, hx, Op.unary])
theorem r_bin {k : IntKind} {a b : Int} {v : Value} (hx : ev n σ x = .int k a) (hy : ev n σ y = .int k b)
    (hr : ∀ w : World, (binOp op t (.int k a) (.int k b)).run P w = .ok v w)  :
    (execOp (ev n σ) ⟨some d, .binOp op t x y yt, ty, pos, aft, g⟩).run P w = .ok (.value (v)) w :=
  (by
    have he : (eqGuard op t x y (.int k a) (.int k b)).run P w = .ok () w := by
      unfold eqGuard
      cases op <;> simp
    simp [execOp, hx, hy, he, hr])
theorem r_shift {k yk : IntKind} {a b : Int} {v : Value} (hx : ev n σ x = .int k a) (hy : ev n σ y = .int yk b) (ho : op = .shl ∨ op = .shr)
    (hr : ∀ w : World, (Op.shift op k a yk b).run P w = .ok v w)  :
    (execOp (ev n σ) ⟨some d, .binOp op t x y yt, ty, pos, aft, g⟩).run P w = .ok (.value (v)) w :=
  (by
    rcases ho with rfl | rfl <;> simp [execOp, hx, hy, eqGuard, binOp, hr])
theorem r_un {k : IntKind} {a : Int} {v : Value} {uo : UnOp} (hx : ev n σ x = .int k a)
    (hr : ∀ w : World, (Op.unary uo (.int k a)).run P w = .ok v w)  :
    (execOp (ev n σ) ⟨some d, .unOp uo t x, ty, pos, aft, g⟩).run P w = .ok (.value (v)) w :=
  (by simp [execOp, hx, hr])
theorem r_conv {k : IntKind} {a : Int} {ds : TypeDesc} {k' : IntKind} {v : Int} (hs : P.underlying t = some ds) (hd : P.underlying yt = some (.int k')) (hx : ev n σ x = .int k a)
    (hr : k'.wrap a = v)  :
    (execOp (ev n σ) ⟨some d, .convert t yt x, ty, pos, aft, g⟩).run P w = .ok (.value ((.int k' v))) w :=
  (by
    have h1 : (underlying t).run P w = .ok ds w := run_underlying hs w
    have h2 : (underlying yt).run P w = .ok (.int k') w := run_underlying hd w
    cases ds <;> simp [execOp, hx, convert, h1, h2, Conv.intToInt, hr])
theorem r_beq {a b : Bool} (hu : P.underlying t = some .bool) (hx : ev n σ x = .bool a) (hy : ev n σ y = .bool b)  :
    (execOp (ev n σ) ⟨some d, .binOp .eql t x y yt, ty, pos, aft, g⟩).run P w = .ok (.value ((.bool (a == b)))) w :=
  (by
    have e1 : (Op.equal t (.bool a) (.bool b)).run P w = .ok (a == b) w := run_equal_bool hu a b w
    have e2 : binOp .eql t (.bool a) (.bool b) = (do pure (.bool (← Op.equal t (.bool a) (.bool b)))) := rfl
    simp [execOp, hx, hy, eqGuard, e2, e1])
theorem r_str {a b : ByteArray} {v : Value} (hx : ev n σ x = .string a) (hy : ev n σ y = .string b)
    (hr : ∀ w : World, (Op.stringOp op a b).run P w = .ok v w) (ho : op ≠ .shl ∧ op ≠ .shr)  :
    (execOp (ev n σ) ⟨some d, .binOp op t x y yt, ty, pos, aft, g⟩).run P w = .ok (.value (v)) w :=
  (by
    have he : (eqGuard op t x y (.string a) (.string b)).run P w = .ok () w := by
      unfold eqGuard
      cases op <;> simp
    cases op <;> simp_all [execOp, binOp])
theorem r_fa {b o i k : Nat} (hx : ev n σ x = .pointer (some ⟨b, o, none⟩)) (hf : fieldOff P t i = some k)  :
    (execOp (ev n σ) ⟨some d, .fieldAddr t x i, ty, pos, aft, g⟩).run P w = .ok (.value ((.pointer (some ⟨b, o + k, none⟩)))) w := by
  unfold fieldOff at hf
  cases hu : P.underlying t with
  | none => simp [hu] at hf
  | some ds =>
    cases ds <;> simp only [hu] at hf <;> try (cases hf)
    rename_i fs
    cases hfs : fs[i]? with
    | none => simp [hfs] at hf
    | some f =>
      cases hj : P.info? f.type with
      | none => simp [hfs, hj] at hf
      | some j =>
        simp only [hfs, hj, Option.bind_some] at hf
        split at hf
        · cases hf
        · cases hf
          rename_i hsz
          simp [execOp, hx, Instr.fieldAt, run_underlying hu, hfs, Instr.sureAddr, fieldPlace, sizeOf, typeInfo, hj, hsz, Addr.add_mid]
theorem r_ia {b o len sz : Nat} {k : IntKind} {i : Int} (hx : ev n σ x = .pointer (some ⟨b, o, none⟩)) (hy : ev n σ y = .int k i) (ha : arrOf P t = some (len, sz)) (h0 : 0 ≤ i) (h1 : i < len)  :
    (execOp (ev n σ) ⟨some d, .indexAddr t x y, ty, pos, aft, g⟩).run P w = .ok (.value ((.pointer (some ⟨b, o + i.toNat * sz, none⟩)))) w := by
  unfold arrOf at ha
  cases hu : P.underlying t with
  | none => simp [hu] at ha
  | some ds =>
    cases ds <;> simp only [hu] at ha <;> try (cases ha)
    rename_i l e
    cases hj : P.info? e with
    | none => simp [hj] at ha
    | some j =>
      simp only [hj, Option.map_some, Option.some.injEq, Prod.mk.injEq] at ha
      obtain ⟨rfl, rfl⟩ := ha
      simp [execOp, hx, hy, Instr.indexAt, run_underlying hu, asIntOf, Instr.sureAddr, h0, h1, sizeOf, typeInfo, hj, Addr.add_mid]
theorem r_ld {b o i : Nat} {C : List Value} {T : TypeId} {v : Value} (H : Hp w0 w S L) (hi : L[i]? = some (.blk b C T)) (hx : ev n σ x = .pointer (some ⟨b, o, none⟩)) (ht : cellTy P t = true) (hv : C[o]? = some v)  :
    (execOp (ev n σ) ⟨some d, .load t x, ty, pos, aft, g⟩).run P w = .ok (.value (v)) w :=
  (by
    have hc : w.cell? ⟨b, o, none⟩ = some v := by simp [World.cell?, H.blk hi, hv]
    simp [execOp, hx, run_loadAt_cell ht hc])
theorem r_ldr {b o i k : Nat} {C : List Value} {T : TypeId} (H : Hp w0 w S L) (hi : L[i]? = some (.blk b C T)) (hx : ev n σ x = .pointer (some ⟨b, o, none⟩)) (ht : rowTy P t = some k) (hk : o + k ≤ C.length)  :
    (execOp (ev n σ) ⟨some d, .load t x, ty, pos, aft, g⟩).run P w = .ok (.value ((.agg ((C.drop o).take k).toArray))) w :=
  (by simp [execOp, hx, run_loadAt_row (H.blk hi) ht hk])
theorem r_lds {b o i : Nat} {a : Option Addr} {vs : List Value} {v : Value} (hr : RdS w a vs) (ha : a = some ⟨b, o, none⟩) (hx : ev n σ x = .pointer (some ⟨b, o + i, none⟩)) (ht : cellTy P t = true) (hv : vs[i]? = some v)  :
    (execOp (ev n σ) ⟨some d, .load t x, ty, pos, aft, g⟩).run P w = .ok (.value (v)) w :=
  (by
    obtain ⟨b', o', ha', hc⟩ := hr.cell hv
    rw [ha] at ha'; cases ha'
    simp [execOp, hx, run_loadAt_cell ht hc])
theorem r_ldsr {b o i k : Nat} {a : Option Addr} {vs : List Value} (hr : RdS w a vs) (ha : a = some ⟨b, o, none⟩) (hx : ev n σ x = .pointer (some ⟨b, o + i, none⟩)) (ht : rowTy P t = some k) (hk0 : 0 < k) (hk : i + k ≤ vs.length)  :
    (execOp (ev n σ) ⟨some d, .load t x, ty, pos, aft, g⟩).run P w = .ok (.value ((.agg ((vs.drop i).take k).toArray))) w := by
  rcases hr with rfl | ⟨b', o', C, T, fr, ha', hb, hc⟩
  · simp at hk; omega
  · rw [ha] at ha'; cases ha'
    have hlen : o + vs.length ≤ C.size := by
      have := hc (vs.length - 1) (vs[vs.length - 1]'(by omega)) (List.getElem?_eq_getElem (by omega))
      have := (Array.getElem?_eq_some_iff.1 this).1
      omega
    have e := run_loadAt_row (P := P) (t := t) (k := k) (b := b) (o := o + i) (C := C.toList) (T := T) (fr := fr) (w := w) (by simpa using hb) ht (by simp; omega)
    have e2 : (C.toList.drop (o + i)).take k = (vs.drop i).take k := by
      apply List.ext_getElem?
      intro j
      by_cases hj : j < k
      · rw [List.getElem?_take_of_lt hj, List.getElem?_take_of_lt hj, List.getElem?_drop, List.getElem?_drop, List.getElem?_eq_getElem (l := vs) (by omega)]
        have := hc (i + j) _ (List.getElem?_eq_getElem (by omega))
        simpa [Nat.add_assoc] using this
      · simp [List.getElem?_take, hj]
    rw [e2] at e
    simp [execOp, hx, e]
theorem r_sl {lo hi mx : Option Operand} {a : Option Addr} {len cap sz l h m : Nat} {lv hv mv : Option Value} (hx : ev n σ x = .slice a len cap) (ht : eltOf P t = some sz)
    (hl : lo.map (ev n σ) = lv) (hh : hi.map (ev n σ) = hv) (hm : mx.map (ev n σ) = mv) (hb : ∀ w, (Instr.sliceBounds true len cap lv hv mv).run P w = .ok (l, h, m) w)  :
    (execOp (ev n σ) ⟨some d, .slice t x lo hi mx, ty, pos, aft, g⟩).run P w = .ok (.value ((.slice (sa a l m sz) (h - l) (m - l)))) w := by
  unfold eltOf at ht
  cases hu : P.underlying t with
  | none => simp [hu] at ht
  | some ds =>
    cases ds <;> simp only [hu] at ht <;> try (cases ht)
    rename_i e
    cases hj : P.info? e with
    | none => simp [hj] at ht
    | some j =>
      simp only [hj, Option.map_some, Option.some.injEq] at ht
      subst ht
      simp [execOp, hx, hl, hh, hm, Instr.sliceAt, Instr.slice, run_underlying hu, hb, sizeOf, typeInfo, hj, sa]
theorem r_sla {lo hi mx : Option Operand} {b o len sz l h m : Nat} {lv hv mv : Option Value} (hx : ev n σ x = .pointer (some ⟨b, o, none⟩)) (ht : arrOf P t = some (len, sz))
    (hl : lo.map (ev n σ) = lv) (hh : hi.map (ev n σ) = hv) (hm : mx.map (ev n σ) = mv) (hb : ∀ w, (Instr.sliceBounds false len len lv hv mv).run P w = .ok (l, h, m) w)  :
    (execOp (ev n σ) ⟨some d, .slice t x lo hi mx, ty, pos, aft, g⟩).run P w = .ok (.value ((.slice (sa (some ⟨b, o, none⟩) l m sz) (h - l) (m - l)))) w := by
  unfold arrOf at ht
  cases hu : P.underlying t with
  | none => simp [hu] at ht
  | some ds =>
    cases ds <;> simp only [hu] at ht <;> try (cases ht)
    rename_i n' e
    cases hj : P.info? e with
    | none => simp [hj] at ht
    | some j =>
      simp only [hj, Option.map_some, Option.some.injEq, Prod.mk.injEq] at ht
      obtain ⟨rfl, rfl⟩ := ht
      by_cases hml : m = l
      · simp [execOp, hx, hl, hh, hm, Instr.sliceAt, Instr.sureAddr, run_underlying hu, hb, sizeOf, typeInfo, hj, sa, hml]
      · simp [execOp, hx, hl, hh, hm, Instr.sliceAt, Instr.sureAddr, run_underlying hu, hb, sizeOf, typeInfo, hj, sa, hml]
theorem r_sls {lo hi : Option Operand} {s : ByteArray} {l h m : Nat} {lv hv : Option Value} (hu : P.underlying t = some .string) (hx : ev n σ x = .string s)
    (hl : lo.map (ev n σ) = lv) (hh : hi.map (ev n σ) = hv) (hb : ∀ w, (Instr.sliceBounds false s.size s.size lv hv none).run P w = .ok (l, h, m) w)  :
    (execOp (ev n σ) ⟨some d, .slice t x lo hi none, ty, pos, aft, g⟩).run P w = .ok (.value ((.string (s.extract l h)))) w :=
  (by simp [execOp, hx, hl, hh, Instr.sliceAt, Instr.slice, run_underlying hu, hb])
theorem r_lens {a : Option Addr} {len cap : Nat} {sz : Nat} (ht : eltOf P t = some sz) (hx : ev n σ x = .slice a len cap)  :
    (execOp (ev n σ) ⟨some d, .call ⟨.builtin .len, #[x], #[t]⟩, ty, pos, aft, g⟩).run P w = .ok (.value ((VI len))) w :=
  (run_builtin (s := Builtin.len_ #[t] ty #[.slice a len cap]) (vs := #[.slice a len cap]) (by simp [hx]) (fun _ => rfl) (by
    unfold eltOf at ht
    cases hu : P.underlying t with
    | none => simp [hu] at ht
    | some ds =>
      cases ds <;> simp only [hu] at ht <;> try (cases ht)
      simp [Builtin.len_, run_underlying hu, goInt]))
theorem r_lenstr {s : ByteArray} (hu : P.underlying t = some .string) (hx : ev n σ x = .string s)  :
    (execOp (ev n σ) ⟨some d, .call ⟨.builtin .len, #[x], #[t]⟩, ty, pos, aft, g⟩).run P w = .ok (.value ((VI s.size))) w :=
  (run_builtin (s := Builtin.len_ #[t] ty #[.string s]) (vs := #[.string s]) (by simp [hx]) (fun _ => rfl) (by
      simp [Builtin.len_, run_underlying hu, goInt]))
theorem r_max {k : IntKind} {a b : Int} {ats : Array TypeId} (hx : ev n σ x = .int k a) (hy : ev n σ y = .int k b)  :
    (execOp (ev n σ) ⟨some d, .call ⟨.builtin .max, #[x, y], ats⟩, ty, pos, aft, g⟩).run P w = .ok (.value ((.int k (if a < b then b else a)))) w :=
  (run_builtin (s := Builtin.max_ ats ty #[.int k a, .int k b]) (vs := #[.int k a, .int k b]) (by simp [hx, hy]) (fun _ => rfl) run_max_int2')
theorem r_b2s {e : TypeId} {a : Option Addr} {len cap : Nat} {l : List UInt8} (hs : P.underlying t = some (.slice e)) (he : P.underlying e = some (.int .u8)) (hd : P.underlying yt = some .string)
    (hx : ev n σ x = .slice a len cap) (hr : RdS w a (l.map V8)) (hl : l.length = len)  :
    (execOp (ev n σ) ⟨some d, .convert t yt x, ty, pos, aft, g⟩).run P w = .ok (.value ((.string ⟨l.toArray⟩))) w := by
  subst hl
  exact (by
    simp only [execOp, Sem.run_bind, hx]
    cases a with
    | none =>
      have : l = [] := by rcases hr with h | ⟨_, _, _, _, _, h, _⟩ <;> simp_all
      subst this
      rw [run_convert_bytes_string w t yt e none _ cap hs he hd]
      simp [Conv.bytesToString]
      rfl
    | some ad =>
      rw [run_convert_bytes_back w t yt e ad cap l hs he hd (fun j hj => by
        obtain ⟨b, o, ha, hc⟩ := hr.cell (i := j) (v := V8 l[j]) (by simp [hj])
        cases ha
        rw [Addr.add_mid]; exact hc)]
      simp)
theorem r_idxs {s : ByteArray} {k : IntKind} {i : Int} {u : UInt8} (hu : P.underlying t = some .string) (hx : ev n σ x = .string s) (hy : ev n σ y = .int k i) (h0 : 0 ≤ i) (hv : s.data.toList[i.toNat]? = some u)  :
    (execOp (ev n σ) ⟨some d, .index t x y, ty, pos, aft, g⟩).run P w = .ok (.value ((V8 u))) w := by
  have hlt : i.toNat < s.size := by
    have := (List.getElem?_eq_some_iff.1 hv).1
    simpa using this
  have e : s[i.toNat]? = some u := by
    rw [getElem?_pos s i.toNat hlt]
    have hh : i.toNat < s.data.toList.length := by simpa using hlt
    rw [List.getElem?_eq_getElem hh] at hv
    rw [← hv]; rfl
  simp [execOp, hx, hy, Instr.index, asIntOf, run_underlying hu, h0, e]
theorem r_fld {i : Nat} {cs : Array Value} {v : Value} {fs : Array Field} {f : Field} (hu : P.underlying t = some (.struct fs)) (hf : fs[i]? = some f) (hc : cellTy P f.type = true) (hx : ev n σ x = .agg cs) (hv : cs[f.offset]? = some v)  :
    (execOp (ev n σ) ⟨some d, .field t x i, ty, pos, aft, g⟩).run P w = .ok (.value (v)) w :=
  (by simp [execOp, hx, Instr.field, run_underlying hu, hf, asAgg, part, run_isAgg_cell hc, hv])
theorem r_sap {a : Option Addr} {len cap k : Nat} {e : TypeId} (hu : P.underlying t = some (.array k e)) (hx : ev n σ x = .slice a len cap) (hk : k ≤ len)  :
    (execOp (ev n σ) ⟨some d, .sliceToArrayPointer t x, ty, pos, aft, g⟩).run P w = .ok (.value ((.pointer a))) w :=
  (by simp [execOp, hx, run_arrayAt (P := P) (w := w) t e k a len cap hu hk])
theorem r_nea {e : TypeId} {m : Nat} {a b : List UInt8} (hu : P.underlying t = some (.array m e)) (he : P.underlying e = some (.int .u8)) (hc : cellSz P e = some 1) (hx : ev n σ x = .agg (a.map V8).toArray) (hy : ev n σ y = .agg (b.map V8).toArray) (ha : a.length = m) (hb : b.length = m)  :
    (execOp (ev n σ) ⟨some d, .binOp .neq t x y yt, ty, pos, aft, g⟩).run P w = .ok (.value ((.bool (!decide (a = b))))) w :=
  (by
    have e2 : binOp .neq t (.agg (a.map V8).toArray) (.agg (b.map V8).toArray) = (do pure (.bool (!(← Op.equal t (.agg (a.map V8).toArray) (.agg (b.map V8).toArray))))) := rfl
    simp only [execOp, hx, hy, Sem.run_bind, run_eqGuard_u8s hu he, Result.andThen_ok, e2, run_equal_u8s hu he hc a b ha hb]
    simp)
theorem r_is {a : Option Addr} {b o len cap sz : Nat} {k : IntKind} {i : Int} (hx : ev n σ x = .slice a len cap) (hy : ev n σ y = .int k i) (ha : eltOf P t = some sz) (hb : a = some ⟨b, o, none⟩) (h0 : 0 ≤ i) (h1 : i < len) :
    (execOp (ev n σ) ⟨some d, .indexAddr t x y, ty, pos, aft, g⟩).run P w = .ok (.value (.pointer (some ⟨b, o + i.toNat * sz, none⟩))) w := by
  subst hb
  unfold eltOf at ha
  cases hu : P.underlying t with
  | none => simp [hu] at ha
  | some ds =>
    cases ds <;> simp only [hu] at ha <;> try (cases ha)
    rename_i e
    cases hj : P.info? e with
    | none => simp [hj] at ha
    | some j =>
      simp only [hj, Option.map_some, Option.some.injEq] at ha
      subst ha
      simp [execOp, hx, hy, Instr.indexAt, run_underlying hu, asIntOf, h0, h1, sizeOf, typeInfo, hj, Addr.add_mid]
variable {ops : Array Oper} {S' : World → Prop} {fuel : Nat} {listed : Array Bool} {dst : Option Tmp} {oo : Op}
/-- operation i only looks, and may be taken first. -/
theorem t_take (i : Nat) {v : Value} (hi : ops[i]? = some ⟨some d, oo, ty, pos, aft, none⟩) (hs : Region.noSelect ops = true) (hf : Region.free .any ops listed i = true) (hr : (Region.ready .any ops listed).contains i = true)
    (hQ : ∀ c a w, Q (.panic c) (a.put (some d) v) w → Q (.panic c) a w)
    (hy : ∀ w, S' w → (execOp (ev n σ) ⟨some d, oo, ty, pos, aft, none⟩).run P w = .ok (.value v) w) (hS : S' w)
    (h : wpAnyH P .any ops Q S' fuel (listed.setIfInBounds i true) (mk n (up σ d v)) w) : wpAnyH P .any ops Q S' (fuel + 1) listed (mk n σ) w :=
  wpAnyH_take (v := v) hi hs hf hr hQ (.inl ⟨rfl, fun w hw => by rw [mk_evalf]; exact hy w hw⟩) hS (by show wpAnyH P .any ops Q S' fuel _ ((mk n σ).put (some d) v) w; rw [mk_put]; exact h)
/-- .. guarded, and wanted. -/
theorem t_takeg (i : Nat) {v : Value} {j : Nat} {b : Bool} (hi : ops[i]? = some ⟨some d, oo, ty, pos, aft, some (j, b)⟩) (hs : Region.noSelect ops = true) (hf : Region.free .any ops listed i = true) (hr : (Region.ready .any ops listed).contains i = true)
    (hQ : ∀ c a w, Q (.panic c) (a.put (some d) v) w → Q (.panic c) a w) (hg : yielded ops (mk n σ).tmps j = some b)
    (hy : ∀ w, S' w → (execOp (ev n σ) ⟨some d, oo, ty, pos, aft, some (j, b)⟩).run P w = .ok (.value v) w) (hS : S' w)
    (h : wpAnyH P .any ops Q S' fuel (listed.setIfInBounds i true) (mk n (up σ d v)) w) : wpAnyH P .any ops Q S' (fuel + 1) listed (mk n σ) w :=
  wpAnyH_take (v := v) hi hs hf hr hQ (.inl ⟨by simp [Region.wanted, hg], fun w hw => by rw [mk_evalf]; exact hy w hw⟩) hS (by show wpAnyH P .any ops Q S' fuel _ ((mk n σ).put (some d) v) w; rw [mk_put]; exact h)
/-- .. guarded, and not wanted. -/
theorem t_no (i : Nat) {j : Nat} {b c : Bool} (hi : ops[i]? = some ⟨some d, oo, ty, pos, aft, some (j, b)⟩) (hs : Region.noSelect ops = true) (hf : Region.free .any ops listed i = true) (hr : (Region.ready .any ops listed).contains i = true)
    (hQ : ∀ c a w, Q (.panic c) (a.put (some d) undef) w → Q (.panic c) a w) (hg : yielded ops (mk n σ).tmps j = some c) (hc : (c == b) = false) (hS : S' w)
    (h : wpAnyH P .any ops Q S' fuel (listed.setIfInBounds i true) (mk n (up σ d undef)) w) : wpAnyH P .any ops Q S' (fuel + 1) listed (mk n σ) w :=
  wpAnyH_take (v := undef) hi hs hf hr hQ (.inr ⟨by simp [Region.wanted, hg]; intro e; subst e; simp at hc, rfl⟩) hS (by show wpAnyH P .any ops Q S' fuel _ ((mk n σ).put (some d) undef) w; rw [mk_put]; exact h)
/-- the one operation that may come up is carried out. -/
theorem t_step (i : Nat) {a : Act} (hi : ops[i]? = some ⟨dst, oo, ty, pos, aft, none⟩) (hr : Region.ready .any ops listed = [i])
    (h : Oper.wp P ⟨dst, oo, ty, pos, aft, none⟩ a w (fun a' w' => S' w' ∧ wpAnyH P .any ops Q S' fuel (listed.setIfInBounds i true) a' w') Q) : wpAnyH P .any ops Q S' (fuel + 1) listed a w :=
  wpAnyH_all hr (by simp) (by
    simp only [List.mem_singleton, forall_eq]
    unfold wpOp
    simp only [hi]
    rw [if_pos (by simp [Region.wanted])]
    exact .inl h)
theorem t_stepg (i : Nat) {a : Act} {j : Nat} {b : Bool} (hi : ops[i]? = some ⟨dst, oo, ty, pos, aft, some (j, b)⟩) (hr : Region.ready .any ops listed = [i]) (hg : yielded ops a.tmps j = some b)
    (h : Oper.wp P ⟨dst, oo, ty, pos, aft, some (j, b)⟩ a w (fun a' w' => S' w' ∧ wpAnyH P .any ops Q S' fuel (listed.setIfInBounds i true) a' w') Q) : wpAnyH P .any ops Q S' (fuel + 1) listed a w :=
  wpAnyH_all hr (by simp) (by
    simp only [List.mem_singleton, forall_eq]
    unfold wpOp
    simp only [hi]
    rw [if_pos (by simp [Region.wanted, hg])]
    exact .inl h)
theorem t_done {a : Act} (hr : Region.ready .any ops listed = []) (h : Q .normal a w) : wpAnyH P .any ops Q S' fuel listed a w := wpAnyH_done hr h fuel
/-- the rest of a region, as a function of what has come up, the frame and the world: so that a state is shown once, however one comes to it. -/
theorem lat_start (h : ∀ G : Nat → Array Bool → (Nat → Value) → World → Prop, (∀ f l τ w, G f l τ w ↔ wpAnyH P .any ops Q S' f l (mk n τ) w) → G fuel listed σ w) : wpAnyH P .any ops Q S' fuel listed (mk n σ) w :=
  (h (fun f l τ w => wpAnyH P .any ops Q S' f l (mk n τ) w) (fun _ _ _ _ => Iff.rfl))
theorem lat_use {G : Nat → Array Bool → (Nat → Value) → World → Prop} (hG : ∀ f l τ w, G f l τ w ↔ wpAnyH P .any ops Q S' f l (mk n τ) w) {pat : List (Nat × Value)} (h : ∀ τ, G fuel listed (ups τ pat) w) (hp : fits σ pat) :
    wpAnyH P .any ops Q S' fuel listed (mk n σ) w := by
  have := (hG _ _ _ _).1 (h σ)
  rwa [ups_of_fits σ _ hp] at this
theorem lat_fit {G : Nat → Array Bool → (Nat → Value) → World → Prop} {pat : List (Nat × Value)} (h : ∀ τ, G fuel listed (ups τ pat) w) (hp : fits σ pat) : G fuel listed σ w := by
  have := h σ
  rwa [ups_of_fits σ _ hp] at this
/-- whichever of the ready ones comes up. -/
theorem t_all {a : Act} (rs : List Nat) (hr : Region.ready .any ops listed = rs) (hne : rs ≠ [])
    (h : ∀ i ∈ rs, wpOp P ops Q i (fun a' w' => S' w' ∧ wpAnyH P .any ops Q S' fuel (listed.setIfInBounds i true) a' w') a w) : wpAnyH P .any ops Q S' (fuel + 1) listed a w := wpAnyH_all hr hne h
theorem all_nil {p : Nat → Prop} : ∀ i ∈ ([] : List Nat), p i := fun _ h => by cases h
theorem all_cons {p : Nat → Prop} {i : Nat} {l : List Nat} (h1 : p i) (h2 : ∀ i ∈ l, p i) : ∀ j ∈ i :: l, p j := fun j hj => by
  rcases List.mem_cons.1 hj with rfl | h
  · exact h1
  · exact h2 j h
theorem w_op (i : Nat) {a : Act} (hi : ops[i]? = some ⟨dst, oo, ty, pos, aft, none⟩) (h : Oper.wp P ⟨dst, oo, ty, pos, aft, none⟩ a w K Q) : wpOp P ops Q i K a w := by
  unfold wpOp
  simp only [hi]
  rw [if_pos (by simp [Region.wanted])]
  exact .inl h
theorem Hp.perm {L' : List Ch} (h : Hp w0 w S L) (hp : L.Perm L') : Hp w0 w S L' :=
  ⟨h.os, h.tape, h.output, h.size, h.frame, fun c hc => h.has c (hp.mem_iff.2 hc), fun c hc => h.fresh c (hp.mem_iff.2 hc),
    (hp.pairwise_iff (fun {_ _} hxy b hb hx => hxy b hx hb)).1 h.nd⟩
theorem perm_ins (A B : List Ch) (c : Ch) : (A ++ B ++ [c]).Perm (A ++ c :: B) := by
  rw [List.append_assoc]
  exact List.Perm.append_left A (List.perm_append_singleton c B)
theorem c_still {id : Nat} {a : Act} {l : List Oper} (hm : P.follows .mixedOrders = true) (hB : Region.lexB .any l.toArray = true)
    (h : wpStill P l.toArray w.drew (fun a' => Q .normal a' w.drew) l a) : (Code.region id l.toArray true).wp P Q a w := wp_region_still_lit hm hB h
theorem c_tail {id : Nat} {a : Act} {l : List Oper} (k : Nat) (hm : P.follows .mixedOrders = true) (hB : Region.lexTailB .any l.toArray k = true)
    (h : wpStill P l.toArray w.drew (fun a' => wpList P l.toArray Q (l.drop k) a' w.drew) (l.take k) a) : (Code.region id l.toArray true).wp P Q a w := wp_region_still_tail k hm hB h
variable {Qs : Act → Prop} {rest : List Oper}
theorem s_op {v : Value} (hy : (execOp (ev n σ) ⟨some d, oo, ty, pos, aft, none⟩).run P w = .ok (.value v) w) (h : wpStill P ops w Qs rest (mk n (up σ d v))) :
    wpStill P ops w Qs (⟨some d, oo, ty, pos, aft, none⟩ :: rest) (mk n σ) := by
  unfold wpStill
  rw [if_pos (by simp [Region.wanted])]
  unfold Oper.still
  rw [mk_evalf, hy]
  exact ⟨rfl, by show wpStill P ops w Qs rest ((mk n σ).put (some d) v); rw [mk_put]; exact h⟩
theorem s_no {j e : Nat} {b c : Bool} (he : (ops[j]?).bind (·.dst) = some e) (hb : Nat.blt e n = true) (hv : σ e = .bool c) (hc : (c == b) = false)
    (h : wpStill P ops w Qs rest (mk n (up σ d undef))) : wpStill P ops w Qs (⟨some d, oo, ty, pos, aft, some (j, b)⟩ :: rest) (mk n σ) := by
  unfold wpStill
  rw [if_neg (by simp [Region.wanted, yielded_mk ops j e he c hb hv]; intro h'; subst h'; simp at hc), mk_put]
  exact h
theorem s_nil {a : Act} (h : Qs a) : wpStill P ops w Qs [] a := h
/-- what a call hands back, always by returning. -/
def Ret (P : Program) (f : FuncId) (vs : List Value) (w : World) (R : Value → World → Prop) : Prop := Calls P f vs.toArray w fun e w' => ∃ v, e = .returned v ∧ R v w'
theorem Ret.mono {f : FuncId} {vs : List Value} {R R' : Value → World → Prop} (h : Ret P f vs w R) (hr : ∀ v w', R v w' → R' v w') : Ret P f vs w R' :=
  Calls.mono h fun _ w' ⟨v, he, hv⟩ => ⟨v, he, hr v w' hv⟩
theorem o_callR {f : FuncId} {fn : Func} {args : Array Operand} {ats : Array TypeId} {vs : List Value} {R : Value → World → Prop} (hf : P.funcs[f]? = some fn) (hb : fn.body.isSome = true) (hname : (fn.name == "runtime.NumGoroutine") = false)
    (ha : evs n σ args.toList = vs) (hc : Ret P f vs w R) (h : ∀ v w', R v w' → K (mk n (up σ d v)) w') :
    Oper.wp P ⟨some d, .call ⟨.value (.func f), args, ats⟩, ty, pos, aft, g⟩ (mk n σ) w K Q :=
  o_call hf hb hname (vs := vs.toArray) (by apply Array.ext'; rw [← ha, evs_eq]; simp) (Calls.mono hc fun e w' ⟨v, he, hv⟩ => by subst he; exact h v w' hv)
theorem s_call {f : FuncId} {fn : Func} {args : Array Operand} {ats : Array TypeId} {vs : List Value} {v : Value} (hf : P.funcs[f]? = some fn) (hb : fn.body.isSome = true) (hname : (fn.name == "runtime.NumGoroutine") = false)
    (ha : evs n σ args.toList = vs) (hc : Ret P f vs w fun x w' => x = v ∧ w' = w) (h : wpStill P ops w Qs rest (mk n (up σ d v))) :
    wpStill P ops w Qs (⟨some d, .call ⟨.value (.func f), args, ats⟩, ty, pos, aft, none⟩ :: rest) (mk n σ) := by
  unfold wpStill
  rw [if_pos (by simp [Region.wanted])]
  unfold Oper.still
  have hn : fn.body ≠ none := by cases hh : fn.body <;> simp_all
  have hnm : fn.name ≠ "runtime.NumGoroutine" := by intro e; simp [e] at hname
  have ha' : args.map (ev n σ) = vs.toArray := by apply Array.ext'; rw [← ha, evs_eq]; simp
  have : (execOp (mk n σ).eval ⟨some d, .call ⟨.value (.func f), args, ats⟩, ty, pos, aft, none⟩).run P w = .ok (.enter f vs.toArray) w := by
    rw [mk_evalf]
    simp [execOp, resolve, ev, Deferred.ofValue, invoke, callFunc, hf, hnm, hn, ha']
  rw [this]
  refine ⟨rfl, v, Calls.mono hc fun e w' ⟨x, he, hx, hw⟩ => ⟨by rw [he, hx], hw⟩, ?_⟩
  show wpStill P ops w Qs rest ((mk n σ).put (some d) v)
  rw [mk_put]; exact h
theorem ret_mk {f : FuncId} {fn : Func} {c : Code} {args : List Value} {R : Value → World → Prop} {n : Nat}
    (hf : P.funcs[f]? = some fn) (hb : fn.body = some c) (hn : fn.ntmps = n) (hle : args.length ≤ n)
    (h : c.wp P (bodyPost P fn fun e w' => ∃ v, e = .returned v ∧ R v w') (mk n (fun t => args.getD t undef)) w) : Ret P f args w R :=
  calls_mk hf hb hn hle h
end
section
variable {P : Program} {n : Nat} {σ : Nat → Value} {w : World} {Q : Exit → Act → World → Prop}
/-- the piece ends in the common way, with slots and world as R has it. -/
def nrm (n : Nat) (R : (Nat → Value) → World → Prop) (e : Exit) (a : Act) (w : World) : Prop :=
  match e with
  | .normal => ∃ τ, a = mk n τ ∧ R τ w
  | _ => False
theorem nrm_mk {R : (Nat → Value) → World → Prop} (h : R σ w) : nrm n R .normal (mk n σ) w := ⟨σ, rfl, h⟩
theorem perm_fr {α : Type} {c : α} : ∀ {L : List α} {j : Nat}, L[j]? = some c → L.Perm (c :: L.eraseIdx j)
  | a :: L, 0, h => by cases h; exact .refl _
  | a :: L, j + 1, h => by
    have := perm_fr (L := L) (j := j) h
    exact (List.Perm.cons a this).trans (.swap ..)
theorem join_fit {l : List (Nat × Value)} (h : fits σ l) : σ = ups σ l := (ups_of_fits σ l h).symm
theorem c_join {c : Code} (R : (Nat → Value) → World → Prop) (h : c.wp P (nrm n R) (mk n σ) w) (k : ∀ τ w, R τ w → Q .normal (mk n τ) w) : c.wp P Q (mk n σ) w :=
  wp_mono h fun e a w hr => by
    cases e <;> first
      | (obtain ⟨τ, rfl, h⟩ := hr; exact k τ w h)
      | exact (show False from hr).elim
end
end Go.Proofs.YtmiabahejnjhiaaGreatDoor
namespace Go.Proofs.YtmiabahejnjhiaaGreatDoor
set_option pp.maxSteps 600
set_option pp.deepTerms false
open Go
theorem oM {p : Prop} (h : p := by omega) : p := h
theorem bF {p : Prop} [Decidable p] (h : ¬ p) : Value.bool (decide p) = Value.bool false := congrArg Value.bool (decide_eq_false h)
theorem bT {p : Prop} [Decidable p] (h : p) : Value.bool (decide p) = Value.bool true := congrArg Value.bool (decide_eq_true h)
theorem mV {K G : Prop} (k : K) (h : K → G := by intro k; exact l_op (o_val r_mv k)) : G := h k
theorem aZ {K G : Prop} (k : K) (h : K → G := by intro k; exact l_op (o_val r_as k)) : G := h k
theorem eN {K G : Prop} (k : K) (h : K → G := by intro k; first | exact l_end k | exact l_nil k) : G := h k
theorem rG {K G : Prop} (k : K) (h : K → G := by intro k; (repeat refine c_seq ?_); exact c_region k) : G := h k
theorem cR {K G : Prop} (k : K) (h : K → G := by intro k; refine c_ret ?_; (try dsimp only [Exit.then, Exit.inBlock]); exact k) : G := h k
theorem eZ {K G : Prop} (k : K) (h : K → G := by intro k; (try simp only [Exit.then, Exit.inBlock, ↓reduceIte]); exact e_norm k) : G := h k
theorem qN {K G : Prop} (k : K) (h : K → G := by intro k; (repeat refine c_seq ?_); exact c_no rfl k) : G := h k
theorem qY {K G : Prop} (k : K) (h : K → G := by intro k; (repeat refine c_seq ?_); exact c_yes rfl k) : G := h k
theorem qB {K G : Prop} (k : K) (h : K → G := by intro k; (repeat refine c_seq ?_); exact c_block k) : G := h k
theorem qS {K G : Prop} (k : K) (h : K → G := by intro k; exact c_skip k) : G := h k
section
variable {P : Program} {Q : Exit → Act → World → Prop} {n : Nat} {σ : Nat → Value} {w : World} {ty : TypeId} {pos : String} {aft : Array Edge} {d : Nat} {ops : Array Oper} {S' : World → Prop} {fuel : Nat} {listed : Array Bool} {oo : Op}
theorem lV {rest : List Oper} {v : Value} (hr : (execOp (ev n σ) ⟨some d, oo, ty, pos, aft, none⟩).run P w = .ok (.value v) w) (h : wpList P ops Q rest (mk n (up σ d v)) w) : wpList P ops Q (⟨some d, oo, ty, pos, aft, none⟩ :: rest) (mk n σ) w := l_op (o_val hr h)
theorem tK (i : Nat) {v : Value} (hi : ops[i]? = some ⟨some d, oo, ty, pos, aft, none⟩) (hr : ∀ w, S' w → (execOp (ev n σ) ⟨some d, oo, ty, pos, aft, none⟩).run P w = .ok (.value v) w) (hS : S' w) (h : wpAnyH P .any ops Q S' fuel (listed.setIfInBounds i true) (mk n (up σ d v)) w)
    (h1 : Region.noSelect ops = true := by kernel_rfl) (h2 : Region.free .any ops listed i = true := by kernel_rfl) (h3 : (Region.ready .any ops listed).contains i = true := by kernel_rfl) (hq : ∀ c (a : Act) w, Q (.panic c) (a.put (some d) v) w → Q (.panic c) a w := by exact fun _ _ _ h => h) :
    wpAnyH P .any ops Q S' (fuel + 1) listed (mk n σ) w := t_take i hi h1 h2 h3 hq hr hS h
theorem yK {j e : Nat} {b : Bool} (hd : (ops[j]?.bind fun x => x.dst) = some e) (hl : e.blt n = true) (hs : σ e = Value.bool b) : yielded ops (mk n σ).tmps j = some b := yielded_mk ops j e hd b hl hs
theorem tN (i : Nat) {j : Nat} {b c : Bool} (hi : ops[i]? = some ⟨some d, oo, ty, pos, aft, some (j, b)⟩) (hy : yielded ops (mk n σ).tmps j = some c) (hb : (c == b) = false) (hS : S' w) (h : wpAnyH P .any ops Q S' fuel (listed.setIfInBounds i true) (mk n (up σ d undef)) w)
    (h1 : Region.noSelect ops = true := by kernel_rfl) (h2 : Region.free .any ops listed i = true := by kernel_rfl) (h3 : (Region.ready .any ops listed).contains i = true := by kernel_rfl) (hq : ∀ c (a : Act) w, Q (.panic c) (a.put (some d) undef) w → Q (.panic c) a w := by exact fun _ _ _ h => h) :
    wpAnyH P .any ops Q S' (fuel + 1) listed (mk n σ) w := t_no i hi h1 h2 h3 hq hy hb hS h
end
end Go.Proofs.YtmiabahejnjhiaaGreatDoor

namespace Go.Proofs.YtmiabahejnjhiaaGreatDoor
open Go
theorem mixed : Tryz.prog.follows .mixedOrders = true := by kernel_rfl
theorem ct2 : cellTy Tryz.prog 2 = true := by kernel_rfl
theorem cs2 : cellSz Tryz.prog 2 = some 1 := by kernel_rfl
theorem ct3 : cellTy Tryz.prog 3 = true := by kernel_rfl
theorem cs3 : cellSz Tryz.prog 3 = some 1 := by kernel_rfl
theorem ct4 : cellTy Tryz.prog 4 = true := by kernel_rfl
theorem cs4 : cellSz Tryz.prog 4 = some 1 := by kernel_rfl
theorem ct5 : cellTy Tryz.prog 5 = true := by kernel_rfl
theorem cs5 : cellSz Tryz.prog 5 = some 1 := by kernel_rfl
theorem zc5 : zeroCells Tryz.prog 5 = some [Value.int .u8 0] := by kernel_rfl
theorem ct9 : cellTy Tryz.prog 9 = true := by kernel_rfl
theorem rt24 : rowTy Tryz.prog 24 = some 32 := by kernel_rfl
theorem cs24 : cellSz Tryz.prog 24 = some 32 := by kernel_rfl
theorem zc24 : zeroCells Tryz.prog 24 = some (List.replicate 32 (Value.int .u8 0)) := by kernel_rfl
theorem ar24 : arrOf Tryz.prog 24 = some (32, 1) := by kernel_rfl
theorem bd24 : Bld Tryz.prog 24 ((List.replicate 32 (Value.int .u8 0))).toArray (fun i => some (i * 1, 1)) := Bld.arr ar24 zc24
theorem ct25 : cellTy Tryz.prog 25 = true := by kernel_rfl
theorem cs25 : cellSz Tryz.prog 25 = some 1 := by kernel_rfl
theorem ct26 : cellTy Tryz.prog 26 = true := by kernel_rfl
theorem cs26 : cellSz Tryz.prog 26 = some 1 := by kernel_rfl
theorem el26 : eltOf Tryz.prog 26 = some 38 := by kernel_rfl
theorem sl26 : SlTy Tryz.prog 26 53 38 136 := .mk' (by kernel_rfl) (by kernel_rfl)
theorem ct27 : cellTy Tryz.prog 27 = true := by kernel_rfl
theorem cs27 : cellSz Tryz.prog 27 = some 1 := by kernel_rfl
theorem el27 : eltOf Tryz.prog 27 = some 1 := by kernel_rfl
theorem ct28 : cellTy Tryz.prog 28 = true := by kernel_rfl
theorem cs28 : cellSz Tryz.prog 28 = some 1 := by kernel_rfl
theorem el28 : eltOf Tryz.prog 28 = some 38 := by kernel_rfl
theorem sl28 : SlTy Tryz.prog 28 60 38 88 := .mk' (by kernel_rfl) (by kernel_rfl)
theorem rt30 : rowTy Tryz.prog 30 = some 69 := by kernel_rfl
theorem cs30 : cellSz Tryz.prog 30 = some 69 := by kernel_rfl
theorem zc30 : zeroCells Tryz.prog 30 = some ((List.replicate 32 (Value.int .u8 0)) ++ [Value.int .i64 0] ++ [Value.int .u64 0] ++ [Value.slice none 0 0] ++ [Value.slice none 0 0] ++ [Value.slice none 0 0] ++ (List.replicate 32 (Value.int .u8 0))) := by kernel_rfl
theorem fo30_0 : fieldOff Tryz.prog 30 0 = some 0 := by kernel_rfl
theorem fo30_1 : fieldOff Tryz.prog 30 1 = some 32 := by kernel_rfl
theorem fo30_3 : fieldOff Tryz.prog 30 3 = some 34 := by kernel_rfl
theorem fo30_4 : fieldOff Tryz.prog 30 4 = some 35 := by kernel_rfl
theorem fo30_5 : fieldOff Tryz.prog 30 5 = some 36 := by kernel_rfl
theorem fo30_6 : fieldOff Tryz.prog 30 6 = some 37 := by kernel_rfl
theorem pl30 : placesOf Tryz.prog 30 = some #[(0, 32), (32, 1), (33, 1), (34, 1), (35, 1), (36, 1), (37, 32)] := by kernel_rfl
theorem bd30 : Bld Tryz.prog 30 (((List.replicate 32 (Value.int .u8 0)) ++ [Value.int .i64 0] ++ [Value.int .u64 0] ++ [Value.slice none 0 0] ++ [Value.slice none 0 0] ++ [Value.slice none 0 0] ++ (List.replicate 32 (Value.int .u8 0)))).toArray (fun i => (#[(0, 32), (32, 1), (33, 1), (34, 1), (35, 1), (36, 1), (37, 32)] : Array (Nat × Nat))[i]?) := Bld.str pl30 zc30
theorem ct33 : cellTy Tryz.prog 33 = true := by kernel_rfl
theorem cs33 : cellSz Tryz.prog 33 = some 1 := by kernel_rfl
theorem zc33 : zeroCells Tryz.prog 33 = some [Value.slice none 0 0] := by kernel_rfl
theorem el33 : eltOf Tryz.prog 33 = some 1 := by kernel_rfl
theorem sl33 : SlTy Tryz.prog 33 5 1 1 := .mk' (by kernel_rfl) (by kernel_rfl)
theorem ct34 : cellTy Tryz.prog 34 = true := by kernel_rfl
theorem cs34 : cellSz Tryz.prog 34 = some 1 := by kernel_rfl
theorem ct37 : cellTy Tryz.prog 37 = true := by kernel_rfl
theorem ct38 : cellTy Tryz.prog 38 = true := by kernel_rfl
theorem cs38 : cellSz Tryz.prog 38 = some 1 := by kernel_rfl
theorem el38 : eltOf Tryz.prog 38 = some 2 := by kernel_rfl
theorem rt40 : rowTy Tryz.prog 40 = some 38 := by kernel_rfl
theorem cs40 : cellSz Tryz.prog 40 = some 38 := by kernel_rfl
theorem zc40 : zeroCells Tryz.prog 40 = some ([Value.int .u64 0] ++ [Value.string .empty] ++ [Value.int .u8 0] ++ [Value.int .i64 0] ++ [Value.int .i64 0] ++ [Value.slice none 0 0] ++ (List.replicate 32 (Value.int .u8 0))) := by kernel_rfl
theorem fo40_0 : fieldOff Tryz.prog 40 0 = some 0 := by kernel_rfl
theorem fo40_1 : fieldOff Tryz.prog 40 1 = some 1 := by kernel_rfl
theorem fo40_2 : fieldOff Tryz.prog 40 2 = some 2 := by kernel_rfl
theorem fo40_3 : fieldOff Tryz.prog 40 3 = some 3 := by kernel_rfl
theorem fo40_4 : fieldOff Tryz.prog 40 4 = some 4 := by kernel_rfl
theorem fo40_5 : fieldOff Tryz.prog 40 5 = some 5 := by kernel_rfl
theorem fo40_6 : fieldOff Tryz.prog 40 6 = some 6 := by kernel_rfl
theorem pl40 : placesOf Tryz.prog 40 = some #[(0, 1), (1, 1), (2, 1), (3, 1), (4, 1), (5, 1), (6, 32)] := by kernel_rfl
theorem bd40 : Bld Tryz.prog 40 (([Value.int .u64 0] ++ [Value.string .empty] ++ [Value.int .u8 0] ++ [Value.int .i64 0] ++ [Value.int .i64 0] ++ [Value.slice none 0 0] ++ (List.replicate 32 (Value.int .u8 0)))).toArray (fun i => (#[(0, 1), (1, 1), (2, 1), (3, 1), (4, 1), (5, 1), (6, 32)] : Array (Nat × Nat))[i]?) := Bld.str pl40 zc40
theorem rt43 : rowTy Tryz.prog 43 = some 2 := by kernel_rfl
theorem cs43 : cellSz Tryz.prog 43 = some 2 := by kernel_rfl
theorem zc43 : zeroCells Tryz.prog 43 = some ([Value.int .i64 0] ++ [Value.slice none 0 0]) := by kernel_rfl
theorem fo43_0 : fieldOff Tryz.prog 43 0 = some 0 := by kernel_rfl
theorem fo43_1 : fieldOff Tryz.prog 43 1 = some 1 := by kernel_rfl
theorem pl43 : placesOf Tryz.prog 43 = some #[(0, 1), (1, 1)] := by kernel_rfl
theorem bd43 : Bld Tryz.prog 43 (([Value.int .i64 0] ++ [Value.slice none 0 0])).toArray (fun i => (#[(0, 1), (1, 1)] : Array (Nat × Nat))[i]?) := Bld.str pl43 zc43
theorem rt47 : rowTy Tryz.prog 47 = some 72 := by kernel_rfl
theorem zc47 : zeroCells Tryz.prog 47 = some ([Value.int .i64 0] ++ [Value.string .empty] ++ (List.replicate 32 (Value.int .u8 0)) ++ [Value.int .i64 0] ++ [Value.int .i64 0] ++ [Value.int .u8 0] ++ [Value.slice none 0 0] ++ [Value.slice none 0 0] ++ [Value.int .i64 0] ++ (List.replicate 32 (Value.int .u8 0))) := by kernel_rfl
theorem fo47_0 : fieldOff Tryz.prog 47 0 = some 0 := by kernel_rfl
theorem fo47_1 : fieldOff Tryz.prog 47 1 = some 1 := by kernel_rfl
theorem fo47_2 : fieldOff Tryz.prog 47 2 = some 2 := by kernel_rfl
theorem fo47_3 : fieldOff Tryz.prog 47 3 = some 34 := by kernel_rfl
theorem fo47_4 : fieldOff Tryz.prog 47 4 = some 35 := by kernel_rfl
theorem fo47_5 : fieldOff Tryz.prog 47 5 = some 36 := by kernel_rfl
theorem fo47_6 : fieldOff Tryz.prog 47 6 = some 37 := by kernel_rfl
theorem fo47_7 : fieldOff Tryz.prog 47 7 = some 38 := by kernel_rfl
theorem fo47_8 : fieldOff Tryz.prog 47 8 = some 39 := by kernel_rfl
theorem fo47_9 : fieldOff Tryz.prog 47 9 = some 40 := by kernel_rfl
theorem pl47 : placesOf Tryz.prog 47 = some #[(0, 1), (1, 1), (2, 32), (34, 1), (35, 1), (36, 1), (37, 1), (38, 1), (39, 1), (40, 32)] := by kernel_rfl
theorem bd47 : Bld Tryz.prog 47 (([Value.int .i64 0] ++ [Value.string .empty] ++ (List.replicate 32 (Value.int .u8 0)) ++ [Value.int .i64 0] ++ [Value.int .i64 0] ++ [Value.int .u8 0] ++ [Value.slice none 0 0] ++ [Value.slice none 0 0] ++ [Value.int .i64 0] ++ (List.replicate 32 (Value.int .u8 0)))).toArray (fun i => (#[(0, 1), (1, 1), (2, 32), (34, 1), (35, 1), (36, 1), (37, 1), (38, 1), (39, 1), (40, 32)] : Array (Nat × Nat))[i]?) := Bld.str pl47 zc47
theorem ct49 : cellTy Tryz.prog 49 = true := by kernel_rfl
theorem cs49 : cellSz Tryz.prog 49 = some 1 := by kernel_rfl
theorem el49 : eltOf Tryz.prog 49 = some 33 := by kernel_rfl
theorem sl49 : SlTy Tryz.prog 49 92 33 56 := .mk' (by kernel_rfl) (by kernel_rfl)
theorem ct50 : cellTy Tryz.prog 50 = true := by kernel_rfl
theorem cs50 : cellSz Tryz.prog 50 = some 1 := by kernel_rfl
theorem el50 : eltOf Tryz.prog 50 = some 36 := by kernel_rfl
theorem sl50 : SlTy Tryz.prog 50 95 36 72 := .mk' (by kernel_rfl) (by kernel_rfl)
theorem ct51 : cellTy Tryz.prog 51 = true := by kernel_rfl
theorem cs51 : cellSz Tryz.prog 51 = some 1 := by kernel_rfl
theorem el51 : eltOf Tryz.prog 51 = some 33 := by kernel_rfl
theorem rt53 : rowTy Tryz.prog 53 = some 38 := by kernel_rfl
theorem cs53 : cellSz Tryz.prog 53 = some 38 := by kernel_rfl
theorem zc53 : zeroCells Tryz.prog 53 = some ([Value.string .empty] ++ (List.replicate 32 (Value.int .u8 0)) ++ [Value.int .i64 0] ++ [Value.int .i64 0] ++ [Value.slice none 0 0] ++ [Value.slice none 0 0] ++ [Value.slice none 0 0]) := by kernel_rfl
theorem fo53_0 : fieldOff Tryz.prog 53 0 = some 0 := by kernel_rfl
theorem fo53_1 : fieldOff Tryz.prog 53 1 = some 1 := by kernel_rfl
theorem fo53_2 : fieldOff Tryz.prog 53 2 = some 33 := by kernel_rfl
theorem fo53_3 : fieldOff Tryz.prog 53 3 = some 34 := by kernel_rfl
theorem fo53_4 : fieldOff Tryz.prog 53 4 = some 35 := by kernel_rfl
theorem fo53_5 : fieldOff Tryz.prog 53 5 = some 36 := by kernel_rfl
theorem fo53_6 : fieldOff Tryz.prog 53 6 = some 37 := by kernel_rfl
theorem pl53 : placesOf Tryz.prog 53 = some #[(0, 1), (1, 32), (33, 1), (34, 1), (35, 1), (36, 1), (37, 1)] := by kernel_rfl
theorem bd53 : Bld Tryz.prog 53 (([Value.string .empty] ++ (List.replicate 32 (Value.int .u8 0)) ++ [Value.int .i64 0] ++ [Value.int .i64 0] ++ [Value.slice none 0 0] ++ [Value.slice none 0 0] ++ [Value.slice none 0 0])).toArray (fun i => (#[(0, 1), (1, 32), (33, 1), (34, 1), (35, 1), (36, 1), (37, 1)] : Array (Nat × Nat))[i]?) := Bld.str pl53 zc53
theorem rt56 : rowTy Tryz.prog 56 = some 34 := by kernel_rfl
theorem cs56 : cellSz Tryz.prog 56 = some 34 := by kernel_rfl
theorem zc56 : zeroCells Tryz.prog 56 = some ((List.replicate 32 (Value.int .u8 0)) ++ [Value.int .i64 0] ++ [Value.string .empty]) := by kernel_rfl
theorem fo56_0 : fieldOff Tryz.prog 56 0 = some 0 := by kernel_rfl
theorem fo56_1 : fieldOff Tryz.prog 56 1 = some 32 := by kernel_rfl
theorem fo56_2 : fieldOff Tryz.prog 56 2 = some 33 := by kernel_rfl
theorem pl56 : placesOf Tryz.prog 56 = some #[(0, 32), (32, 1), (33, 1)] := by kernel_rfl
theorem bd56 : Bld Tryz.prog 56 (((List.replicate 32 (Value.int .u8 0)) ++ [Value.int .i64 0] ++ [Value.string .empty])).toArray (fun i => (#[(0, 32), (32, 1), (33, 1)] : Array (Nat × Nat))[i]?) := Bld.str pl56 zc56
theorem rt60 : rowTy Tryz.prog 60 = some 38 := by kernel_rfl
theorem cs60 : cellSz Tryz.prog 60 = some 38 := by kernel_rfl
theorem zc60 : zeroCells Tryz.prog 60 = some ([Value.int .i64 0] ++ [Value.int .i64 0] ++ [Value.int .u64 0] ++ [Value.string .empty] ++ [Value.int .i64 0] ++ [Value.int .i64 0] ++ (List.replicate 32 (Value.int .u8 0))) := by kernel_rfl
theorem fo60_0 : fieldOff Tryz.prog 60 0 = some 0 := by kernel_rfl
theorem fo60_1 : fieldOff Tryz.prog 60 1 = some 1 := by kernel_rfl
theorem fo60_2 : fieldOff Tryz.prog 60 2 = some 2 := by kernel_rfl
theorem fo60_3 : fieldOff Tryz.prog 60 3 = some 3 := by kernel_rfl
theorem fo60_4 : fieldOff Tryz.prog 60 4 = some 4 := by kernel_rfl
theorem fo60_5 : fieldOff Tryz.prog 60 5 = some 5 := by kernel_rfl
theorem fo60_6 : fieldOff Tryz.prog 60 6 = some 6 := by kernel_rfl
theorem pl60 : placesOf Tryz.prog 60 = some #[(0, 1), (1, 1), (2, 1), (3, 1), (4, 1), (5, 1), (6, 32)] := by kernel_rfl
theorem bd60 : Bld Tryz.prog 60 (([Value.int .i64 0] ++ [Value.int .i64 0] ++ [Value.int .u64 0] ++ [Value.string .empty] ++ [Value.int .i64 0] ++ [Value.int .i64 0] ++ (List.replicate 32 (Value.int .u8 0)))).toArray (fun i => (#[(0, 1), (1, 1), (2, 1), (3, 1), (4, 1), (5, 1), (6, 32)] : Array (Nat × Nat))[i]?) := Bld.str pl60 zc60
theorem ct71 : cellTy Tryz.prog 71 = true := by kernel_rfl
theorem ct72 : cellTy Tryz.prog 72 = true := by kernel_rfl
theorem ct73 : cellTy Tryz.prog 73 = true := by kernel_rfl
theorem cs73 : cellSz Tryz.prog 73 = some 1 := by kernel_rfl
theorem zc75 : zeroCells Tryz.prog 75 = some ([Value.pointer none] ++ ([Value.int .i64 0] ++ [Value.string .empty] ++ (List.replicate 32 (Value.int .u8 0)) ++ [Value.int .i64 0] ++ [Value.int .i64 0] ++ [Value.int .u8 0] ++ [Value.slice none 0 0] ++ [Value.slice none 0 0] ++ [Value.int .i64 0] ++ (List.replicate 32 (Value.int .u8 0))) ++ [Value.pointer none] ++ [Value.int .u64 0]) := by kernel_rfl
theorem fo75_0 : fieldOff Tryz.prog 75 0 = some 0 := by kernel_rfl
theorem fo75_1 : fieldOff Tryz.prog 75 1 = some 1 := by kernel_rfl
theorem fo75_2 : fieldOff Tryz.prog 75 2 = some 73 := by kernel_rfl
theorem fo75_3 : fieldOff Tryz.prog 75 3 = some 74 := by kernel_rfl
theorem pl75 : placesOf Tryz.prog 75 = some #[(0, 1), (1, 72), (73, 1), (74, 1)] := by kernel_rfl
theorem bd75 : Bld Tryz.prog 75 (([Value.pointer none] ++ ([Value.int .i64 0] ++ [Value.string .empty] ++ (List.replicate 32 (Value.int .u8 0)) ++ [Value.int .i64 0] ++ [Value.int .i64 0] ++ [Value.int .u8 0] ++ [Value.slice none 0 0] ++ [Value.slice none 0 0] ++ [Value.int .i64 0] ++ (List.replicate 32 (Value.int .u8 0))) ++ [Value.pointer none] ++ [Value.int .u64 0])).toArray (fun i => (#[(0, 1), (1, 72), (73, 1), (74, 1)] : Array (Nat × Nat))[i]?) := Bld.str pl75 zc75
theorem el80 : eltOf Tryz.prog 80 = some 1 := by kernel_rfl
theorem sl80 : SlTy Tryz.prog 80 33 1 24 := .mk' (by kernel_rfl) (by kernel_rfl)
theorem rt92 : rowTy Tryz.prog 92 = some 33 := by kernel_rfl
theorem cs92 : cellSz Tryz.prog 92 = some 33 := by kernel_rfl
theorem zc92 : zeroCells Tryz.prog 92 = some ((List.replicate 32 (Value.int .u8 0)) ++ [Value.slice none 0 0]) := by kernel_rfl
theorem fo92_0 : fieldOff Tryz.prog 92 0 = some 0 := by kernel_rfl
theorem fo92_1 : fieldOff Tryz.prog 92 1 = some 32 := by kernel_rfl
theorem pl92 : placesOf Tryz.prog 92 = some #[(0, 32), (32, 1)] := by kernel_rfl
theorem bd92 : Bld Tryz.prog 92 (((List.replicate 32 (Value.int .u8 0)) ++ [Value.slice none 0 0])).toArray (fun i => (#[(0, 32), (32, 1)] : Array (Nat × Nat))[i]?) := Bld.str pl92 zc92
theorem rt95 : rowTy Tryz.prog 95 = some 36 := by kernel_rfl
theorem cs95 : cellSz Tryz.prog 95 = some 36 := by kernel_rfl
theorem zc95 : zeroCells Tryz.prog 95 = some ([Value.int .i64 0] ++ ((List.replicate 32 (Value.int .u8 0)) ++ [Value.int .i64 0] ++ [Value.string .empty]) ++ [Value.int .i64 0]) := by kernel_rfl
theorem fo95_0 : fieldOff Tryz.prog 95 0 = some 0 := by kernel_rfl
theorem fo95_1 : fieldOff Tryz.prog 95 1 = some 1 := by kernel_rfl
theorem fo95_2 : fieldOff Tryz.prog 95 2 = some 35 := by kernel_rfl
theorem pl95 : placesOf Tryz.prog 95 = some #[(0, 1), (1, 34), (35, 1)] := by kernel_rfl
theorem bd95 : Bld Tryz.prog 95 (([Value.int .i64 0] ++ ((List.replicate 32 (Value.int .u8 0)) ++ [Value.int .i64 0] ++ [Value.string .empty]) ++ [Value.int .i64 0])).toArray (fun i => (#[(0, 1), (1, 34), (35, 1)] : Array (Nat × Nat))[i]?) := Bld.str pl95 zc95
theorem zc125 : zeroCells Tryz.prog 125 = some ([Value.slice none 0 0] ++ [Value.bool false]) := by kernel_rfl
theorem fo125_0 : fieldOff Tryz.prog 125 0 = some 0 := by kernel_rfl
theorem fo125_1 : fieldOff Tryz.prog 125 1 = some 1 := by kernel_rfl
theorem pl125 : placesOf Tryz.prog 125 = some #[(0, 1), (1, 1)] := by kernel_rfl
theorem bd125 : Bld Tryz.prog 125 (([Value.slice none 0 0] ++ [Value.bool false])).toArray (fun i => (#[(0, 1), (1, 1)] : Array (Nat × Nat))[i]?) := Bld.str pl125 zc125
theorem ct140 : cellTy Tryz.prog 140 = true := by kernel_rfl
theorem cs140 : cellSz Tryz.prog 140 = some 1 := by kernel_rfl
theorem zc140 : zeroCells Tryz.prog 140 = some [Value.slice none 0 0] := by kernel_rfl
theorem el140 : eltOf Tryz.prog 140 = some 32 := by kernel_rfl
theorem sl140 : SlTy Tryz.prog 140 24 32 32 := .mk' (by kernel_rfl) (by kernel_rfl)
theorem el143 : eltOf Tryz.prog 143 = some 33 := by kernel_rfl
theorem sl143 : SlTy Tryz.prog 143 191 33 56 := .mk' (by kernel_rfl) (by kernel_rfl)
theorem ct161 : cellTy Tryz.prog 161 = true := by kernel_rfl
theorem ct184 : cellTy Tryz.prog 184 = true := by kernel_rfl
theorem zc186 : zeroCells Tryz.prog 186 = some ([Value.map none] ++ [Value.map none] ++ [Value.int .i64 0] ++ [Value.bool false] ++ [Value.slice none 0 0] ++ [Value.int .i64 0]) := by kernel_rfl
theorem fo186_0 : fieldOff Tryz.prog 186 0 = some 0 := by kernel_rfl
theorem fo186_1 : fieldOff Tryz.prog 186 1 = some 1 := by kernel_rfl
theorem fo186_2 : fieldOff Tryz.prog 186 2 = some 2 := by kernel_rfl
theorem fo186_5 : fieldOff Tryz.prog 186 5 = some 5 := by kernel_rfl
theorem pl186 : placesOf Tryz.prog 186 = some #[(0, 1), (1, 1), (2, 1), (3, 1), (4, 1), (5, 1)] := by kernel_rfl
theorem bd186 : Bld Tryz.prog 186 (([Value.map none] ++ [Value.map none] ++ [Value.int .i64 0] ++ [Value.bool false] ++ [Value.slice none 0 0] ++ [Value.int .i64 0])).toArray (fun i => (#[(0, 1), (1, 1), (2, 1), (3, 1), (4, 1), (5, 1)] : Array (Nat × Nat))[i]?) := Bld.str pl186 zc186
theorem rt191 : rowTy Tryz.prog 191 = some 33 := by kernel_rfl
theorem cs191 : cellSz Tryz.prog 191 = some 33 := by kernel_rfl
theorem zc191 : zeroCells Tryz.prog 191 = some ((List.replicate 32 (Value.int .u8 0)) ++ [Value.slice none 0 0]) := by kernel_rfl
theorem fo191_0 : fieldOff Tryz.prog 191 0 = some 0 := by kernel_rfl
theorem fo191_1 : fieldOff Tryz.prog 191 1 = some 32 := by kernel_rfl
theorem pl191 : placesOf Tryz.prog 191 = some #[(0, 32), (32, 1)] := by kernel_rfl
theorem bd191 : Bld Tryz.prog 191 (((List.replicate 32 (Value.int .u8 0)) ++ [Value.slice none 0 0])).toArray (fun i => (#[(0, 32), (32, 1)] : Array (Nat × Nat))[i]?) := Bld.str pl191 zc191
theorem ct198 : cellTy Tryz.prog 198 = true := by kernel_rfl
theorem ct204 : cellTy Tryz.prog 204 = true := by kernel_rfl
theorem cs204 : cellSz Tryz.prog 204 = some 1 := by kernel_rfl
theorem rt205 : rowTy Tryz.prog 205 = some 8 := by kernel_rfl
theorem cs205 : cellSz Tryz.prog 205 = some 8 := by kernel_rfl
theorem zc205 : zeroCells Tryz.prog 205 = some (List.replicate 8 (Value.int .u32 0)) := by kernel_rfl
theorem ar205 : arrOf Tryz.prog 205 = some (8, 1) := by kernel_rfl
theorem bd205 : Bld Tryz.prog 205 ((List.replicate 8 (Value.int .u32 0))).toArray (fun i => some (i * 1, 1)) := Bld.arr ar205 zc205
theorem ar206 : arrOf Tryz.prog 206 = some (64, 1) := by kernel_rfl
theorem rt208 : rowTy Tryz.prog 208 = some 74 := by kernel_rfl
theorem cs208 : cellSz Tryz.prog 208 = some 74 := by kernel_rfl
theorem zc208 : zeroCells Tryz.prog 208 = some ([Value.bool false] ++ (List.replicate 8 (Value.int .u32 0)) ++ (List.replicate 64 (Value.int .u8 0)) ++ [Value.int .u64 0]) := by kernel_rfl
theorem fo208_0 : fieldOff Tryz.prog 208 0 = some 0 := by kernel_rfl
theorem fo208_1 : fieldOff Tryz.prog 208 1 = some 1 := by kernel_rfl
theorem fo208_2 : fieldOff Tryz.prog 208 2 = some 9 := by kernel_rfl
theorem fo208_3 : fieldOff Tryz.prog 208 3 = some 73 := by kernel_rfl
theorem pl208 : placesOf Tryz.prog 208 = some #[(0, 1), (1, 8), (9, 64), (73, 1)] := by kernel_rfl
theorem bd208 : Bld Tryz.prog 208 (([Value.bool false] ++ (List.replicate 8 (Value.int .u32 0)) ++ (List.replicate 64 (Value.int .u8 0)) ++ [Value.int .u64 0])).toArray (fun i => (#[(0, 1), (1, 8), (9, 64), (73, 1)] : Array (Nat × Nat))[i]?) := Bld.str pl208 zc208
theorem rt209 : rowTy Tryz.prog 209 = some 64 := by kernel_rfl
theorem cs209 : cellSz Tryz.prog 209 = some 64 := by kernel_rfl
theorem zc209 : zeroCells Tryz.prog 209 = some (List.replicate 64 (Value.int .u64 0)) := by kernel_rfl
theorem ar209 : arrOf Tryz.prog 209 = some (64, 1) := by kernel_rfl
theorem bd209 : Bld Tryz.prog 209 ((List.replicate 64 (Value.int .u64 0))).toArray (fun i => some (i * 1, 1)) := Bld.arr ar209 zc209
theorem rt211 : rowTy Tryz.prog 211 = some 8 := by kernel_rfl
theorem cs211 : cellSz Tryz.prog 211 = some 8 := by kernel_rfl
theorem zc211 : zeroCells Tryz.prog 211 = some (List.replicate 8 (Value.int .u64 0)) := by kernel_rfl
theorem ar211 : arrOf Tryz.prog 211 = some (8, 1) := by kernel_rfl
theorem bd211 : Bld Tryz.prog 211 ((List.replicate 8 (Value.int .u64 0))).toArray (fun i => some (i * 1, 1)) := Bld.arr ar211 zc211
theorem el218 : eltOf Tryz.prog 218 = some 35 := by kernel_rfl
theorem rt229 : rowTy Tryz.prog 229 = some 2 := by kernel_rfl
theorem cs229 : cellSz Tryz.prog 229 = some 2 := by kernel_rfl
theorem zc229 : zeroCells Tryz.prog 229 = some ([Value.slice none 0 0] ++ [Value.bool false]) := by kernel_rfl
theorem fo229_0 : fieldOff Tryz.prog 229 0 = some 0 := by kernel_rfl
theorem fo229_1 : fieldOff Tryz.prog 229 1 = some 1 := by kernel_rfl
theorem pl229 : placesOf Tryz.prog 229 = some #[(0, 1), (1, 1)] := by kernel_rfl
theorem bd229 : Bld Tryz.prog 229 (([Value.slice none 0 0] ++ [Value.bool false])).toArray (fun i => (#[(0, 1), (1, 1)] : Array (Nat × Nat))[i]?) := Bld.str pl229 zc229
theorem rt232 : rowTy Tryz.prog 232 = some 64 := by kernel_rfl
theorem cs232 : cellSz Tryz.prog 232 = some 64 := by kernel_rfl
theorem zc232 : zeroCells Tryz.prog 232 = some (List.replicate 64 (Value.int .u32 0)) := by kernel_rfl
theorem ar232 : arrOf Tryz.prog 232 = some (64, 1) := by kernel_rfl
theorem bd232 : Bld Tryz.prog 232 ((List.replicate 64 (Value.int .u32 0))).toArray (fun i => some (i * 1, 1)) := Bld.arr ar232 zc232
end Go.Proofs.YtmiabahejnjhiaaGreatDoor
namespace Go.Proofs.YtmiabahejnjhiaaGreatDoor
open Go
def rotl (x : UInt32) (k : Nat) : UInt32 := (x <<< UInt32.ofNat k) ||| (x >>> UInt32.ofNat (32 - k))
/-- word j of a block. -/
def wordAt (b : List UInt8) (j : Nat) : UInt32 :=
  (((b.getD (4 * j) 0).toUInt32 <<< UInt32.ofNat 24) ||| ((b.getD (4 * j + 1) 0).toUInt32 <<< UInt32.ofNat 16) ||| ((b.getD (4 * j + 2) 0).toUInt32 <<< UInt32.ofNat 8)) ||| (b.getD (4 * j + 3) 0).toUInt32
def firsts (b : List UInt8) : Nat → List UInt32
  | 0 => []
  | j + 1 => firsts b j ++ [wordAt b j]
def sg0 (x : UInt32) : UInt32 := (rotl x 25 ^^^ rotl x 14) ^^^ (x >>> UInt32.ofNat 3)
def sg1 (y : UInt32) : UInt32 := (rotl y 15 ^^^ rotl y 13) ^^^ (y >>> UInt32.ofNat 10)
def nextWord (l : List UInt32) : UInt32 :=
  (l.getD (l.length - 16) 0 + sg0 (l.getD (l.length - 15) 0) + l.getD (l.length - 7) 0) + sg1 (l.getD (l.length - 2) 0)
def sched (b : List UInt8) : Nat → List UInt32
  | 0 => firsts b 16
  | k + 1 => sched b k ++ [nextWord (sched b k)]
structure S8 where
  a : UInt32
  b : UInt32
  c : UInt32
  d : UInt32
  e : UInt32
  f : UInt32
  g : UInt32
  h : UInt32
def S8.l (s : S8) : List UInt32 := [s.a, s.b, s.c, s.d, s.e, s.f, s.g, s.h]
def primeWords : List UInt32 := [
  0x428a2f98, 0x71374491, 0xb5c0fbcf, 0xe9b5dba5, 0x3956c25b, 0x59f111f1, 0x923f82a4, 0xab1c5ed5,
  0xd807aa98, 0x12835b01, 0x243185be, 0x550c7dc3, 0x72be5d74, 0x80deb1fe, 0x9bdc06a7, 0xc19bf174,
  0xe49b69c1, 0xefbe4786, 0x0fc19dc6, 0x240ca1cc, 0x2de92c6f, 0x4a7484aa, 0x5cb0a9dc, 0x76f988da,
  0x983e5152, 0xa831c66d, 0xb00327c8, 0xbf597fc7, 0xc6e00bf3, 0xd5a79147, 0x06ca6351, 0x14292967,
  0x27b70a85, 0x2e1b2138, 0x4d2c6dfc, 0x53380d13, 0x650a7354, 0x766a0abb, 0x81c2c92e, 0x92722c85,
  0xa2bfe8a1, 0xa81a664b, 0xc24b8b70, 0xc76c51a3, 0xd192e819, 0xd6990624, 0xf40e3585, 0x106aa070,
  0x19a4c116, 0x1e376c08, 0x2748774c, 0x34b0bcb5, 0x391c0cb3, 0x4ed8aa4a, 0x5b9cca4f, 0x682e6ff3,
  0x748f82ee, 0x78a5636f, 0x84c87814, 0x8cc70208, 0x90befffa, 0xa4506ceb, 0xbef9a3f7, 0xc67178f2]
def initS : S8 := ⟨0x6a09e667, 0xbb67ae85, 0x3c6ef372, 0xa54ff53a, 0x510e527f, 0x9b05688c, 0x1f83d9ab, 0x5be0cd19⟩
def rnd (s : S8) (k w : UInt32) : S8 :=
  let up := (rotl s.e 26 ^^^ rotl s.e 21) ^^^ rotl s.e 7
  let x := (((s.h + up) + ((s.e &&& s.f) ^^^ (~~~s.e &&& s.g))) + k) + w
  let down := (rotl s.a 30 ^^^ rotl s.a 19) ^^^ rotl s.a 10
  let y := down + (((s.a &&& s.b) ^^^ (s.a &&& s.c)) ^^^ (s.b &&& s.c))
  ⟨x + y, s.a, s.b, s.c, s.d + x, s.e, s.f, s.g⟩
def rnds (ws : List UInt32) (s : S8) : Nat → S8
  | 0 => s
  | i + 1 => rnd (rnds ws s i) (primeWords.getD i 0) (ws.getD i 0)
def addS (s t : S8) : S8 := ⟨s.a + t.a, s.b + t.b, s.c + t.c, s.d + t.d, s.e + t.e, s.f + t.f, s.g + t.g, s.h + t.h⟩
def comp (s : S8) (blk : List UInt8) : S8 := addS s (rnds (sched blk 48) s 64)
theorem firsts_length (b : List UInt8) : ∀ j, (firsts b j).length = j
  | 0 => rfl
  | j + 1 => by simp [firsts, firsts_length b j]
theorem sched_length (b : List UInt8) : ∀ k, (sched b k).length = 16 + k
  | 0 => firsts_length b 16
  | k + 1 => by simp [sched, sched_length b k]; omega
/-- words, and zeros behind them, 64 in all. -/
def pad64 (l : List UInt32) : List Value := l.map V32 ++ List.replicate (64 - l.length) (V32 0)
theorem pad64_length (l : List UInt32) (h : l.length ≤ 64) : (pad64 l).length = 64 := by simp [pad64]; omega
theorem pad64_get (l : List UInt32) (j : Nat) (h : j < l.length) : (pad64 l)[j]? = some (V32 (l.getD j 0)) := by
  rw [pad64, List.getElem?_append_left (by simpa using h)]
  simp [h]
theorem pad64_set (l : List UInt32) (v : UInt32) (h : l.length < 64) : (pad64 l).set l.length (V32 v) = pad64 (l ++ [v]) := by
  unfold pad64
  rw [List.set_append_right _ _ (by simp)]
  have : 64 - l.length = (64 - (l ++ [v]).length) + 1 := by simp; omega
  rw [this, List.replicate_succ]
  simp
end Go.Proofs.YtmiabahejnjhiaaGreatDoor
namespace Go.Proofs.YtmiabahejnjhiaaGreatDoor
open Go
set_option maxRecDepth 100000
theorem rot_and : ∀ kk : Fin 32, (UInt64.ofNat (18446744073709551584 + kk.val)) &&& UInt64.ofNat 31 = UInt64.ofNat kk.val := by decide
theorem rot_wrap (kk : Nat) (_h : kk < 32) : IntKind.u64.wrap ((kk : Int) - 32) = ((UInt64.ofNat (18446744073709551584 + kk)).toNat : Int) := by
  rw [wrap_u64, UInt64.toNat_ofNat']; omega
theorem rot_ret (x : UInt32) (kk : Nat) (w : World) (h2 : kk < 32) (h3 : 0 < kk) (k : Int) (hk : k = (kk : Int) - 32) :
    Ret Tryz.prog 166 [V32 x, VI k] w fun v w' => v = V32 (rotl x kk) ∧ w' = w := by
  subst hk
  refine ret_mk Tryz.func166 rfl Tryz.ntmps166 (by simp) ?_
  refine rG ?_; refine l_op (o_as ?_); refine eN ?_
  have e := rot_and ⟨kk, h2⟩
  simp only at e
  have hk : ((UInt64.ofNat kk).toNat : Int) = kk := by rw [UInt64.toNat_ofNat']; omega
  have hs : ((UInt64.ofNat 32 - UInt64.ofNat kk).toNat : Int) = 32 - kk := by rw [UInt64.toNat_sub, UInt64.toNat_ofNat', UInt64.toNat_ofNat']; omega
  refine rG ?_; refine l_op (o_mv ?_); refine l_op (o_conv Tryz.underlying3 Tryz.underlying131 rfl (rot_wrap kk h2) ?_); refine l_op (o_bin rfl (c64 31 (by decide)) (fun _ => b_and_u64) ?_); refine l_op (o_as ?_); refine eN ?_
  rw [e]
  refine rG ?_; refine l_op (o_mv ?_); refine l_op (o_mv ?_); refine l_op (o_shift rfl rfl (.inl rfl) (fun _ => b_shl_u32 oM oM) ?_); refine l_op (o_mv ?_); refine l_op (o_mv ?_); refine l_op (o_bin (c64 32 (by decide)) rfl (fun _ => b_sub_u64) ?_); refine l_op (o_shift rfl rfl (.inr rfl) (fun _ => b_shr_u32 oM oM) ?_); refine l_op (o_bin rfl rfl (fun _ => b_or_u32) ?_); refine l_op (o_as ?_); refine eN ?_
  refine c_ret (e_ret1 (v := .int _ _) Tryz.results166 rfl ⟨_, rfl, ?_, rfl⟩); have e1 : ((UInt64.ofNat kk).toNat : Int).toNat = kk := by omega
  have e2 : ((UInt64.ofNat 32 - UInt64.ofNat kk).toNat : Int).toNat = 32 - kk := by omega
  rw [rotl, e1, e2]
theorem none_at (w : World) (b : Nat) (on : Bool) (C : List Value) (T : TypeId) (hH : w.heap[b]? = some (.cells C.toArray T (0, 0))) (hC : C[0]? = some (.bool on)) :
    Ret Tryz.prog 144 [.pointer (some ⟨b, 0, none⟩)] w fun v w' => v = .bool (!on) ∧ w' = w := by
  refine ret_mk Tryz.func144 rfl Tryz.ntmps144 (by simp) ?_
  have H := Hp.start w (.blk b C T) b hH rfl
  refine rG ?_; refine l_op (o_as ?_); refine eN ?_
  refine rG ?_; refine l_op (o_mv ?_); refine l_op (o_pnil Tryz.underlying165 rfl rfl ?_); refine l_op (o_mv ?_); refine l_yes rfl rfl rfl (o_mv ?_); refine l_yes rfl rfl rfl (o_nilc rfl ?_); refine l_yes rfl rfl rfl (o_fa rfl fo208_0 ?_); refine l_yes rfl rfl rfl (o_ld H (i := 0) rfl rfl ct4 hC ?_); refine l_yes rfl rfl rfl (o_not rfl ?_); refine l_op (o_pick rfl ?_); refine l_op (o_as ?_); refine eN ?_
  exact c_ret (e_ret1 (v := .bool _) Tryz.results144 rfl ⟨_, rfl, rfl, rfl⟩)
end Go.Proofs.YtmiabahejnjhiaaGreatDoor
namespace Go.Proofs.YtmiabahejnjhiaaGreatDoor
open Go
set_option maxRecDepth 100000
theorem byteAt (b : List UInt8) (j : Nat) (h : j < b.length) : (b.map V8)[j]? = some (V8 (b.getD j 0)) := by simp [h]
set_option maxHeartbeats 1000000 in
theorem spread_ret (w0 : World) (p o : Nat) (bs : List UInt8) (hb : bs.length = 64) (hr : RdS w0 (some ⟨p, o, none⟩) (bs.map V8)) :
    Ret Tryz.prog 165 [.pointer (some ⟨p, o, none⟩)] w0 fun v w' => v = .agg (pad64 (sched bs 48)).toArray ∧ Hp w0 w' [] [] := by
  refine ret_mk Tryz.func165 rfl Tryz.ntmps165 (by simp) ?_
  have H := Hp.refl w0 []
  refine rG ?_; refine l_op (o_alloc H zc232 (fun b2 w H hb2 => ?_)); refine eN ?_
  refine rG ?_; refine l_op (o_alloc H zc232 (fun b3 w H hb3 => ?_)); refine eN ?_
  refine rG ?_; refine l_op (o_mv ?_); refine eN ?_
  refine qB ?_; refine c_loop (ι := Nat) (fun i => [(8, VI i), (3, .pointer (some ⟨b3, 0, none⟩)), (2, .pointer (some ⟨b2, 0, none⟩)), (0, .pointer (some ⟨p, o, none⟩))])
    (fun i w => i ≤ 16 ∧ Hp w0 w [] [.blk b2 (pad64 []) 232, .blk b3 (pad64 (firsts bs i)) 232]) (fun i => 16 - i) 0 ⟨rfl, rfl, rfl, rfl, trivial⟩ ⟨by omega, H⟩ ?_
  clear H
  rintro i τ w ⟨hi, H⟩
  refine rG ?_; refine l_op (o_bin rfl rfl (fun _ => b_lss) ?_); refine eN ?_
  repeat refine c_seq ?_
  refine c_ifD rfl (fun hlt => ?_) (fun hlt => ?_)
  · have hlt' : i < 16 := by omega
    have hfl := firsts_length bs i
    refine c_skip ?_; refine qB ?_; refine rG ?_; refine l_op (o_mv ?_); refine l_op (o_as ?_); refine eN ?_
    repeat refine c_seq ?_
    refine c_tail 38 mixed (by kernel_rfl) ?_; replace H := H.drew
    refine s_op (r_mv) ?_; refine s_op (r_mv) ?_; refine s_op (r_mv) ?_; refine s_op (r_bin rfl rfl (fun _ => b_mul oM oM)) ?_; refine s_op (r_nilc rfl) ?_; refine s_op (r_ia rfl rfl ar206 oM oM) ?_; refine s_op (r_lds (H.rd hr (apart_nil _)) rfl rfl ct5 (byteAt bs _ oM)) ?_; refine s_op (r_conv Tryz.underlying5 Tryz.underlying204 rfl (w_u32_8 _)) ?_; refine s_op (r_shift rfl rfl (.inl rfl) (fun _ => b_shl_u32 (by decide) (by decide))) ?_; refine s_op (r_mv) ?_; refine s_op (r_mv) ?_; refine s_op (r_bin rfl rfl (fun _ => b_mul oM oM)) ?_; refine s_op (r_bin rfl rfl (fun _ => b_add oM oM)) ?_; refine s_op (r_nilc rfl) ?_; refine s_op (r_ia rfl rfl ar206 oM oM) ?_; refine s_op (r_lds (H.rd hr (apart_nil _)) rfl rfl ct5 (byteAt bs _ oM)) ?_; refine s_op (r_conv Tryz.underlying5 Tryz.underlying204 rfl (w_u32_8 _)) ?_; refine s_op (r_shift rfl rfl (.inl rfl) (fun _ => b_shl_u32 (by decide) (by decide))) ?_; refine s_op (r_bin rfl rfl (fun _ => b_or_u32)) ?_; refine s_op (r_mv) ?_; refine s_op (r_mv) ?_; refine s_op (r_bin rfl rfl (fun _ => b_mul oM oM)) ?_; refine s_op (r_bin rfl rfl (fun _ => b_add oM oM)) ?_; refine s_op (r_nilc rfl) ?_; refine s_op (r_ia rfl rfl ar206 oM oM) ?_; refine s_op (r_lds (H.rd hr (apart_nil _)) rfl rfl ct5 (byteAt bs _ oM)) ?_; refine s_op (r_conv Tryz.underlying5 Tryz.underlying204 rfl (w_u32_8 _)) ?_; refine s_op (r_shift rfl rfl (.inl rfl) (fun _ => b_shl_u32 (by decide) (by decide))) ?_; refine s_op (r_bin rfl rfl (fun _ => b_or_u32)) ?_; refine s_op (r_mv) ?_; refine s_op (r_mv) ?_; refine s_op (r_bin rfl rfl (fun _ => b_mul oM oM)) ?_; refine s_op (r_bin rfl rfl (fun _ => b_add oM oM)) ?_; refine s_op (r_nilc rfl) ?_; refine s_op (r_ia rfl rfl ar206 oM oM) ?_; refine s_op (r_lds (H.rd hr (apart_nil _)) rfl rfl ct5 (byteAt bs _ oM)) ?_; refine s_op (r_conv Tryz.underlying5 Tryz.underlying204 rfl (w_u32_8 _)) ?_; refine s_op (r_bin rfl rfl (fun _ => b_or_u32)) ?_; refine s_nil ?_; refine l_op (o_ia rfl rfl ar232 oM oM ?_); refine l_op (o_st H (i := 1) (v := V32 (wordAt bs i)) rfl rfl ?_ cs204 rfl (by rw [pad64_length _ oM]; omega) (fun w H => ?_))
    · have h0 : (4 * (i : Int)).toNat * 1 = 4 * i := by omega
      have h1 : (4 * (i : Int) + 1).toNat * 1 = 4 * i + 1 := by omega
      have h2 : (4 * (i : Int) + 2).toNat * 1 = 4 * i + 2 := by omega
      have h3 : (4 * (i : Int) + 3).toNat * 1 = 4 * i + 3 := by omega
      show V32 ((((bs.getD ((4 * (i : Int)).toNat * 1) 0).toUInt32 <<< UInt32.ofNat (24 : Int).toNat ||| (bs.getD ((4 * (i : Int) + 1).toNat * 1) 0).toUInt32 <<< UInt32.ofNat (16 : Int).toNat) ||| (bs.getD ((4 * (i : Int) + 2).toNat * 1) 0).toUInt32 <<< UInt32.ofNat (8 : Int).toNat) ||| (bs.getD ((4 * (i : Int) + 3).toNat * 1) 0).toUInt32) = _
      rw [h0, h1, h2, h3]; rfl
    refine eN ?_
    have e : (pad64 (firsts bs i)).set (0 + (i : Int).toNat * 1) (V32 (wordAt bs i)) = pad64 (firsts bs (i + 1)) := by
      rw [firsts, ← pad64_set _ _ oM, hfl]; congr 1; omega
    rw [e] at H
    refine rG ?_; refine l_op (o_bin rfl rfl (fun _ => b_add oM oM) ?_); refine l_op (o_mv ?_); refine eN ?_
    refine round_end (i + 1) ?_ ?_ ?_
    · exact ⟨rfl, rfl, rfl, rfl, trivial⟩
    · exact ⟨by omega, H⟩
    · show 16 - (i + 1) < 16 - i; omega
  · have hi16 : i = 16 := by omega
    subst hi16
    clear hlt hi
    refine c_exit ?_; refine rG ?_; refine l_op (o_as ?_); refine eN ?_
    refine qB ?_; refine c_loop (ι := Nat) (fun k => [(5, VI (16 + k : Nat)), (3, .pointer (some ⟨b3, 0, none⟩)), (2, .pointer (some ⟨b2, 0, none⟩))])
      (fun k w => k ≤ 48 ∧ Hp w0 w [] [.blk b2 (pad64 []) 232, .blk b3 (pad64 (sched bs k)) 232]) (fun k => 48 - k) 0 ⟨rfl, rfl, rfl, trivial⟩ ⟨by omega, H⟩ ?_
    clear H
    rintro k τ w ⟨hk, H⟩
    have hsl := sched_length bs k
    refine rG ?_; refine l_op (o_mv ?_); refine l_op (o_bin rfl rfl (fun _ => b_lss) ?_); refine eN ?_
    repeat refine c_seq ?_
    refine c_ifD rfl (fun hlt => ?_) (fun hlt => ?_)
    · have hlt' : k < 48 := by omega
      have hg : ∀ j, j < 16 + k → (pad64 (sched bs k))[j]? = some (V32 ((sched bs k).getD j 0)) := fun j hj => pad64_get _ _ oM
      refine c_skip ?_; refine qB ?_; repeat refine c_seq ?_
      refine c_still mixed (by kernel_rfl) ?_; replace H := H.drew
      refine s_op (r_mv) ?_; refine s_op (r_bin rfl rfl (fun _ => b_sub oM oM)) ?_; refine s_op (r_ia rfl rfl ar232 oM oM) ?_; refine s_op (r_ld H (i := 1) rfl rfl ct204 (hg _ oM)) ?_; refine s_op (r_mv) ?_; refine s_op (r_bin rfl rfl (fun _ => b_sub oM oM)) ?_; refine s_op (r_ia rfl rfl ar232 oM oM) ?_; refine s_op (r_ld H (i := 1) rfl rfl ct204 (hg _ oM)) ?_; refine s_op (r_as) ?_; refine s_op (r_as) ?_; refine s_nil ?_; have x0 : 0 + (((16 + k : Nat) : Int) - 16).toNat * 1 = 16 + k - 16 := by omega
      have x1 : 0 + (((16 + k : Nat) : Int) - 15).toNat * 1 = 16 + k - 15 := by omega
      have x2 : 0 + (((16 + k : Nat) : Int) - 2).toNat * 1 = 16 + k - 2 := by omega
      have x3 : 0 + (((16 + k : Nat) : Int) - 7).toNat * 1 = 16 + k - 7 := by omega
      refine rG ?_; refine l_op (o_mv ?_); refine l_op (o_callR Tryz.func166 rfl rfl rfl (rot_ret _ 25 _ oM oM _ rfl) ?_); rintro _ w ⟨rfl, rfl⟩
      refine l_op (o_mv ?_); refine l_op (o_callR Tryz.func166 rfl rfl rfl (rot_ret _ 14 _ oM oM _ rfl) ?_); rintro _ w ⟨rfl, rfl⟩
      refine l_op (o_bin rfl rfl (fun _ => b_xor_u32) ?_); refine l_op (o_mv ?_); refine l_op (o_shift rfl rfl (.inr rfl) (fun _ => b_shr_u32 (by decide) (by decide)) ?_); refine l_op (o_bin rfl rfl (fun _ => b_xor_u32) ?_); refine l_op (o_as ?_); refine eN ?_
      refine rG ?_; refine l_op (o_mv ?_); refine l_op (o_callR Tryz.func166 rfl rfl rfl (rot_ret _ 15 _ oM oM _ rfl) ?_); rintro _ w ⟨rfl, rfl⟩
      refine l_op (o_mv ?_); refine l_op (o_callR Tryz.func166 rfl rfl rfl (rot_ret _ 13 _ oM oM _ rfl) ?_); rintro _ w ⟨rfl, rfl⟩
      refine l_op (o_bin rfl rfl (fun _ => b_xor_u32) ?_); refine l_op (o_mv ?_); refine l_op (o_shift rfl rfl (.inr rfl) (fun _ => b_shr_u32 (by decide) (by decide)) ?_); refine l_op (o_bin rfl rfl (fun _ => b_xor_u32) ?_); refine l_op (o_as ?_); refine eN ?_
      repeat refine c_seq ?_
      refine c_tail 15 mixed (by kernel_rfl) ?_; replace H := H.drew
      refine s_op (r_mv) ?_; refine s_op (r_mv) ?_; refine s_op (r_bin rfl rfl (fun _ => b_sub oM oM)) ?_; refine s_op (r_ia rfl rfl ar232 oM oM) ?_; refine s_op (r_ld H (i := 1) rfl rfl ct204 (hg _ oM)) ?_; refine s_op (r_mv) ?_; refine s_op (r_bin rfl rfl (fun _ => b_add_u32)) ?_; refine s_op (r_mv) ?_; refine s_op (r_bin rfl rfl (fun _ => b_sub oM oM)) ?_; refine s_op (r_ia rfl rfl ar232 oM oM) ?_; refine s_op (r_ld H (i := 1) rfl rfl ct204 (hg _ oM)) ?_; refine s_op (r_bin rfl rfl (fun _ => b_add_u32)) ?_; refine s_op (r_mv) ?_; refine s_op (r_bin rfl rfl (fun _ => b_add_u32)) ?_; refine s_op (r_ia rfl rfl ar232 oM oM) ?_; refine s_nil ?_; refine l_op (o_st H (i := 1) (v := V32 (nextWord (sched bs k))) rfl rfl ?_ cs204 rfl (by rw [pad64_length _ oM]; omega) (fun w H => ?_))
      · show V32 (((sched bs k).getD (0 + (((16 + k : Nat) : Int) - 16).toNat * 1) 0 + sg0 ((sched bs k).getD (0 + (((16 + k : Nat) : Int) - 15).toNat * 1) 0) + (sched bs k).getD (0 + (((16 + k : Nat) : Int) - 7).toNat * 1) 0) + sg1 ((sched bs k).getD (0 + (((16 + k : Nat) : Int) - 2).toNat * 1) 0)) = _
        rw [x0, x1, x2, x3, nextWord, hsl]
      refine eN ?_
      have e : (pad64 (sched bs k)).set (0 + ((16 + k : Nat) : Int).toNat * 1) (V32 (nextWord (sched bs k))) = pad64 (sched bs (k + 1)) := by
        rw [sched, ← pad64_set _ _ oM, hsl]; congr 1; omega
      rw [e] at H
      refine rG ?_; refine l_op (o_mv ?_); refine l_op (o_bin rfl rfl (fun _ => b_add oM oM) ?_); refine l_op (o_as ?_); refine eN ?_
      refine round_end (k + 1) ?_ ?_ ?_
      · exact ⟨rfl, rfl, rfl, trivial⟩
      · exact ⟨by omega, H⟩
      · show 48 - (k + 1) < 48 - k; omega
    · have hk48 : k = 48 := by omega
      subst hk48
      clear hlt hk
      refine c_exit ?_; have hl48 : (pad64 (sched bs 48)).length = 64 := pad64_length _ oM
      have hall : ((pad64 (sched bs 48)).drop 0).take 64 = pad64 (sched bs 48) := by rw [List.drop_zero, List.take_of_length_le oM]
      have h1c : (pad64 (sched bs 48)).toArray.all (·.oneCell') = true := by
        rw [List.all_toArray]; simp [pad64, Value.oneCell']
      refine rG ?_; refine l_op (o_ldr H (i := 1) rfl rfl rt232 (by rw [hl48]; exact Nat.le_refl _) ?_)
      rw [hall]
      refine l_op (o_stw H (i := 0) rfl rfl rfl (by rw [cs232]; simp [hl48]) h1c (by simp [hl48, pad64_length]) (fun w H => ?_)); refine eN ?_
      refine c_ret (e_retc Tryz.results165 H (i := 0) rfl rfl rt232 (by simp [hl48]) ⟨_, rfl, rfl, ?_⟩); exact H.sub (List.nil_sublist _)
end Go.Proofs.YtmiabahejnjhiaaGreatDoor
namespace Go.Proofs.YtmiabahejnjhiaaGreatDoor
open Go
set_option maxRecDepth 100000
/-- the cells of a hash. -/
def hashC (s : S8) (wt : List UInt8) (m : UInt64) : List Value := .bool true :: (s.l.map V32 ++ (wt.map V8 ++ [V64 m]))
theorem all_V32 (l : List UInt32) : (l.map V32).toArray.all (·.oneCell') = true := by
  rw [List.all_toArray]; simp [Value.oneCell']
/-- the cells of a hash whose words are l. -/
def hashL (l : List UInt32) (wt : List UInt8) (m : UInt64) : List Value := .bool true :: (l.map V32 ++ (wt.map V8 ++ [V64 m]))
theorem hashL_get (l : List UInt32) (wt : List UInt8) (m : UInt64) (i : Nat) (h : i < l.length) : (hashL l wt m)[1 + i]? = some (V32 (l.getD i 0)) := by
  rw [hashL, Nat.add_comm, List.getElem?_cons_succ, List.getElem?_append_left (by simpa using h)]
  simp [h]
theorem hashL_set (l : List UInt32) (wt : List UInt8) (m : UInt64) (i : Nat) (v : UInt32) (h : i < l.length) : (hashL l wt m).set (1 + i) (V32 v) = hashL (l.set i v) wt m := by
  rw [hashL, Nat.add_comm, List.set_cons_succ, List.set_append_left _ _ (by simpa using h)]
  simp [hashL, List.map_set]
def parts (A B : List UInt32) (i : Nat) : List UInt32 := A.take i ++ B.drop i
theorem parts_length (A B : List UInt32) (i : Nat) (h : A.length = B.length) (hi : i ≤ A.length) : (parts A B i).length = B.length := by simp only [parts, List.length_append, List.length_take, List.length_drop]; omega
theorem parts_get (A B : List UInt32) (i : Nat) (h : A.length = B.length) (hi : i < A.length) : (parts A B i).getD i 0 = B.getD i 0 := by
  have : (A.take i).length = i := by rw [List.length_take]; omega
  simp only [parts, List.getD_eq_getElem?_getD]
  rw [List.getElem?_append_right oM, this]; simp
theorem parts_set (A B : List UInt32) (i : Nat) (h : A.length = B.length) (hi : i < A.length) : (parts A B i).set i (A.getD i 0) = parts A B (i + 1) := by
  have h1 : (A.take i).length = i := by rw [List.length_take]; omega
  apply List.ext_getElem?
  intro j
  rw [List.getElem?_set]
  have hl : (parts A B i).length = B.length := parts_length A B i h oM
  by_cases h2 : i = j
  · subst h2
    rw [if_pos rfl, if_pos oM]
    rw [parts, List.getElem?_append_left (by rw [List.length_take]; omega), List.getElem?_take_of_lt oM]
    simp [hi]
  · rw [if_neg h2]
    have h4 : (A.take (i + 1)).length = i + 1 := by rw [List.length_take]; omega
    by_cases h3 : j < i
    · rw [parts, parts, List.getElem?_append_left oM, List.getElem?_append_left oM, List.getElem?_take_of_lt h3, List.getElem?_take_of_lt oM]
    · rw [parts, parts, List.getElem?_append_right oM, List.getElem?_append_right oM, h1, h4, List.getElem?_drop, List.getElem?_drop]
      congr 1; omega
theorem add_get (s t : S8) (i : Nat) (hi : i < 8) : s.l.getD i 0 + t.l.getD i 0 = (addS s t).l.getD i 0 := by
  have e : (addS s t).l = List.zipWith (· + ·) s.l t.l := rfl
  have h1 : s.l.length = 8 := rfl
  have h2 : t.l.length = 8 := rfl
  rw [e]
  simp only [List.getD_eq_getElem?_getD, List.getElem?_zipWith]
  rw [List.getElem?_eq_getElem (by omega : i < s.l.length), List.getElem?_eq_getElem (by omega : i < t.l.length)]
  rfl
theorem primes_ret (w0 : World) : Ret Tryz.prog 164 [] w0 fun v w' => v = .agg (pad64 primeWords).toArray ∧ Hp w0 w' [] [] := by
  refine ret_mk Tryz.func164 rfl Tryz.ntmps164 (by simp) ?_
  have H := Hp.refl w0 []
  refine rG ?_; refine l_op (o_alloc H zc232 (fun b0 w H hb0 => ?_)); refine eN ?_
  refine rG ?_; refine l_op (o_bld' (cells := (pad64 primeWords).toArray) bd232 rfl (by kernel_rfl) ?_); refine l_op (o_stw H (i := 0) rfl rfl rfl (by rw [cs232]; rfl) (by kernel_rfl) (by rfl) (fun w H => ?_)); refine eN ?_
  refine c_ret (e_retc Tryz.results164 H (i := 0) rfl rfl rt232 (by rfl) ⟨_, rfl, rfl, ?_⟩); exact H.sub (List.nil_sublist _)
theorem new_ret (w0 : World) : Ret Tryz.prog 110 [] w0 fun v w' => ∃ b, v = .pointer (some ⟨b, 0, none⟩) ∧ Hp w0 w' [] [.blk b (hashC initS (List.replicate 64 0) 0) 208] := by
  refine ret_mk Tryz.func110 rfl Tryz.ntmps110 (by simp) ?_
  have H := Hp.refl w0 []
  refine rG ?_; refine l_op (o_as ?_); refine eN ?_
  refine rG ?_; refine l_op (o_bld' (cells := (initS.l.map V32).toArray) bd205 rfl (by kernel_rfl) ?_); refine l_op (o_bld' (cells := (hashC initS (List.replicate 64 0) 0).toArray) bd208 rfl (by kernel_rfl) ?_); refine l_op (o_box H rfl (fun b w H hb => ?_)); refine l_op (o_as ?_); refine eN ?_
  exact c_ret (e_ret1 Tryz.results110 rfl ⟨_, rfl, b, rfl, H⟩)
theorem hashC_length (s : S8) (wt : List UInt8) (m : UInt64) (h : wt.length = 64) : (hashC s wt m).length = 74 := by simp [hashC, S8.l, h]
theorem hashC_wait (s : S8) (wt : List UInt8) (m : UInt64) (h : wt.length = 64) : ((hashC s wt m).drop 9).take 64 = wt.map V8 := by
  simp [hashC, S8.l, List.drop_append, h]
theorem hashC_num (s : S8) (wt : List UInt8) (m : UInt64) (h : wt.length = 64) : (hashC s wt m)[73]? = some (V64 m) := by
  simp [hashC, S8.l, h]
theorem hashC_setn (s : S8) (wt : List UInt8) (m m' : UInt64) (h : wt.length = 64) : (hashC s wt m).set 73 (V64 m') = hashC s wt m' := by
  simp [hashC, S8.l, h]
attribute [local irreducible] sched rnds
set_option maxHeartbeats 8000000 in
theorem mix_ret (w0 : World) (hb : Nat) (st : S8) (wt : List UInt8) (m : UInt64) (hwt : wt.length = 64) (hH : w0.heap[hb]? = some (.cells (hashC st wt m).toArray 208 (0, 0))) :
    Ret Tryz.prog 145 [.pointer (some ⟨hb, 0, none⟩)] w0 fun v w' => v = .tuple #[] ∧ Hp w0 w' [hb] [.blk hb (hashC (comp st wt) wt m) 208] := by
  refine ret_mk Tryz.func145 rfl Tryz.ntmps145 (by simp) ?_
  have H := Hp.start w0 (.blk hb (hashC st wt m) 208) hb hH rfl
  have hl48 : (pad64 (sched wt 48)).length = 64 := pad64_length _ (by rw [sched_length]; omega)
  have h1c : (pad64 (sched wt 48)).toArray.all (·.oneCell') = true := by
    rw [List.all_toArray]; simp [pad64, Value.oneCell']
  refine c_seq ?_; refine c_piece (ι := Nat × Nat × Nat) (fun i => [(2, .pointer (some ⟨i.1, 0, none⟩)), (3, .pointer (some ⟨i.2.1, 0, none⟩)), (4, .pointer (some ⟨i.2.2, 0, none⟩)), (0, .pointer (some ⟨hb, 0, none⟩))])
    (fun i w => Hp w0 w [hb] [.blk hb (hashC st wt m) 208, .blk i.1 (pad64 primeWords) 232, .blk i.2.1 (pad64 (sched wt 48)) 232, .blk i.2.2 (st.l.map V32) 205]) ?_ ?_
  · as_aux_lemma =>
    repeat refine c_seq ?_
    refine wp_held (fun w => Hp w0 w [hb] [.blk hb (hashC st wt m) 208]) mixed ?_; replace H := H.drew
    have HS : (fun w => Hp w0 w [hb] [.blk hb (hashC st wt m) 208]) _ := H.sub (List.Sublist.cons_cons _ (List.nil_sublist _))
    refine tK 1 rfl (fun w HS => r_mv) HS ?_; refine tK 2 rfl (fun w HS => r_nilc rfl) HS ?_; refine tK 3 rfl (fun w HS => r_fa rfl fo208_2) HS ?_; refine tK 5 rfl (fun w HS => r_mv) HS ?_; refine tK 6 rfl (fun w HS => r_nilc rfl) HS ?_; refine tK 7 rfl (fun w HS => r_fa rfl fo208_1) HS ?_; refine tK 8 rfl  (fun w HS => r_ldr HS (i := 0) rfl rfl rt205 (by rw [hashC_length _ _ _ hwt]; decide)) HS ?_; refine lat_start fun G hG => ?_
    have s_11111 : ∀ (b9 : Nat) (b10 : Nat) (b11 : Nat) (w : World), Hp w0 w [hb] [.blk hb (hashC st wt m) 208, .blk b9 (List.replicate 64 (Value.int .u32 0)) 232, .blk b10 (List.replicate 64 (Value.int .u32 0)) 232, .blk b11 (List.replicate 8 (Value.int .u32 0)) 205] → ∀ τ, G 3 #[true, true, true, true, true, true, true, true, true, true, true, true, false, false, false] (ups τ [(0, .pointer (some ⟨hb, 0, none⟩)), (14, .pointer (some ⟨hb, 0 + 9, none⟩)), (19, .agg (st.l.map V32).toArray), (11, .agg (pad64 primeWords).toArray), (15, .agg (pad64 (sched wt 48)).toArray), (2, .pointer (some ⟨b9, 0, none⟩)), (3, .pointer (some ⟨b10, 0, none⟩)), (4, .pointer (some ⟨b11, 0, none⟩))]) w := by
      intro   b9 b10 b11 w H  τ
      rw [hG]
      have HS : (fun w => Hp w0 w [hb] [.blk hb (hashC st wt m) 208]) _ := H.sub (List.Sublist.cons_cons _ (List.nil_sublist _))
      refine t_step 12 rfl (by kernel_rfl) (o_stw H (i := 1) rfl rfl rfl (by rw [cs232]; rfl) (by kernel_rfl) (by rfl) (fun w H => ?_)); refine ⟨H.sub (List.Sublist.cons_cons _ (List.nil_sublist _)), ?_⟩
      refine t_step 13 rfl (by kernel_rfl) (o_stw H (i := 2) rfl rfl rfl (by rw [cs232]; simp [hl48]) h1c (by simp [hl48]) (fun w H => ?_)); refine ⟨H.sub (List.Sublist.cons_cons _ (List.nil_sublist _)), ?_⟩
      refine t_step 14 rfl (by kernel_rfl) (o_stw H (i := 3) rfl rfl rfl (by rw [cs205]; rfl) (all_V32 _) (by rfl) (fun w H => ?_)); refine ⟨H.sub (List.Sublist.cons_cons _ (List.nil_sublist _)), ?_⟩
      refine t_done (by kernel_rfl) ?_; exact fit_end (b9, b10, b11) ⟨rfl, rfl, rfl, rfl, trivial⟩ H
    have s_11110 : ∀ (b9 : Nat) (b10 : Nat) (w : World), Hp w0 w [hb] [.blk hb (hashC st wt m) 208, .blk b9 (List.replicate 64 (Value.int .u32 0)) 232, .blk b10 (List.replicate 64 (Value.int .u32 0)) 232] → ∀ τ, G 4 #[true, true, true, true, true, true, true, true, true, true, true, false, false, false, false] (ups τ [(0, .pointer (some ⟨hb, 0, none⟩)), (14, .pointer (some ⟨hb, 0 + 9, none⟩)), (19, .agg (st.l.map V32).toArray), (11, .agg (pad64 primeWords).toArray), (15, .agg (pad64 (sched wt 48)).toArray), (2, .pointer (some ⟨b9, 0, none⟩)), (3, .pointer (some ⟨b10, 0, none⟩))]) w := by
      intro   b9 b10 w H  τ
      rw [hG]
      refine t_all [11] (by kernel_rfl) (by simp) ?_; refine all_cons (w_op 11 rfl ?_) ?_
      · refine (o_alloc H zc205 (fun b11 w H _ => ?_))
        exact ⟨H.sub (List.Sublist.cons_cons _ (List.nil_sublist _)), lat_use hG (s_11111   b9 b10 b11 _ (H.perm (perm_ins [.blk hb (hashC st wt m) 208, .blk b9 (List.replicate 64 (Value.int .u32 0)) 232, .blk b10 (List.replicate 64 (Value.int .u32 0)) 232] [] (.blk b11 (List.replicate 8 (Value.int .u32 0)) 205))) ) ⟨rfl, rfl, rfl, rfl, rfl, rfl, rfl, rfl, trivial⟩⟩
      exact all_nil
    have s_11101 : ∀ (b9 : Nat) (b11 : Nat) (w : World), Hp w0 w [hb] [.blk hb (hashC st wt m) 208, .blk b9 (List.replicate 64 (Value.int .u32 0)) 232, .blk b11 (List.replicate 8 (Value.int .u32 0)) 205] → ∀ τ, G 4 #[true, true, true, true, true, true, true, true, true, true, false, true, false, false, false] (ups τ [(0, .pointer (some ⟨hb, 0, none⟩)), (14, .pointer (some ⟨hb, 0 + 9, none⟩)), (19, .agg (st.l.map V32).toArray), (11, .agg (pad64 primeWords).toArray), (15, .agg (pad64 (sched wt 48)).toArray), (2, .pointer (some ⟨b9, 0, none⟩)), (4, .pointer (some ⟨b11, 0, none⟩))]) w := by
      intro   b9 b11 w H  τ
      rw [hG]
      refine t_all [10] (by kernel_rfl) (by simp) ?_; refine all_cons (w_op 10 rfl ?_) ?_
      · refine (o_alloc H zc232 (fun b10 w H _ => ?_))
        exact ⟨H.sub (List.Sublist.cons_cons _ (List.nil_sublist _)), lat_use hG (s_11111   b9 b10 b11 _ (H.perm (perm_ins [.blk hb (hashC st wt m) 208, .blk b9 (List.replicate 64 (Value.int .u32 0)) 232] [.blk b11 (List.replicate 8 (Value.int .u32 0)) 205] (.blk b10 (List.replicate 64 (Value.int .u32 0)) 232))) ) ⟨rfl, rfl, rfl, rfl, rfl, rfl, rfl, rfl, trivial⟩⟩
      exact all_nil
    have s_11100 : ∀ (b9 : Nat) (w : World), Hp w0 w [hb] [.blk hb (hashC st wt m) 208, .blk b9 (List.replicate 64 (Value.int .u32 0)) 232] → ∀ τ, G 5 #[true, true, true, true, true, true, true, true, true, true, false, false, false, false, false] (ups τ [(0, .pointer (some ⟨hb, 0, none⟩)), (14, .pointer (some ⟨hb, 0 + 9, none⟩)), (19, .agg (st.l.map V32).toArray), (11, .agg (pad64 primeWords).toArray), (15, .agg (pad64 (sched wt 48)).toArray), (2, .pointer (some ⟨b9, 0, none⟩))]) w := by
      intro   b9 w H  τ
      rw [hG]
      refine t_all [10, 11] (by kernel_rfl) (by simp) ?_; refine all_cons (w_op 10 rfl ?_) ?_
      · refine (o_alloc H zc232 (fun b10 w H _ => ?_))
        exact ⟨H.sub (List.Sublist.cons_cons _ (List.nil_sublist _)), lat_use hG (s_11110   b9 b10 _ (H.perm (perm_ins [.blk hb (hashC st wt m) 208, .blk b9 (List.replicate 64 (Value.int .u32 0)) 232] [] (.blk b10 (List.replicate 64 (Value.int .u32 0)) 232))) ) ⟨rfl, rfl, rfl, rfl, rfl, rfl, rfl, trivial⟩⟩
      refine all_cons (w_op 11 rfl ?_) ?_
      · refine (o_alloc H zc205 (fun b11 w H _ => ?_))
        exact ⟨H.sub (List.Sublist.cons_cons _ (List.nil_sublist _)), lat_use hG (s_11101   b9 b11 _ (H.perm (perm_ins [.blk hb (hashC st wt m) 208, .blk b9 (List.replicate 64 (Value.int .u32 0)) 232] [] (.blk b11 (List.replicate 8 (Value.int .u32 0)) 205))) ) ⟨rfl, rfl, rfl, rfl, rfl, rfl, rfl, trivial⟩⟩
      exact all_nil
    have s_11011 : ∀ (b10 : Nat) (b11 : Nat) (w : World), Hp w0 w [hb] [.blk hb (hashC st wt m) 208, .blk b10 (List.replicate 64 (Value.int .u32 0)) 232, .blk b11 (List.replicate 8 (Value.int .u32 0)) 205] → ∀ τ, G 4 #[true, true, true, true, true, true, true, true, true, false, true, true, false, false, false] (ups τ [(0, .pointer (some ⟨hb, 0, none⟩)), (14, .pointer (some ⟨hb, 0 + 9, none⟩)), (19, .agg (st.l.map V32).toArray), (11, .agg (pad64 primeWords).toArray), (15, .agg (pad64 (sched wt 48)).toArray), (3, .pointer (some ⟨b10, 0, none⟩)), (4, .pointer (some ⟨b11, 0, none⟩))]) w := by
      intro   b10 b11 w H  τ
      rw [hG]
      refine t_all [9] (by kernel_rfl) (by simp) ?_; refine all_cons (w_op 9 rfl ?_) ?_
      · refine (o_alloc H zc232 (fun b9 w H _ => ?_))
        exact ⟨H.sub (List.Sublist.cons_cons _ (List.nil_sublist _)), lat_use hG (s_11111   b9 b10 b11 _ (H.perm (perm_ins [.blk hb (hashC st wt m) 208] [.blk b10 (List.replicate 64 (Value.int .u32 0)) 232, .blk b11 (List.replicate 8 (Value.int .u32 0)) 205] (.blk b9 (List.replicate 64 (Value.int .u32 0)) 232))) ) ⟨rfl, rfl, rfl, rfl, rfl, rfl, rfl, rfl, trivial⟩⟩
      exact all_nil
    have s_11010 : ∀ (b10 : Nat) (w : World), Hp w0 w [hb] [.blk hb (hashC st wt m) 208, .blk b10 (List.replicate 64 (Value.int .u32 0)) 232] → ∀ τ, G 5 #[true, true, true, true, true, true, true, true, true, false, true, false, false, false, false] (ups τ [(0, .pointer (some ⟨hb, 0, none⟩)), (14, .pointer (some ⟨hb, 0 + 9, none⟩)), (19, .agg (st.l.map V32).toArray), (11, .agg (pad64 primeWords).toArray), (15, .agg (pad64 (sched wt 48)).toArray), (3, .pointer (some ⟨b10, 0, none⟩))]) w := by
      intro   b10 w H  τ
      rw [hG]
      refine t_all [9, 11] (by kernel_rfl) (by simp) ?_; refine all_cons (w_op 9 rfl ?_) ?_
      · refine (o_alloc H zc232 (fun b9 w H _ => ?_))
        exact ⟨H.sub (List.Sublist.cons_cons _ (List.nil_sublist _)), lat_use hG (s_11110   b9 b10 _ (H.perm (perm_ins [.blk hb (hashC st wt m) 208] [.blk b10 (List.replicate 64 (Value.int .u32 0)) 232] (.blk b9 (List.replicate 64 (Value.int .u32 0)) 232))) ) ⟨rfl, rfl, rfl, rfl, rfl, rfl, rfl, trivial⟩⟩
      refine all_cons (w_op 11 rfl ?_) ?_
      · refine (o_alloc H zc205 (fun b11 w H _ => ?_))
        exact ⟨H.sub (List.Sublist.cons_cons _ (List.nil_sublist _)), lat_use hG (s_11011   b10 b11 _ (H.perm (perm_ins [.blk hb (hashC st wt m) 208, .blk b10 (List.replicate 64 (Value.int .u32 0)) 232] [] (.blk b11 (List.replicate 8 (Value.int .u32 0)) 205))) ) ⟨rfl, rfl, rfl, rfl, rfl, rfl, rfl, trivial⟩⟩
      exact all_nil
    have s_11001 : ∀ (b11 : Nat) (w : World), Hp w0 w [hb] [.blk hb (hashC st wt m) 208, .blk b11 (List.replicate 8 (Value.int .u32 0)) 205] → ∀ τ, G 5 #[true, true, true, true, true, true, true, true, true, false, false, true, false, false, false] (ups τ [(0, .pointer (some ⟨hb, 0, none⟩)), (14, .pointer (some ⟨hb, 0 + 9, none⟩)), (19, .agg (st.l.map V32).toArray), (11, .agg (pad64 primeWords).toArray), (15, .agg (pad64 (sched wt 48)).toArray), (4, .pointer (some ⟨b11, 0, none⟩))]) w := by
      intro   b11 w H  τ
      rw [hG]
      refine t_all [9, 10] (by kernel_rfl) (by simp) ?_; refine all_cons (w_op 9 rfl ?_) ?_
      · refine (o_alloc H zc232 (fun b9 w H _ => ?_))
        exact ⟨H.sub (List.Sublist.cons_cons _ (List.nil_sublist _)), lat_use hG (s_11101   b9 b11 _ (H.perm (perm_ins [.blk hb (hashC st wt m) 208] [.blk b11 (List.replicate 8 (Value.int .u32 0)) 205] (.blk b9 (List.replicate 64 (Value.int .u32 0)) 232))) ) ⟨rfl, rfl, rfl, rfl, rfl, rfl, rfl, trivial⟩⟩
      refine all_cons (w_op 10 rfl ?_) ?_
      · refine (o_alloc H zc232 (fun b10 w H _ => ?_))
        exact ⟨H.sub (List.Sublist.cons_cons _ (List.nil_sublist _)), lat_use hG (s_11011   b10 b11 _ (H.perm (perm_ins [.blk hb (hashC st wt m) 208] [.blk b11 (List.replicate 8 (Value.int .u32 0)) 205] (.blk b10 (List.replicate 64 (Value.int .u32 0)) 232))) ) ⟨rfl, rfl, rfl, rfl, rfl, rfl, rfl, trivial⟩⟩
      exact all_nil
    have s_11000 : ∀  (w : World), Hp w0 w [hb] [.blk hb (hashC st wt m) 208] → ∀ τ, G 6 #[true, true, true, true, true, true, true, true, true, false, false, false, false, false, false] (ups τ [(0, .pointer (some ⟨hb, 0, none⟩)), (14, .pointer (some ⟨hb, 0 + 9, none⟩)), (19, .agg (st.l.map V32).toArray), (11, .agg (pad64 primeWords).toArray), (15, .agg (pad64 (sched wt 48)).toArray)]) w := by
      intro   w H  τ
      rw [hG]
      refine t_all [9, 10, 11] (by kernel_rfl) (by simp) ?_; refine all_cons (w_op 9 rfl ?_) ?_
      · refine (o_alloc H zc232 (fun b9 w H _ => ?_))
        exact ⟨H.sub (List.Sublist.cons_cons _ (List.nil_sublist _)), lat_use hG (s_11100   b9 _ (H.perm (perm_ins [.blk hb (hashC st wt m) 208] [] (.blk b9 (List.replicate 64 (Value.int .u32 0)) 232))) ) ⟨rfl, rfl, rfl, rfl, rfl, rfl, trivial⟩⟩
      refine all_cons (w_op 10 rfl ?_) ?_
      · refine (o_alloc H zc232 (fun b10 w H _ => ?_))
        exact ⟨H.sub (List.Sublist.cons_cons _ (List.nil_sublist _)), lat_use hG (s_11010   b10 _ (H.perm (perm_ins [.blk hb (hashC st wt m) 208] [] (.blk b10 (List.replicate 64 (Value.int .u32 0)) 232))) ) ⟨rfl, rfl, rfl, rfl, rfl, rfl, trivial⟩⟩
      refine all_cons (w_op 11 rfl ?_) ?_
      · refine (o_alloc H zc205 (fun b11 w H _ => ?_))
        exact ⟨H.sub (List.Sublist.cons_cons _ (List.nil_sublist _)), lat_use hG (s_11001   b11 _ (H.perm (perm_ins [.blk hb (hashC st wt m) 208] [] (.blk b11 (List.replicate 8 (Value.int .u32 0)) 205))) ) ⟨rfl, rfl, rfl, rfl, rfl, rfl, trivial⟩⟩
      exact all_nil
    have s_10111 : ∀ (b9 : Nat) (b10 : Nat) (b11 : Nat) (w : World), Hp w0 w [hb] [.blk hb (hashC st wt m) 208, .blk b9 (List.replicate 64 (Value.int .u32 0)) 232, .blk b10 (List.replicate 64 (Value.int .u32 0)) 232, .blk b11 (List.replicate 8 (Value.int .u32 0)) 205] → ∀ τ, G 4 #[true, true, true, true, false, true, true, true, true, true, true, true, false, false, false] (ups τ [(0, .pointer (some ⟨hb, 0, none⟩)), (14, .pointer (some ⟨hb, 0 + 9, none⟩)), (19, .agg (st.l.map V32).toArray), (11, .agg (pad64 primeWords).toArray), (2, .pointer (some ⟨b9, 0, none⟩)), (3, .pointer (some ⟨b10, 0, none⟩)), (4, .pointer (some ⟨b11, 0, none⟩))]) w := by
      intro  b9 b10 b11 w H  τ
      rw [hG]
      refine t_all [4] (by kernel_rfl) (by simp) ?_; refine all_cons (w_op 4 rfl ?_) ?_
      · refine (o_callR Tryz.func165 rfl rfl rfl (spread_ret _ hb (0 + 9) wt hwt (by rw [← hashC_wait st wt m hwt]; exact (Ch.rd_blk (H.has _ List.mem_cons_self) (0 + 9)).take 64)) ?_)
        rintro _ w ⟨rfl, Hc⟩
        replace H := H.call Hc
        rw [List.append_nil] at H
        exact ⟨H.sub (List.Sublist.cons_cons _ (List.nil_sublist _)), lat_use hG (s_11111   b9 b10 b11 _ H ) ⟨rfl, rfl, rfl, rfl, rfl, rfl, rfl, rfl, trivial⟩⟩
      exact all_nil
    have s_10110 : ∀ (b9 : Nat) (b10 : Nat) (w : World), Hp w0 w [hb] [.blk hb (hashC st wt m) 208, .blk b9 (List.replicate 64 (Value.int .u32 0)) 232, .blk b10 (List.replicate 64 (Value.int .u32 0)) 232] → ∀ τ, G 5 #[true, true, true, true, false, true, true, true, true, true, true, false, false, false, false] (ups τ [(0, .pointer (some ⟨hb, 0, none⟩)), (14, .pointer (some ⟨hb, 0 + 9, none⟩)), (19, .agg (st.l.map V32).toArray), (11, .agg (pad64 primeWords).toArray), (2, .pointer (some ⟨b9, 0, none⟩)), (3, .pointer (some ⟨b10, 0, none⟩))]) w := by
      intro  b9 b10 w H  τ
      rw [hG]
      refine t_all [4, 11] (by kernel_rfl) (by simp) ?_; refine all_cons (w_op 4 rfl ?_) ?_
      · refine (o_callR Tryz.func165 rfl rfl rfl (spread_ret _ hb (0 + 9) wt hwt (by rw [← hashC_wait st wt m hwt]; exact (Ch.rd_blk (H.has _ List.mem_cons_self) (0 + 9)).take 64)) ?_)
        rintro _ w ⟨rfl, Hc⟩
        replace H := H.call Hc
        rw [List.append_nil] at H
        exact ⟨H.sub (List.Sublist.cons_cons _ (List.nil_sublist _)), lat_use hG (s_11110   b9 b10 _ H ) ⟨rfl, rfl, rfl, rfl, rfl, rfl, rfl, trivial⟩⟩
      refine all_cons (w_op 11 rfl ?_) ?_
      · refine (o_alloc H zc205 (fun b11 w H _ => ?_))
        exact ⟨H.sub (List.Sublist.cons_cons _ (List.nil_sublist _)), lat_use hG (s_10111  b9 b10 b11 _ (H.perm (perm_ins [.blk hb (hashC st wt m) 208, .blk b9 (List.replicate 64 (Value.int .u32 0)) 232, .blk b10 (List.replicate 64 (Value.int .u32 0)) 232] [] (.blk b11 (List.replicate 8 (Value.int .u32 0)) 205))) ) ⟨rfl, rfl, rfl, rfl, rfl, rfl, rfl, trivial⟩⟩
      exact all_nil
    have s_10101 : ∀ (b9 : Nat) (b11 : Nat) (w : World), Hp w0 w [hb] [.blk hb (hashC st wt m) 208, .blk b9 (List.replicate 64 (Value.int .u32 0)) 232, .blk b11 (List.replicate 8 (Value.int .u32 0)) 205] → ∀ τ, G 5 #[true, true, true, true, false, true, true, true, true, true, false, true, false, false, false] (ups τ [(0, .pointer (some ⟨hb, 0, none⟩)), (14, .pointer (some ⟨hb, 0 + 9, none⟩)), (19, .agg (st.l.map V32).toArray), (11, .agg (pad64 primeWords).toArray), (2, .pointer (some ⟨b9, 0, none⟩)), (4, .pointer (some ⟨b11, 0, none⟩))]) w := by
      intro  b9 b11 w H  τ
      rw [hG]
      refine t_all [4, 10] (by kernel_rfl) (by simp) ?_; refine all_cons (w_op 4 rfl ?_) ?_
      · refine (o_callR Tryz.func165 rfl rfl rfl (spread_ret _ hb (0 + 9) wt hwt (by rw [← hashC_wait st wt m hwt]; exact (Ch.rd_blk (H.has _ List.mem_cons_self) (0 + 9)).take 64)) ?_)
        rintro _ w ⟨rfl, Hc⟩
        replace H := H.call Hc
        rw [List.append_nil] at H
        exact ⟨H.sub (List.Sublist.cons_cons _ (List.nil_sublist _)), lat_use hG (s_11101   b9 b11 _ H ) ⟨rfl, rfl, rfl, rfl, rfl, rfl, rfl, trivial⟩⟩
      refine all_cons (w_op 10 rfl ?_) ?_
      · refine (o_alloc H zc232 (fun b10 w H _ => ?_))
        exact ⟨H.sub (List.Sublist.cons_cons _ (List.nil_sublist _)), lat_use hG (s_10111  b9 b10 b11 _ (H.perm (perm_ins [.blk hb (hashC st wt m) 208, .blk b9 (List.replicate 64 (Value.int .u32 0)) 232] [.blk b11 (List.replicate 8 (Value.int .u32 0)) 205] (.blk b10 (List.replicate 64 (Value.int .u32 0)) 232))) ) ⟨rfl, rfl, rfl, rfl, rfl, rfl, rfl, trivial⟩⟩
      exact all_nil
    have s_10100 : ∀ (b9 : Nat) (w : World), Hp w0 w [hb] [.blk hb (hashC st wt m) 208, .blk b9 (List.replicate 64 (Value.int .u32 0)) 232] → ∀ τ, G 6 #[true, true, true, true, false, true, true, true, true, true, false, false, false, false, false] (ups τ [(0, .pointer (some ⟨hb, 0, none⟩)), (14, .pointer (some ⟨hb, 0 + 9, none⟩)), (19, .agg (st.l.map V32).toArray), (11, .agg (pad64 primeWords).toArray), (2, .pointer (some ⟨b9, 0, none⟩))]) w := by
      intro  b9 w H  τ
      rw [hG]
      refine t_all [4, 10, 11] (by kernel_rfl) (by simp) ?_; refine all_cons (w_op 4 rfl ?_) ?_
      · refine (o_callR Tryz.func165 rfl rfl rfl (spread_ret _ hb (0 + 9) wt hwt (by rw [← hashC_wait st wt m hwt]; exact (Ch.rd_blk (H.has _ List.mem_cons_self) (0 + 9)).take 64)) ?_)
        rintro _ w ⟨rfl, Hc⟩
        replace H := H.call Hc
        rw [List.append_nil] at H
        exact ⟨H.sub (List.Sublist.cons_cons _ (List.nil_sublist _)), lat_use hG (s_11100   b9 _ H ) ⟨rfl, rfl, rfl, rfl, rfl, rfl, trivial⟩⟩
      refine all_cons (w_op 10 rfl ?_) ?_
      · refine (o_alloc H zc232 (fun b10 w H _ => ?_))
        exact ⟨H.sub (List.Sublist.cons_cons _ (List.nil_sublist _)), lat_use hG (s_10110  b9 b10 _ (H.perm (perm_ins [.blk hb (hashC st wt m) 208, .blk b9 (List.replicate 64 (Value.int .u32 0)) 232] [] (.blk b10 (List.replicate 64 (Value.int .u32 0)) 232))) ) ⟨rfl, rfl, rfl, rfl, rfl, rfl, trivial⟩⟩
      refine all_cons (w_op 11 rfl ?_) ?_
      · refine (o_alloc H zc205 (fun b11 w H _ => ?_))
        exact ⟨H.sub (List.Sublist.cons_cons _ (List.nil_sublist _)), lat_use hG (s_10101  b9 b11 _ (H.perm (perm_ins [.blk hb (hashC st wt m) 208, .blk b9 (List.replicate 64 (Value.int .u32 0)) 232] [] (.blk b11 (List.replicate 8 (Value.int .u32 0)) 205))) ) ⟨rfl, rfl, rfl, rfl, rfl, rfl, trivial⟩⟩
      exact all_nil
    have s_10011 : ∀ (b10 : Nat) (b11 : Nat) (w : World), Hp w0 w [hb] [.blk hb (hashC st wt m) 208, .blk b10 (List.replicate 64 (Value.int .u32 0)) 232, .blk b11 (List.replicate 8 (Value.int .u32 0)) 205] → ∀ τ, G 5 #[true, true, true, true, false, true, true, true, true, false, true, true, false, false, false] (ups τ [(0, .pointer (some ⟨hb, 0, none⟩)), (14, .pointer (some ⟨hb, 0 + 9, none⟩)), (19, .agg (st.l.map V32).toArray), (11, .agg (pad64 primeWords).toArray), (3, .pointer (some ⟨b10, 0, none⟩)), (4, .pointer (some ⟨b11, 0, none⟩))]) w := by
      intro  b10 b11 w H  τ
      rw [hG]
      refine t_all [4, 9] (by kernel_rfl) (by simp) ?_; refine all_cons (w_op 4 rfl ?_) ?_
      · refine (o_callR Tryz.func165 rfl rfl rfl (spread_ret _ hb (0 + 9) wt hwt (by rw [← hashC_wait st wt m hwt]; exact (Ch.rd_blk (H.has _ List.mem_cons_self) (0 + 9)).take 64)) ?_)
        rintro _ w ⟨rfl, Hc⟩
        replace H := H.call Hc
        rw [List.append_nil] at H
        exact ⟨H.sub (List.Sublist.cons_cons _ (List.nil_sublist _)), lat_use hG (s_11011   b10 b11 _ H ) ⟨rfl, rfl, rfl, rfl, rfl, rfl, rfl, trivial⟩⟩
      refine all_cons (w_op 9 rfl ?_) ?_
      · refine (o_alloc H zc232 (fun b9 w H _ => ?_))
        exact ⟨H.sub (List.Sublist.cons_cons _ (List.nil_sublist _)), lat_use hG (s_10111  b9 b10 b11 _ (H.perm (perm_ins [.blk hb (hashC st wt m) 208] [.blk b10 (List.replicate 64 (Value.int .u32 0)) 232, .blk b11 (List.replicate 8 (Value.int .u32 0)) 205] (.blk b9 (List.replicate 64 (Value.int .u32 0)) 232))) ) ⟨rfl, rfl, rfl, rfl, rfl, rfl, rfl, trivial⟩⟩
      exact all_nil
    have s_10010 : ∀ (b10 : Nat) (w : World), Hp w0 w [hb] [.blk hb (hashC st wt m) 208, .blk b10 (List.replicate 64 (Value.int .u32 0)) 232] → ∀ τ, G 6 #[true, true, true, true, false, true, true, true, true, false, true, false, false, false, false] (ups τ [(0, .pointer (some ⟨hb, 0, none⟩)), (14, .pointer (some ⟨hb, 0 + 9, none⟩)), (19, .agg (st.l.map V32).toArray), (11, .agg (pad64 primeWords).toArray), (3, .pointer (some ⟨b10, 0, none⟩))]) w := by
      intro  b10 w H  τ
      rw [hG]
      refine t_all [4, 9, 11] (by kernel_rfl) (by simp) ?_; refine all_cons (w_op 4 rfl ?_) ?_
      · refine (o_callR Tryz.func165 rfl rfl rfl (spread_ret _ hb (0 + 9) wt hwt (by rw [← hashC_wait st wt m hwt]; exact (Ch.rd_blk (H.has _ List.mem_cons_self) (0 + 9)).take 64)) ?_)
        rintro _ w ⟨rfl, Hc⟩
        replace H := H.call Hc
        rw [List.append_nil] at H
        exact ⟨H.sub (List.Sublist.cons_cons _ (List.nil_sublist _)), lat_use hG (s_11010   b10 _ H ) ⟨rfl, rfl, rfl, rfl, rfl, rfl, trivial⟩⟩
      refine all_cons (w_op 9 rfl ?_) ?_
      · refine (o_alloc H zc232 (fun b9 w H _ => ?_))
        exact ⟨H.sub (List.Sublist.cons_cons _ (List.nil_sublist _)), lat_use hG (s_10110  b9 b10 _ (H.perm (perm_ins [.blk hb (hashC st wt m) 208] [.blk b10 (List.replicate 64 (Value.int .u32 0)) 232] (.blk b9 (List.replicate 64 (Value.int .u32 0)) 232))) ) ⟨rfl, rfl, rfl, rfl, rfl, rfl, trivial⟩⟩
      refine all_cons (w_op 11 rfl ?_) ?_
      · refine (o_alloc H zc205 (fun b11 w H _ => ?_))
        exact ⟨H.sub (List.Sublist.cons_cons _ (List.nil_sublist _)), lat_use hG (s_10011  b10 b11 _ (H.perm (perm_ins [.blk hb (hashC st wt m) 208, .blk b10 (List.replicate 64 (Value.int .u32 0)) 232] [] (.blk b11 (List.replicate 8 (Value.int .u32 0)) 205))) ) ⟨rfl, rfl, rfl, rfl, rfl, rfl, trivial⟩⟩
      exact all_nil
    have s_10001 : ∀ (b11 : Nat) (w : World), Hp w0 w [hb] [.blk hb (hashC st wt m) 208, .blk b11 (List.replicate 8 (Value.int .u32 0)) 205] → ∀ τ, G 6 #[true, true, true, true, false, true, true, true, true, false, false, true, false, false, false] (ups τ [(0, .pointer (some ⟨hb, 0, none⟩)), (14, .pointer (some ⟨hb, 0 + 9, none⟩)), (19, .agg (st.l.map V32).toArray), (11, .agg (pad64 primeWords).toArray), (4, .pointer (some ⟨b11, 0, none⟩))]) w := by
      intro  b11 w H  τ
      rw [hG]
      refine t_all [4, 9, 10] (by kernel_rfl) (by simp) ?_; refine all_cons (w_op 4 rfl ?_) ?_
      · refine (o_callR Tryz.func165 rfl rfl rfl (spread_ret _ hb (0 + 9) wt hwt (by rw [← hashC_wait st wt m hwt]; exact (Ch.rd_blk (H.has _ List.mem_cons_self) (0 + 9)).take 64)) ?_)
        rintro _ w ⟨rfl, Hc⟩
        replace H := H.call Hc
        rw [List.append_nil] at H
        exact ⟨H.sub (List.Sublist.cons_cons _ (List.nil_sublist _)), lat_use hG (s_11001   b11 _ H ) ⟨rfl, rfl, rfl, rfl, rfl, rfl, trivial⟩⟩
      refine all_cons (w_op 9 rfl ?_) ?_
      · refine (o_alloc H zc232 (fun b9 w H _ => ?_))
        exact ⟨H.sub (List.Sublist.cons_cons _ (List.nil_sublist _)), lat_use hG (s_10101  b9 b11 _ (H.perm (perm_ins [.blk hb (hashC st wt m) 208] [.blk b11 (List.replicate 8 (Value.int .u32 0)) 205] (.blk b9 (List.replicate 64 (Value.int .u32 0)) 232))) ) ⟨rfl, rfl, rfl, rfl, rfl, rfl, trivial⟩⟩
      refine all_cons (w_op 10 rfl ?_) ?_
      · refine (o_alloc H zc232 (fun b10 w H _ => ?_))
        exact ⟨H.sub (List.Sublist.cons_cons _ (List.nil_sublist _)), lat_use hG (s_10011  b10 b11 _ (H.perm (perm_ins [.blk hb (hashC st wt m) 208] [.blk b11 (List.replicate 8 (Value.int .u32 0)) 205] (.blk b10 (List.replicate 64 (Value.int .u32 0)) 232))) ) ⟨rfl, rfl, rfl, rfl, rfl, rfl, trivial⟩⟩
      exact all_nil
    have s_10000 : ∀  (w : World), Hp w0 w [hb] [.blk hb (hashC st wt m) 208] → ∀ τ, G 7 #[true, true, true, true, false, true, true, true, true, false, false, false, false, false, false] (ups τ [(0, .pointer (some ⟨hb, 0, none⟩)), (14, .pointer (some ⟨hb, 0 + 9, none⟩)), (19, .agg (st.l.map V32).toArray), (11, .agg (pad64 primeWords).toArray)]) w := by
      intro  w H  τ
      rw [hG]
      refine t_all [4, 9, 10, 11] (by kernel_rfl) (by simp) ?_; refine all_cons (w_op 4 rfl ?_) ?_
      · refine (o_callR Tryz.func165 rfl rfl rfl (spread_ret _ hb (0 + 9) wt hwt (by rw [← hashC_wait st wt m hwt]; exact (Ch.rd_blk (H.has _ List.mem_cons_self) (0 + 9)).take 64)) ?_)
        rintro _ w ⟨rfl, Hc⟩
        replace H := H.call Hc
        rw [List.append_nil] at H
        exact ⟨H.sub (List.Sublist.cons_cons _ (List.nil_sublist _)), lat_use hG (s_11000   _ H ) ⟨rfl, rfl, rfl, rfl, rfl, trivial⟩⟩
      refine all_cons (w_op 9 rfl ?_) ?_
      · refine (o_alloc H zc232 (fun b9 w H _ => ?_))
        exact ⟨H.sub (List.Sublist.cons_cons _ (List.nil_sublist _)), lat_use hG (s_10100  b9 _ (H.perm (perm_ins [.blk hb (hashC st wt m) 208] [] (.blk b9 (List.replicate 64 (Value.int .u32 0)) 232))) ) ⟨rfl, rfl, rfl, rfl, rfl, trivial⟩⟩
      refine all_cons (w_op 10 rfl ?_) ?_
      · refine (o_alloc H zc232 (fun b10 w H _ => ?_))
        exact ⟨H.sub (List.Sublist.cons_cons _ (List.nil_sublist _)), lat_use hG (s_10010  b10 _ (H.perm (perm_ins [.blk hb (hashC st wt m) 208] [] (.blk b10 (List.replicate 64 (Value.int .u32 0)) 232))) ) ⟨rfl, rfl, rfl, rfl, rfl, trivial⟩⟩
      refine all_cons (w_op 11 rfl ?_) ?_
      · refine (o_alloc H zc205 (fun b11 w H _ => ?_))
        exact ⟨H.sub (List.Sublist.cons_cons _ (List.nil_sublist _)), lat_use hG (s_10001  b11 _ (H.perm (perm_ins [.blk hb (hashC st wt m) 208] [] (.blk b11 (List.replicate 8 (Value.int .u32 0)) 205))) ) ⟨rfl, rfl, rfl, rfl, rfl, trivial⟩⟩
      exact all_nil
    have s_00111 : ∀ (b9 : Nat) (b10 : Nat) (b11 : Nat) (w : World), Hp w0 w [hb] [.blk hb (hashC st wt m) 208, .blk b9 (List.replicate 64 (Value.int .u32 0)) 232, .blk b10 (List.replicate 64 (Value.int .u32 0)) 232, .blk b11 (List.replicate 8 (Value.int .u32 0)) 205] → ∀ τ, G 5 #[false, true, true, true, false, true, true, true, true, true, true, true, false, false, false] (ups τ [(0, .pointer (some ⟨hb, 0, none⟩)), (14, .pointer (some ⟨hb, 0 + 9, none⟩)), (19, .agg (st.l.map V32).toArray), (2, .pointer (some ⟨b9, 0, none⟩)), (3, .pointer (some ⟨b10, 0, none⟩)), (4, .pointer (some ⟨b11, 0, none⟩))]) w := by
      intro b9 b10 b11 w H  τ
      rw [hG]
      refine t_all [0] (by kernel_rfl) (by simp) ?_; refine all_cons (w_op 0 rfl ?_) ?_
      · refine (o_callR Tryz.func164 rfl rfl rfl (primes_ret _) ?_)
        rintro _ w ⟨rfl, Hc⟩
        replace H := H.call Hc
        rw [List.append_nil] at H
        exact ⟨H.sub (List.Sublist.cons_cons _ (List.nil_sublist _)), lat_use hG (s_10111  b9 b10 b11 _ H ) ⟨rfl, rfl, rfl, rfl, rfl, rfl, rfl, trivial⟩⟩
      exact all_nil
    have s_00110 : ∀ (b9 : Nat) (b10 : Nat) (w : World), Hp w0 w [hb] [.blk hb (hashC st wt m) 208, .blk b9 (List.replicate 64 (Value.int .u32 0)) 232, .blk b10 (List.replicate 64 (Value.int .u32 0)) 232] → ∀ τ, G 6 #[false, true, true, true, false, true, true, true, true, true, true, false, false, false, false] (ups τ [(0, .pointer (some ⟨hb, 0, none⟩)), (14, .pointer (some ⟨hb, 0 + 9, none⟩)), (19, .agg (st.l.map V32).toArray), (2, .pointer (some ⟨b9, 0, none⟩)), (3, .pointer (some ⟨b10, 0, none⟩))]) w := by
      intro b9 b10 w H  τ
      rw [hG]
      refine t_all [0, 11] (by kernel_rfl) (by simp) ?_; refine all_cons (w_op 0 rfl ?_) ?_
      · refine (o_callR Tryz.func164 rfl rfl rfl (primes_ret _) ?_)
        rintro _ w ⟨rfl, Hc⟩
        replace H := H.call Hc
        rw [List.append_nil] at H
        exact ⟨H.sub (List.Sublist.cons_cons _ (List.nil_sublist _)), lat_use hG (s_10110  b9 b10 _ H ) ⟨rfl, rfl, rfl, rfl, rfl, rfl, trivial⟩⟩
      refine all_cons (w_op 11 rfl ?_) ?_
      · refine (o_alloc H zc205 (fun b11 w H _ => ?_))
        exact ⟨H.sub (List.Sublist.cons_cons _ (List.nil_sublist _)), lat_use hG (s_00111 b9 b10 b11 _ (H.perm (perm_ins [.blk hb (hashC st wt m) 208, .blk b9 (List.replicate 64 (Value.int .u32 0)) 232, .blk b10 (List.replicate 64 (Value.int .u32 0)) 232] [] (.blk b11 (List.replicate 8 (Value.int .u32 0)) 205))) ) ⟨rfl, rfl, rfl, rfl, rfl, rfl, trivial⟩⟩
      exact all_nil
    have s_00101 : ∀ (b9 : Nat) (b11 : Nat) (w : World), Hp w0 w [hb] [.blk hb (hashC st wt m) 208, .blk b9 (List.replicate 64 (Value.int .u32 0)) 232, .blk b11 (List.replicate 8 (Value.int .u32 0)) 205] → ∀ τ, G 6 #[false, true, true, true, false, true, true, true, true, true, false, true, false, false, false] (ups τ [(0, .pointer (some ⟨hb, 0, none⟩)), (14, .pointer (some ⟨hb, 0 + 9, none⟩)), (19, .agg (st.l.map V32).toArray), (2, .pointer (some ⟨b9, 0, none⟩)), (4, .pointer (some ⟨b11, 0, none⟩))]) w := by
      intro b9 b11 w H  τ
      rw [hG]
      refine t_all [0, 10] (by kernel_rfl) (by simp) ?_; refine all_cons (w_op 0 rfl ?_) ?_
      · refine (o_callR Tryz.func164 rfl rfl rfl (primes_ret _) ?_)
        rintro _ w ⟨rfl, Hc⟩
        replace H := H.call Hc
        rw [List.append_nil] at H
        exact ⟨H.sub (List.Sublist.cons_cons _ (List.nil_sublist _)), lat_use hG (s_10101  b9 b11 _ H ) ⟨rfl, rfl, rfl, rfl, rfl, rfl, trivial⟩⟩
      refine all_cons (w_op 10 rfl ?_) ?_
      · refine (o_alloc H zc232 (fun b10 w H _ => ?_))
        exact ⟨H.sub (List.Sublist.cons_cons _ (List.nil_sublist _)), lat_use hG (s_00111 b9 b10 b11 _ (H.perm (perm_ins [.blk hb (hashC st wt m) 208, .blk b9 (List.replicate 64 (Value.int .u32 0)) 232] [.blk b11 (List.replicate 8 (Value.int .u32 0)) 205] (.blk b10 (List.replicate 64 (Value.int .u32 0)) 232))) ) ⟨rfl, rfl, rfl, rfl, rfl, rfl, trivial⟩⟩
      exact all_nil
    have s_00100 : ∀ (b9 : Nat) (w : World), Hp w0 w [hb] [.blk hb (hashC st wt m) 208, .blk b9 (List.replicate 64 (Value.int .u32 0)) 232] → ∀ τ, G 7 #[false, true, true, true, false, true, true, true, true, true, false, false, false, false, false] (ups τ [(0, .pointer (some ⟨hb, 0, none⟩)), (14, .pointer (some ⟨hb, 0 + 9, none⟩)), (19, .agg (st.l.map V32).toArray), (2, .pointer (some ⟨b9, 0, none⟩))]) w := by
      intro b9 w H  τ
      rw [hG]
      refine t_all [0, 10, 11] (by kernel_rfl) (by simp) ?_; refine all_cons (w_op 0 rfl ?_) ?_
      · refine (o_callR Tryz.func164 rfl rfl rfl (primes_ret _) ?_)
        rintro _ w ⟨rfl, Hc⟩
        replace H := H.call Hc
        rw [List.append_nil] at H
        exact ⟨H.sub (List.Sublist.cons_cons _ (List.nil_sublist _)), lat_use hG (s_10100  b9 _ H ) ⟨rfl, rfl, rfl, rfl, rfl, trivial⟩⟩
      refine all_cons (w_op 10 rfl ?_) ?_
      · refine (o_alloc H zc232 (fun b10 w H _ => ?_))
        exact ⟨H.sub (List.Sublist.cons_cons _ (List.nil_sublist _)), lat_use hG (s_00110 b9 b10 _ (H.perm (perm_ins [.blk hb (hashC st wt m) 208, .blk b9 (List.replicate 64 (Value.int .u32 0)) 232] [] (.blk b10 (List.replicate 64 (Value.int .u32 0)) 232))) ) ⟨rfl, rfl, rfl, rfl, rfl, trivial⟩⟩
      refine all_cons (w_op 11 rfl ?_) ?_
      · refine (o_alloc H zc205 (fun b11 w H _ => ?_))
        exact ⟨H.sub (List.Sublist.cons_cons _ (List.nil_sublist _)), lat_use hG (s_00101 b9 b11 _ (H.perm (perm_ins [.blk hb (hashC st wt m) 208, .blk b9 (List.replicate 64 (Value.int .u32 0)) 232] [] (.blk b11 (List.replicate 8 (Value.int .u32 0)) 205))) ) ⟨rfl, rfl, rfl, rfl, rfl, trivial⟩⟩
      exact all_nil
    have s_00011 : ∀ (b10 : Nat) (b11 : Nat) (w : World), Hp w0 w [hb] [.blk hb (hashC st wt m) 208, .blk b10 (List.replicate 64 (Value.int .u32 0)) 232, .blk b11 (List.replicate 8 (Value.int .u32 0)) 205] → ∀ τ, G 6 #[false, true, true, true, false, true, true, true, true, false, true, true, false, false, false] (ups τ [(0, .pointer (some ⟨hb, 0, none⟩)), (14, .pointer (some ⟨hb, 0 + 9, none⟩)), (19, .agg (st.l.map V32).toArray), (3, .pointer (some ⟨b10, 0, none⟩)), (4, .pointer (some ⟨b11, 0, none⟩))]) w := by
      intro b10 b11 w H  τ
      rw [hG]
      refine t_all [0, 9] (by kernel_rfl) (by simp) ?_; refine all_cons (w_op 0 rfl ?_) ?_
      · refine (o_callR Tryz.func164 rfl rfl rfl (primes_ret _) ?_)
        rintro _ w ⟨rfl, Hc⟩
        replace H := H.call Hc
        rw [List.append_nil] at H
        exact ⟨H.sub (List.Sublist.cons_cons _ (List.nil_sublist _)), lat_use hG (s_10011  b10 b11 _ H ) ⟨rfl, rfl, rfl, rfl, rfl, rfl, trivial⟩⟩
      refine all_cons (w_op 9 rfl ?_) ?_
      · refine (o_alloc H zc232 (fun b9 w H _ => ?_))
        exact ⟨H.sub (List.Sublist.cons_cons _ (List.nil_sublist _)), lat_use hG (s_00111 b9 b10 b11 _ (H.perm (perm_ins [.blk hb (hashC st wt m) 208] [.blk b10 (List.replicate 64 (Value.int .u32 0)) 232, .blk b11 (List.replicate 8 (Value.int .u32 0)) 205] (.blk b9 (List.replicate 64 (Value.int .u32 0)) 232))) ) ⟨rfl, rfl, rfl, rfl, rfl, rfl, trivial⟩⟩
      exact all_nil
    have s_00010 : ∀ (b10 : Nat) (w : World), Hp w0 w [hb] [.blk hb (hashC st wt m) 208, .blk b10 (List.replicate 64 (Value.int .u32 0)) 232] → ∀ τ, G 7 #[false, true, true, true, false, true, true, true, true, false, true, false, false, false, false] (ups τ [(0, .pointer (some ⟨hb, 0, none⟩)), (14, .pointer (some ⟨hb, 0 + 9, none⟩)), (19, .agg (st.l.map V32).toArray), (3, .pointer (some ⟨b10, 0, none⟩))]) w := by
      intro b10 w H  τ
      rw [hG]
      refine t_all [0, 9, 11] (by kernel_rfl) (by simp) ?_; refine all_cons (w_op 0 rfl ?_) ?_
      · refine (o_callR Tryz.func164 rfl rfl rfl (primes_ret _) ?_)
        rintro _ w ⟨rfl, Hc⟩
        replace H := H.call Hc
        rw [List.append_nil] at H
        exact ⟨H.sub (List.Sublist.cons_cons _ (List.nil_sublist _)), lat_use hG (s_10010  b10 _ H ) ⟨rfl, rfl, rfl, rfl, rfl, trivial⟩⟩
      refine all_cons (w_op 9 rfl ?_) ?_
      · refine (o_alloc H zc232 (fun b9 w H _ => ?_))
        exact ⟨H.sub (List.Sublist.cons_cons _ (List.nil_sublist _)), lat_use hG (s_00110 b9 b10 _ (H.perm (perm_ins [.blk hb (hashC st wt m) 208] [.blk b10 (List.replicate 64 (Value.int .u32 0)) 232] (.blk b9 (List.replicate 64 (Value.int .u32 0)) 232))) ) ⟨rfl, rfl, rfl, rfl, rfl, trivial⟩⟩
      refine all_cons (w_op 11 rfl ?_) ?_
      · refine (o_alloc H zc205 (fun b11 w H _ => ?_))
        exact ⟨H.sub (List.Sublist.cons_cons _ (List.nil_sublist _)), lat_use hG (s_00011 b10 b11 _ (H.perm (perm_ins [.blk hb (hashC st wt m) 208, .blk b10 (List.replicate 64 (Value.int .u32 0)) 232] [] (.blk b11 (List.replicate 8 (Value.int .u32 0)) 205))) ) ⟨rfl, rfl, rfl, rfl, rfl, trivial⟩⟩
      exact all_nil
    have s_00001 : ∀ (b11 : Nat) (w : World), Hp w0 w [hb] [.blk hb (hashC st wt m) 208, .blk b11 (List.replicate 8 (Value.int .u32 0)) 205] → ∀ τ, G 7 #[false, true, true, true, false, true, true, true, true, false, false, true, false, false, false] (ups τ [(0, .pointer (some ⟨hb, 0, none⟩)), (14, .pointer (some ⟨hb, 0 + 9, none⟩)), (19, .agg (st.l.map V32).toArray), (4, .pointer (some ⟨b11, 0, none⟩))]) w := by
      intro b11 w H  τ
      rw [hG]
      refine t_all [0, 9, 10] (by kernel_rfl) (by simp) ?_; refine all_cons (w_op 0 rfl ?_) ?_
      · refine (o_callR Tryz.func164 rfl rfl rfl (primes_ret _) ?_)
        rintro _ w ⟨rfl, Hc⟩
        replace H := H.call Hc
        rw [List.append_nil] at H
        exact ⟨H.sub (List.Sublist.cons_cons _ (List.nil_sublist _)), lat_use hG (s_10001  b11 _ H ) ⟨rfl, rfl, rfl, rfl, rfl, trivial⟩⟩
      refine all_cons (w_op 9 rfl ?_) ?_
      · refine (o_alloc H zc232 (fun b9 w H _ => ?_))
        exact ⟨H.sub (List.Sublist.cons_cons _ (List.nil_sublist _)), lat_use hG (s_00101 b9 b11 _ (H.perm (perm_ins [.blk hb (hashC st wt m) 208] [.blk b11 (List.replicate 8 (Value.int .u32 0)) 205] (.blk b9 (List.replicate 64 (Value.int .u32 0)) 232))) ) ⟨rfl, rfl, rfl, rfl, rfl, trivial⟩⟩
      refine all_cons (w_op 10 rfl ?_) ?_
      · refine (o_alloc H zc232 (fun b10 w H _ => ?_))
        exact ⟨H.sub (List.Sublist.cons_cons _ (List.nil_sublist _)), lat_use hG (s_00011 b10 b11 _ (H.perm (perm_ins [.blk hb (hashC st wt m) 208] [.blk b11 (List.replicate 8 (Value.int .u32 0)) 205] (.blk b10 (List.replicate 64 (Value.int .u32 0)) 232))) ) ⟨rfl, rfl, rfl, rfl, rfl, trivial⟩⟩
      exact all_nil
    have s_00000 : ∀  (w : World), Hp w0 w [hb] [.blk hb (hashC st wt m) 208] → ∀ τ, G 8 #[false, true, true, true, false, true, true, true, true, false, false, false, false, false, false] (ups τ [(0, .pointer (some ⟨hb, 0, none⟩)), (14, .pointer (some ⟨hb, 0 + 9, none⟩)), (19, .agg (st.l.map V32).toArray)]) w := by
      intro  w H  τ
      rw [hG]
      refine t_all [0, 9, 10, 11] (by kernel_rfl) (by simp) ?_; refine all_cons (w_op 0 rfl ?_) ?_
      · refine (o_callR Tryz.func164 rfl rfl rfl (primes_ret _) ?_)
        rintro _ w ⟨rfl, Hc⟩
        replace H := H.call Hc
        rw [List.append_nil] at H
        exact ⟨H.sub (List.Sublist.cons_cons _ (List.nil_sublist _)), lat_use hG (s_10000  _ H ) ⟨rfl, rfl, rfl, rfl, trivial⟩⟩
      refine all_cons (w_op 9 rfl ?_) ?_
      · refine (o_alloc H zc232 (fun b9 w H _ => ?_))
        exact ⟨H.sub (List.Sublist.cons_cons _ (List.nil_sublist _)), lat_use hG (s_00100 b9 _ (H.perm (perm_ins [.blk hb (hashC st wt m) 208] [] (.blk b9 (List.replicate 64 (Value.int .u32 0)) 232))) ) ⟨rfl, rfl, rfl, rfl, trivial⟩⟩
      refine all_cons (w_op 10 rfl ?_) ?_
      · refine (o_alloc H zc232 (fun b10 w H _ => ?_))
        exact ⟨H.sub (List.Sublist.cons_cons _ (List.nil_sublist _)), lat_use hG (s_00010 b10 _ (H.perm (perm_ins [.blk hb (hashC st wt m) 208] [] (.blk b10 (List.replicate 64 (Value.int .u32 0)) 232))) ) ⟨rfl, rfl, rfl, rfl, trivial⟩⟩
      refine all_cons (w_op 11 rfl ?_) ?_
      · refine (o_alloc H zc205 (fun b11 w H _ => ?_))
        exact ⟨H.sub (List.Sublist.cons_cons _ (List.nil_sublist _)), lat_use hG (s_00001 b11 _ (H.perm (perm_ins [.blk hb (hashC st wt m) 208] [] (.blk b11 (List.replicate 8 (Value.int .u32 0)) 205))) ) ⟨rfl, rfl, rfl, rfl, trivial⟩⟩
      exact all_nil
    exact lat_fit (s_00000 _ H) ⟨rfl, rfl, rfl, trivial⟩
  · as_aux_lemma =>
    rintro ⟨b2, b3, b4⟩ τ w H
    have hsl := sched_length wt 48
    have hcomp : comp st wt = addS st (rnds (sched wt 48) st 64) := rfl
    simp only [hcomp]
    clear hcomp hl48 h1c hH
    obtain ⟨sc, hsc⟩ : ∃ sc, sched wt 48 = sc := ⟨_, rfl⟩
    simp only [hsc] at H hsl ⊢
    clear hsc
    refine rG ?_; refine l_op (o_mv ?_); refine eN ?_
    refine qB ?_; refine c_loop (ι := Nat) (fun i => [(20, VI i), (2, .pointer (some ⟨b2, 0, none⟩)), (3, .pointer (some ⟨b3, 0, none⟩)), (4, .pointer (some ⟨b4, 0, none⟩)), (0, .pointer (some ⟨hb, 0, none⟩))])
      (fun i w => i ≤ 64 ∧ Hp w0 w [hb] [.blk hb (hashC st wt m) 208, .blk b2 (pad64 primeWords) 232, .blk b3 (pad64 sc) 232, .blk b4 ((rnds sc st i).l.map V32) 205])
      (fun i => 64 - i) 0 ⟨rfl, rfl, rfl, rfl, rfl, trivial⟩ ⟨by omega, by rw [rnds]; exact H⟩ ?_
    clear H
    rintro i τ w ⟨hi, H⟩
    have hpw : primeWords.length = 64 := rfl
    refine rG ?_; refine l_op (o_bin rfl rfl (fun _ => b_lss) ?_); refine eN ?_
    repeat refine c_seq ?_
    refine c_ifD rfl (fun hlt => ?_) (fun hlt => ?_)
    · have hlt' : i < 64 := by omega
      have g1 : ∀ j, j < 64 → (pad64 primeWords)[j]? = some (V32 (primeWords.getD j 0)) := fun j hj => pad64_get _ _ oM
      have g2 : ∀ j, j < 64 → (pad64 sc)[j]? = some (V32 (sc.getD j 0)) := fun j hj => pad64_get _ _ oM
      have x1 : 0 + (i : Int).toNat * 1 = i := by omega
      refine c_skip ?_; refine qB ?_; refine rG ?_; refine l_op (o_mv ?_); refine l_op (o_as ?_); refine eN ?_
      repeat refine c_seq ?_
      refine c_still mixed (by kernel_rfl) ?_; replace H := H.drew
      refine s_op (r_ia rfl rfl ar205 oM oM) ?_; refine s_op (r_ld H (i := 3) rfl rfl ct204 rfl) ?_; refine s_call Tryz.func166 rfl rfl rfl (rot_ret _ 26 _ oM oM _ rfl) ?_
      refine s_op (r_ia rfl rfl ar205 oM oM) ?_; refine s_op (r_ld H (i := 3) rfl rfl ct204 rfl) ?_; refine s_call Tryz.func166 rfl rfl rfl (rot_ret _ 21 _ oM oM _ rfl) ?_
      refine s_op (r_bin rfl rfl (fun _ => b_xor_u32)) ?_; refine s_op (r_ia rfl rfl ar205 oM oM) ?_; refine s_op (r_ld H (i := 3) rfl rfl ct204 rfl) ?_; refine s_call Tryz.func166 rfl rfl rfl (rot_ret _ 7 _ oM oM _ rfl) ?_
      refine s_op (r_bin rfl rfl (fun _ => b_xor_u32)) ?_; refine s_op (r_as) ?_; refine s_nil ?_; repeat refine c_seq ?_
      refine c_still mixed (by kernel_rfl) ?_; replace H := H.drew
      refine s_op (r_ia rfl rfl ar205 oM oM) ?_; refine s_op (r_ld H (i := 3) rfl rfl ct204 rfl) ?_; refine s_op (r_mv) ?_; refine s_op (r_bin rfl rfl (fun _ => b_add_u32)) ?_; refine s_op (r_ia rfl rfl ar205 oM oM) ?_; refine s_op (r_ld H (i := 3) rfl rfl ct204 rfl) ?_; refine s_op (r_ia rfl rfl ar205 oM oM) ?_; refine s_op (r_ld H (i := 3) rfl rfl ct204 rfl) ?_; refine s_op (r_bin rfl rfl (fun _ => b_and_u32)) ?_; refine s_op (r_ia rfl rfl ar205 oM oM) ?_; refine s_op (r_ld H (i := 3) rfl rfl ct204 rfl) ?_; refine s_op (r_un rfl (fun _ => b_not_u32)) ?_; refine s_op (r_ia rfl rfl ar205 oM oM) ?_; refine s_op (r_ld H (i := 3) rfl rfl ct204 rfl) ?_; refine s_op (r_bin rfl rfl (fun _ => b_and_u32)) ?_; refine s_op (r_bin rfl rfl (fun _ => b_xor_u32)) ?_; refine s_op (r_bin rfl rfl (fun _ => b_add_u32)) ?_; refine s_op (r_mv) ?_; refine s_op (r_ia rfl rfl ar232 oM oM) ?_; refine s_op (r_ld H (i := 1) rfl rfl ct204 (by rw [x1]; exact g1 i hlt')) ?_; refine s_op (r_bin rfl rfl (fun _ => b_add_u32)) ?_; refine s_op (r_mv) ?_; refine s_op (r_ia rfl rfl ar232 oM oM) ?_; refine s_op (r_ld H (i := 2) rfl rfl ct204 (by rw [x1]; exact g2 i hlt')) ?_; refine s_op (r_bin rfl rfl (fun _ => b_add_u32)) ?_; refine s_op (r_as) ?_; refine s_nil ?_; repeat refine c_seq ?_
      refine c_still mixed (by kernel_rfl) ?_; replace H := H.drew
      refine s_op (r_ia rfl rfl ar205 oM oM) ?_; refine s_op (r_ld H (i := 3) rfl rfl ct204 rfl) ?_; refine s_call Tryz.func166 rfl rfl rfl (rot_ret _ 30 _ oM oM _ rfl) ?_
      refine s_op (r_ia rfl rfl ar205 oM oM) ?_; refine s_op (r_ld H (i := 3) rfl rfl ct204 rfl) ?_; refine s_call Tryz.func166 rfl rfl rfl (rot_ret _ 19 _ oM oM _ rfl) ?_
      refine s_op (r_bin rfl rfl (fun _ => b_xor_u32)) ?_; refine s_op (r_ia rfl rfl ar205 oM oM) ?_; refine s_op (r_ld H (i := 3) rfl rfl ct204 rfl) ?_; refine s_call Tryz.func166 rfl rfl rfl (rot_ret _ 10 _ oM oM _ rfl) ?_
      refine s_op (r_bin rfl rfl (fun _ => b_xor_u32)) ?_; refine s_op (r_as) ?_; refine s_nil ?_; refine rG ?_; refine l_op (o_mv ?_); refine l_op (o_ia rfl rfl ar205 oM oM ?_); refine l_op (o_ld H (i := 3) rfl rfl ct204 rfl ?_); refine l_op (o_ia rfl rfl ar205 oM oM ?_); refine l_op (o_ld H (i := 3) rfl rfl ct204 rfl ?_); refine l_op (o_bin rfl rfl (fun _ => b_and_u32) ?_); refine l_op (o_ia rfl rfl ar205 oM oM ?_); refine l_op (o_ld H (i := 3) rfl rfl ct204 rfl ?_); refine l_op (o_ia rfl rfl ar205 oM oM ?_); refine l_op (o_ld H (i := 3) rfl rfl ct204 rfl ?_); refine l_op (o_bin rfl rfl (fun _ => b_and_u32) ?_); refine l_op (o_bin rfl rfl (fun _ => b_xor_u32) ?_); refine l_op (o_ia rfl rfl ar205 oM oM ?_); refine l_op (o_ld H (i := 3) rfl rfl ct204 rfl ?_); refine l_op (o_ia rfl rfl ar205 oM oM ?_); refine l_op (o_ld H (i := 3) rfl rfl ct204 rfl ?_); refine l_op (o_bin rfl rfl (fun _ => b_and_u32) ?_); refine l_op (o_bin rfl rfl (fun _ => b_xor_u32) ?_); refine l_op (o_bin rfl rfl (fun _ => b_add_u32) ?_); refine l_op (o_as ?_); refine eN ?_
      refine rG ?_; refine l_op (o_mv ?_); refine l_op (o_mv ?_); refine l_op (o_bin rfl rfl (fun _ => b_add_u32) ?_); refine l_op (o_ia rfl rfl ar205 oM oM ?_); refine l_op (o_ld H (i := 3) rfl rfl ct204 rfl ?_); refine l_op (o_ia rfl rfl ar205 oM oM ?_); refine l_op (o_ld H (i := 3) rfl rfl ct204 rfl ?_); refine l_op (o_ia rfl rfl ar205 oM oM ?_); refine l_op (o_ld H (i := 3) rfl rfl ct204 rfl ?_); refine l_op (o_ia rfl rfl ar205 oM oM ?_); refine l_op (o_ld H (i := 3) rfl rfl ct204 rfl ?_); refine l_op (o_mv ?_); refine l_op (o_bin rfl rfl (fun _ => b_add_u32) ?_); refine l_op (o_ia rfl rfl ar205 oM oM ?_); refine l_op (o_ld H (i := 3) rfl rfl ct204 rfl ?_); refine l_op (o_ia rfl rfl ar205 oM oM ?_); refine l_op (o_ld H (i := 3) rfl rfl ct204 rfl ?_); refine l_op (o_ia rfl rfl ar205 oM oM ?_); refine l_op (o_ld H (i := 3) rfl rfl ct204 rfl ?_); refine l_op (o_bld' (pv := en 0 ((rnd (rnds sc st i) (primeWords.getD i 0) (sc.getD i 0)).l.map V32)) bd205 rfl (fill_en _ (all_V32 _) rfl) ?_); refine l_op (o_stw H (i := 3) rfl rfl rfl (by rw [cs205]; rfl) (all_V32 _) (by rfl) (fun w H => ?_)); refine eN ?_
      have e9 := rnds.eq_2 sc st i
      refine rG ?_; refine l_op (o_bin rfl rfl (fun _ => b_add oM oM) ?_); refine l_op (o_mv ?_); refine eN ?_
      refine round_end (i + 1) ?_ ?_ ?_
      · exact ⟨rfl, rfl, rfl, rfl, rfl, trivial⟩
      · exact ⟨by omega, by rw [e9]; exact H⟩
      · show 64 - (i + 1) < 64 - i; omega
    · have hi64 : i = 64 := by omega
      subst hi64
      clear hlt hi
      obtain ⟨rr, hrr⟩ : ∃ rr, rnds sc st 64 = rr := ⟨_, rfl⟩
      simp only [hrr] at H ⊢
      clear hrr
      refine c_exit ?_; refine rG ?_; refine l_op (o_mv ?_); refine eN ?_
      refine qB ?_; refine c_loop (ι := Nat) (fun i => [(110, VI i), (4, .pointer (some ⟨b4, 0, none⟩)), (0, .pointer (some ⟨hb, 0, none⟩))])
        (fun i w => i ≤ 8 ∧ Hp w0 w [hb] [.blk hb (hashL (parts (addS st rr).l st.l i) wt m) 208, .blk b2 (pad64 primeWords) 232, .blk b3 (pad64 sc) 232, .blk b4 (rr.l.map V32) 205])
        (fun i => 8 - i) 0 ⟨rfl, rfl, rfl, trivial⟩ ⟨by omega, H⟩ ?_
      clear H
      rintro i τ w ⟨hi, H⟩
      refine rG ?_; refine l_op (o_bin rfl rfl (fun _ => b_lss) ?_); refine eN ?_
      repeat refine c_seq ?_
      refine c_ifD rfl (fun hlt => ?_) (fun hlt => ?_)
      · have hlt' : i < 8 := by omega
        have h8 : (addS st rr).l.length = 8 := rfl
        have h8' : st.l.length = 8 := rfl
        have hpl8 : (parts (addS st rr).l st.l i).length = 8 := parts_length _ _ i rfl oM
        have x1 : 0 + 1 + (i : Int).toNat * 1 = 1 + i := by omega
        have x2 : 0 + (i : Int).toNat * 1 = i := by omega
        have g1 : (rr.l.map V32)[i]? = some (V32 (rr.l.getD i 0)) := by
          have : i < rr.l.length := hlt'
          simp [this]
        refine c_skip ?_; refine qB ?_; refine rG ?_; refine l_op (o_mv ?_); refine l_op (o_as ?_); refine eN ?_
        repeat refine c_seq ?_
        refine c_tail 13 mixed (by kernel_rfl) ?_; replace H := H.drew
        refine s_op (r_mv) ?_; refine s_op (r_mv) ?_; refine s_op (r_nilc rfl) ?_; refine s_op (r_fa rfl fo208_1) ?_; refine s_op (r_ia rfl rfl ar205 oM oM) ?_; refine s_op (r_ld H (i := 0) rfl rfl ct204 (by rw [x1]; exact hashL_get _ _ _ i oM)) ?_; refine s_op (r_mv) ?_; refine s_op (r_ia rfl rfl ar205 oM oM) ?_; refine s_op (r_ld H (i := 3) rfl rfl ct204 (by rw [x2]; exact g1)) ?_; refine s_op (r_bin rfl rfl (fun _ => b_add_u32)) ?_; refine s_op (r_nilc rfl) ?_; refine s_op (r_fa rfl fo208_1) ?_; refine s_op (r_ia rfl rfl ar205 oM oM) ?_; refine s_nil ?_; refine l_op (o_st H (i := 0) (v := V32 ((addS st rr).l.getD i 0)) rfl rfl ?_ cs204 rfl (by rw [x1]; simp [hashL, hpl8]; omega) (fun w H => ?_))
        · show V32 ((parts (addS st rr).l st.l i).getD i 0 + rr.l.getD i 0) = _
          rw [parts_get _ _ i (h8.trans h8'.symm) oM, add_get _ _ i hlt']
        refine eN ?_
        have e : (hashL (parts (addS st rr).l st.l i) wt m).set (0 + 1 + (i : Int).toNat * 1) (V32 ((addS st rr).l.getD i 0)) = hashL (parts (addS st rr).l st.l (i + 1)) wt m := by
          rw [x1, hashL_set _ _ _ i _ oM, parts_set _ _ i (h8.trans h8'.symm) oM]
        rw [e] at H
        refine rG ?_; refine l_op (o_bin rfl rfl (fun _ => b_add oM oM) ?_); refine l_op (o_mv ?_); refine eN ?_
        refine round_end (i + 1) ?_ ?_ ?_
        · exact ⟨rfl, rfl, rfl, trivial⟩
        · exact ⟨by omega, H⟩
        · show 8 - (i + 1) < 8 - i; omega
      · have hi8 : i = 8 := by omega
        subst hi8
        refine c_exit ?_
        simp only [Exit.then, Exit.inBlock, ↓reduceIte]
        refine e_norm (e_ret0 Tryz.results145 ?_); refine ⟨_, rfl, rfl, ?_⟩
        exact H.sub (List.Sublist.cons_cons _ (List.nil_sublist _))
end Go.Proofs.YtmiabahejnjhiaaGreatDoor
