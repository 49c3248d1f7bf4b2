import Derived.Test.YtjmbbhnpfmblpaaProg
import Derived.WalkKit
import Derived.Calls
import Derived.OrdersHeld
/- A small program logic of our own over the kit's 'Code.wp': frames as functions of the slot, one rule an operation. No conditions: a library. -/
namespace Go.Proofs.Ytjmbbhnpfmblpaa
open Go

/-- A frame of n slots, as a function of the slot. -/
def mk (n : Nat) (σ : Nat → Value) : Act := ⟨Array.ofFn (n := n) (fun i => σ i.val), []⟩
def up (σ : Nat → Value) (d : Nat) (v : Value) : Nat → Value := fun t => bif Nat.beq t d then v else σ t
def ev (n : Nat) (σ : Nat → Value) : Operand → Value
  | .tmp t => bif Nat.blt t n then σ t else undef
  | .const v => v
  | .global g => .pointer (some ⟨g, 0, none⟩)
  | .func f => .func (.func f) #[] #[]

def evs (n : Nat) (σ : Nat → Value) : List Operand → List Value
  | [] => []
  | x :: l => ev n σ x :: evs n σ l
theorem evs_eq (n σ) : ∀ l : List Operand, evs n σ l = l.map (ev n σ)
  | [] => rfl
  | x :: l => by rw [evs, evs_eq n σ l, List.map_cons]
def pvs (n : Nat) (σ : Nat → Value) : List (Nat × Operand) → List (Nat × Value)
  | [] => []
  | x :: l => (x.1, ev n σ x.2) :: pvs n σ l
theorem pvs_eq (n σ) : ∀ l : List (Nat × Operand), pvs n σ l = l.map fun (i, x) => (i, ev n σ x)
  | [] => rfl
  | x :: l => by rw [pvs, pvs_eq n σ l, List.map_cons]
theorem mk_put (n σ d v) : (mk n σ).put (some d) v = mk n (up σ d v) := by
  simp only [Act.put, mk, Act.mk.injEq, and_true]
  apply Array.ext
  · simp
  · intro i h1 h2
    simp only [Array.getElem_ofFn, up]
    rw [Array.getElem_setIfInBounds]
    · by_cases h : d = i
      · subst h; simp
      · have : Nat.beq i d = false := by
          cases hb : Nat.beq i d
          · rfl
          · exact absurd (Nat.eq_of_beq_eq_true hb).symm h
        rw [if_neg h, this]
        exact Array.getElem_ofFn _
    · simpa using h2
theorem mk_put_none (n σ v) : (mk n σ).put none v = mk n σ := rfl
theorem mk_eval (n σ) (x : Operand) : (mk n σ).eval x = ev n σ x := by
  cases x <;> simp only [Act.eval, ev, mk]
  rename_i t
  by_cases h : t < n
  · have : Nat.blt t n = true := by rw [Nat.blt_eq]; exact h
    simp [this, h]
  · have : Nat.blt t n = false := by
      cases hb : Nat.blt t n
      · rfl
      · exact absurd (by rw [Nat.blt_eq] at hb; exact hb) h
    simp [this, h]
theorem mk_evalf (n σ) : (mk n σ).eval = ev n σ := funext (mk_eval n σ)
theorem up_self (σ : Nat → Value) (d : Nat) : up σ d (σ d) = σ := by
  funext t
  simp only [up]
  cases hb : Nat.beq t d
  · rfl
  · rw [Nat.eq_of_beq_eq_true hb]; rfl
theorem up_of (σ : Nat → Value) (d : Nat) (v : Value) (h : σ d = v) : up σ d v = σ := by subst h; exact up_self σ d

/-- several slots at once. -/
def ups (σ : Nat → Value) : List (Nat × Value) → (Nat → Value)
  | [] => σ
  | p :: l => up (ups σ l) p.1 p.2
def fits (σ : Nat → Value) : List (Nat × Value) → Prop
  | [] => True
  | p :: l => σ p.1 = p.2 ∧ fits σ l
theorem ups_of_fits (σ : Nat → Value) : ∀ l, fits σ l → ups σ l = σ
  | [], _ => rfl
  | p :: l, h => by
    rw [ups, ups_of_fits σ l h.2]
    exact up_of _ _ _ h.1

/-- A function's frame at its beginning. -/
theorem enter_mk (args : List Value) (n : Nat) (h : args.length ≤ n) :
    (⟨args.toArray ++ Array.replicate (n - args.toArray.size) undef, []⟩ : Act) = mk n (fun t => args.getD t undef) := by
  simp only [mk, Act.mk.injEq, and_true]
  apply Array.ext
  · simp; omega
  · intro i h1 h2
    simp only [Array.getElem_ofFn]
    by_cases hi : i < args.length
    · rw [Array.getElem_append_left (by simpa using hi)]
      simp [List.getD, hi]
    · rw [Array.getElem_append_right (by simpa using hi)]
      simp [List.getD, List.getElem?_eq_none (Nat.le_of_not_lt hi)]

theorem calls_mk {P : Program} {f : FuncId} {fn : Func} {c : Code} {args : List Value} {w : World} {R : Ending → World → Prop} {n : Nat}
    (hf : P.funcs[f]? = some fn) (hb : fn.body = some c) (hn : fn.ntmps = n) (hle : args.length ≤ n)
    (h : c.wp P (bodyPost P fn R) (mk n (fun t => args.getD t undef)) w) : Calls P f args.toArray w R := by
  refine calls_of_wp hf hb ?_
  rw [hn, enter_mk args n hle]
  exact h

section
variable {P : Program} {Q : Exit → Act → World → Prop} {n : Nat} {σ : Nat → Value} {w : World} {K : Act → World → Prop}
  {ty : TypeId} {pos : String} {aft : Array Edge} {g : Option (Nat × Bool)} {d : Nat}

/-! ### control -/
theorem c_region {id : Nat} {l : List Oper} {a : Act} (h : wpList P l.toArray Q l a w) : (Code.region id l.toArray false).wp P Q a w := wp_region_lit h
theorem c_seq {x y : Code} {a : Act} (h : x.wp P (Exit.then (y.wp P Q) Q) a w) : (Code.seq x y).wp P Q a w := wp_seq h
/-- one operation of a list, not guarded. -/
theorem l_op {ops : Array Oper} {rest : List Oper} {op : Op} {dst : Option Tmp} {a : Act}
    (h : Oper.wp P ⟨dst, op, ty, pos, aft, none⟩ a w (wpList P ops Q rest) Q) : wpList P ops Q (⟨dst, op, ty, pos, aft, none⟩ :: rest) a w := by
  unfold wpList
  rw [if_pos (by simp [Region.wanted])]
  exact .inl h
theorem yielded_mk (ops : Array Oper) (j d : Nat) (h : (ops[j]?).bind (·.dst) = some d) (b : Bool) (hd : Nat.blt d n = true) (hv : σ d = .bool b) :
    yielded ops (mk n σ).tmps j = some b := by
  have hd' : d < n := by rw [Nat.blt_eq] at hd; exact hd
  unfold yielded
  simp [h, mk, hd', hv]
/-- .. guarded, and wanted. -/
theorem l_yes {ops : Array Oper} {rest : List Oper} {op : Op} {dst : Option Tmp} {j e : Nat} {b : Bool}
    (he : (ops[j]?).bind (·.dst) = some e) (hb : Nat.blt e n = true) (hv : σ e = .bool b)
    (h : Oper.wp P ⟨dst, op, ty, pos, aft, some (j, b)⟩ (mk n σ) w (wpList P ops Q rest) Q) : wpList P ops Q (⟨dst, op, ty, pos, aft, some (j, b)⟩ :: rest) (mk n σ) w := by
  have hw := yielded_mk ops j e he b hb hv
  unfold wpList
  rw [if_pos (by simp [Region.wanted, hw])]
  exact .inl h
/-- .. guarded, and not wanted. -/
theorem l_no {ops : Array Oper} {rest : List Oper} {op : Op} {j e : Nat} {b c : Bool}
    (he : (ops[j]?).bind (·.dst) = some e) (hb : Nat.blt e n = true) (hv : σ e = .bool c) (hc : (c == b) = false)
    (h : wpList P ops Q rest (mk n (up σ d undef)) w) : wpList P ops Q (⟨some d, op, ty, pos, aft, some (j, b)⟩ :: rest) (mk n σ) w := by
  have hw := yielded_mk ops j e he c hb hv
  unfold wpList
  rw [if_neg (by simp [Region.wanted, hw]; intro h'; subst h'; simp at hc), mk_put]
  exact h
theorem l_end {ops : Array Oper} {y : Code} {a : Act} (h : y.wp P Q a w) : wpList P ops (Exit.then (y.wp P Q) Q) [] a w := h
theorem l_nil {ops : Array Oper} {a : Act} (h : Q .normal a w) : wpList P ops Q [] a w := h

theorem c_if {c : Operand} {x y : Code} {b : Bool} (hc : ev n σ c = .bool b) (ht : b = true → x.wp P Q (mk n σ) w) (hf : b = false → y.wp P Q (mk n σ) w) :
    (Code.cond c x y).wp P Q (mk n σ) w := wp_cond_split ((mk_eval n σ c).trans hc) ht hf
theorem c_ifD {c : Operand} {x y : Code} {p : Prop} [Decidable p] (hc : ev n σ c = .bool (decide p)) (ht : p → x.wp P Q (mk n σ) w) (hf : ¬ p → y.wp P Q (mk n σ) w) :
    (Code.cond c x y).wp P Q (mk n σ) w := c_if hc (fun h => ht (of_decide_eq_true h)) (fun h => hf (of_decide_eq_false h))
theorem c_yes {c : Operand} {x y : Code} (hc : ev n σ c = .bool true) (ht : x.wp P Q (mk n σ) w) : (Code.cond c x y).wp P Q (mk n σ) w :=
  wp_cond_true ((mk_eval n σ c).trans hc) ht
theorem c_no {c : Operand} {x y : Code} (hc : ev n σ c = .bool false) (ht : y.wp P Q (mk n σ) w) : (Code.cond c x y).wp P Q (mk n σ) w :=
  wp_cond_false ((mk_eval n σ c).trans hc) ht
theorem c_skip {a : Act} (h : Q .normal a w) : Code.skip.wp P Q a w := wp_skip h
theorem c_ret {a : Act} (h : Q .ret a w) : Code.ret.wp P Q a w := wp_ret h
theorem c_exit {id : Nat} {a : Act} (h : Q (.exit id) a w) : (Code.exit id).wp P Q a w := wp_exit h
theorem c_block {id : Nat} {c : Code} {a : Act} (h : c.wp P (Exit.inBlock id Q) a w) : (Code.block id c).wp P Q a w := wp_block h

/-- A cut: of the frame only the listed slots are kept. -/
theorem cut {c : Code} {ι : Type} (pat : ι → List (Nat × Value)) (A : ι → World → Prop) (i : ι) (hp : fits σ (pat i)) (hA : A i w)
    (h : ∀ i τ w, A i w → c.wp P Q (mk n (ups τ (pat i))) w) : c.wp P Q (mk n σ) w := by
  have := h i σ w hA
  rwa [ups_of_fits σ _ hp] at this

/-- a frame of which the listed slots are known, for some i. -/
def Mid {ι : Type} (n : Nat) (pat : ι → List (Nat × Value)) (A : ι → World → Prop) (a : Act) (w : World) : Prop := ∃ i τ, a = mk n (ups τ (pat i)) ∧ A i w
/-- .. and the measure has gone down. -/
def Rnd {ι : Type} (n : Nat) (pat : ι → List (Nat × Value)) (A : ι → World → Prop) (μ : ι → Nat) (m : Nat) (a : Act) (w : World) : Prop := ∃ j τ, a = mk n (ups τ (pat j)) ∧ A j w ∧ μ j < m
def Exit.mid (M : Act → World → Prop) (Q : Exit → Act → World → Prop) : Exit → Act → World → Prop
  | .normal, a, w => M a w
  | e, a, w => Q e a w
/-- A piece of code that comes to its end, and to a frame of which the listed slots are known. -/
theorem c_piece {c : Code} {ι : Type} (pat : ι → List (Nat × Value)) (A : ι → World → Prop)
    (h1 : c.wp P (Exit.mid (Mid n pat A) Q) (mk n σ) w)
    (h2 : ∀ i τ w, A i w → Q .normal (mk n (ups τ (pat i))) w) : c.wp P Q (mk n σ) w := by
  refine wp_mono h1 fun e a w h => ?_
  cases e <;> simp only [Exit.mid] at h
  case normal => obtain ⟨i, τ, rfl, hA⟩ := h; exact h2 i τ w hA
  all_goals exact h
theorem fit_end {ι : Type} {pat : ι → List (Nat × Value)} {A : ι → World → Prop} (i : ι) (hp : fits σ (pat i)) (hA : A i w) : Mid n pat A (mk n σ) w :=
  ⟨i, σ, by rw [ups_of_fits σ _ hp], hA⟩

theorem least (p : Nat → Prop) : ∀ k, p k → ∃ m, p m ∧ ∀ j, p j → m ≤ j := by
  intro k
  induction k using Nat.strongRecOn with
  | _ k ih =>
    intro hk
    by_cases h : ∃ j, j < k ∧ p j
    · obtain ⟨j, hj, hp⟩ := h; exact ih j hj hp
    · exact ⟨k, hk, fun j hj => Nat.le_of_not_lt fun hlt => h ⟨j, hlt, hj⟩⟩
/-- A loop: what holds of the listed slots and of the world at every head; a measure. -/
theorem c_loop {c : Code} {ι : Type} (pat : ι → List (Nat × Value)) (A : ι → World → Prop) (μ : ι → Nat) (i : ι) (hp : fits σ (pat i)) (hA : A i w)
    (h : ∀ i τ w, A i w → c.wp P (Exit.then (Rnd n pat A μ (μ i)) Q) (mk n (ups τ (pat i))) w) :
    (Code.loop c).wp P Q (mk n σ) w := by
  classical
  let I : Act → World → Prop := fun a w => ∃ i τ, a = mk n (ups τ (pat i)) ∧ A i w
  let p : Act → World → Nat → Prop := fun a w k => ∃ i τ, a = mk n (ups τ (pat i)) ∧ A i w ∧ μ i = k
  have ex : ∀ a w, I a w → ∃ m, p a w m ∧ ∀ k, p a w k → m ≤ k := fun a w ⟨i, τ, h1, h2⟩ => least (p a w) (μ i) ⟨i, τ, h1, h2, rfl⟩
  let M : Act → World → Nat := fun a w => if h : I a w then Classical.choose (ex a w h) else 0
  have hM : ∀ a w, I a w → p a w (M a w) ∧ ∀ k, p a w k → M a w ≤ k := fun a w h => by
    have e : M a w = Classical.choose (ex a w h) := dif_pos h
    rw [e]
    exact Classical.choose_spec (ex a w h)
  refine wp_loop I M ⟨i, σ, by rw [ups_of_fits σ _ hp], hA⟩ ?_
  intro a w hI
  obtain ⟨⟨i, τ, rfl, hAi, hμ⟩, _⟩ := hM a w hI
  refine wp_mono (h i τ w hAi) fun e a' w' hq => ?_
  cases e <;> simp only [Exit.then] at hq ⊢
  case normal =>
    obtain ⟨j, τ', rfl, hAj, hlt⟩ := hq
    have hI' : I (mk n (ups τ' (pat j))) w' := ⟨j, τ', rfl, hAj⟩
    exact ⟨hI', Nat.lt_of_le_of_lt ((hM _ _ hI').2 _ ⟨j, τ', rfl, hAj, rfl⟩) (hμ ▸ hlt)⟩
  all_goals exact hq
theorem round_end {ι : Type} {pat : ι → List (Nat × Value)} {A : ι → World → Prop} {μ : ι → Nat} {m : Nat} (j : ι) (hp : fits σ (pat j)) (hA : A j w) (hμ : μ j < m) :
    Rnd n pat A μ m (mk n σ) w := ⟨j, σ, by rw [ups_of_fits σ _ hp], hA, hμ⟩

/-! ### ends of a function -/
theorem e_ret0 {fn : Func} {R : Ending → World → Prop} (h : fn.results = #[]) (hR : R (.returned (.tuple #[])) w) : bodyPost P fn R .ret (mk n σ) w :=
  ⟨rfl, _, results_none h _ _ _, hR⟩
theorem e_ret1 {fn : Func} {R : Ending → World → Prop} {t : Tmp} {v : Value} (h : fn.results = #[.tmp t]) (hv : ev n σ (.tmp t) = v) (hR : R (.returned v) w) : bodyPost P fn R .ret (mk n σ) w :=
  ⟨rfl, _, results_tmp h _ _ _, by rw [← hv, ← mk_eval] at hR; exact hR⟩
theorem e_ret2 {fn : Func} {R : Ending → World → Prop} {t u : Tmp} {v x : Value} (h : fn.results = #[.tmp t, .tmp u]) (hv : ev n σ (.tmp t) = v) (hx : ev n σ (.tmp u) = x) (hR : R (.returned (.tuple #[v, x])) w) : bodyPost P fn R .ret (mk n σ) w :=
  ⟨rfl, _, results_tmp2 h _ _ _, by rw [← hv, ← hx, ← mk_eval, ← mk_eval] at hR; exact hR⟩
theorem e_norm {fn : Func} {R : Ending → World → Prop} {a : Act} (h : bodyPost P fn R .ret a w) : bodyPost P fn R .normal a w := h

/-! ### operations: what yields a value -/
theorem o_val {op : Op} {v : Value} {w' : World} (hrun : (execOp (ev n σ) ⟨some d, op, ty, pos, aft, g⟩).run P w = .ok (.value v) w')
    (h : K (mk n (up σ d v)) w') : Oper.wp P ⟨some d, op, ty, pos, aft, g⟩ (mk n σ) w K Q := by
  unfold Oper.wp
  rw [mk_evalf, hrun, Oper.upon_value]
  show K ((mk n σ).put (some d) v) w'
  rw [mk_put]
  exact h
theorem o_skip {op : Op} {w' : World} (hrun : (execOp (ev n σ) ⟨none, op, ty, pos, aft, g⟩).run P w = .ok .skip w')
    (h : K (mk n σ) w') : Oper.wp P ⟨none, op, ty, pos, aft, g⟩ (mk n σ) w K Q := by
  unfold Oper.wp
  rw [mk_evalf, hrun, Oper.upon_skip]
  exact h
theorem o_mv {x : Operand} (h : K (mk n (up σ d (ev n σ x))) w) : Oper.wp P ⟨some d, .move x, ty, pos, aft, g⟩ (mk n σ) w K Q :=
  o_val (by simp [execOp]) h
theorem o_as {x : Operand} (h : K (mk n (up σ d (ev n σ x))) w) : Oper.wp P ⟨some d, .assign x, ty, pos, aft, g⟩ (mk n σ) w K Q :=
  o_val (by simp [execOp]) h
theorem o_pick {c x y : Operand} {b : Bool} (hc : ev n σ c = .bool b) (h : K (mk n (up σ d (bif b then ev n σ x else ev n σ y))) w) :
    Oper.wp P ⟨some d, .pick c x y, ty, pos, aft, g⟩ (mk n σ) w K Q :=
  o_val (by cases b <;> simp [execOp, hc, asBool]) h
theorem o_ext {x : Operand} {i : Nat} {vs : Array Value} {v : Value} (hx : ev n σ x = .tuple vs) (hv : vs[i]? = some v) (h : K (mk n (up σ d v)) w) :
    Oper.wp P ⟨some d, .extract x i, ty, pos, aft, g⟩ (mk n σ) w K Q :=
  o_val (by simp [execOp, hx, Instr.extract, hv]) h
theorem o_nilc {x : Operand} {a : Addr} (hx : ev n σ x = .pointer (some a)) (h : K (mk n (up σ d (.pointer (some a)))) w) :
    Oper.wp P ⟨some d, .nilCheck x, ty, pos, aft, g⟩ (mk n σ) w K Q :=
  o_val (by simp [execOp, hx]) h
theorem o_not {x : Operand} {b : Bool} {t : TypeId} (hx : ev n σ x = .bool b) (h : K (mk n (up σ d (.bool (!b)))) w) :
    Oper.wp P ⟨some d, .unOp .not t x, ty, pos, aft, g⟩ (mk n σ) w K Q :=
  o_val (by simp [execOp, hx, Op.unary]) h
/-- A call of a Go function, by its contract. -/
theorem o_call {f : FuncId} {fn : Func} {args : Array Operand} {ats : Array TypeId} {vs : Array Value} (hf : P.funcs[f]? = some fn) (hb : fn.body.isSome = true) (hname : (fn.name == "runtime.NumGoroutine") = false)
    (ha : args.map (ev n σ) = vs)
    (h : Calls P f vs w fun e w' => match e with | .returned v => K (mk n (up σ d v)) w' | _ => False) :
    Oper.wp P ⟨some d, .call ⟨.value (.func f), args, ats⟩, ty, pos, aft, g⟩ (mk n σ) w K Q := by
  unfold Oper.wp
  rw [mk_evalf]
  have hn : fn.body ≠ none := by cases hh : fn.body <;> simp_all
  have hnm : fn.name ≠ "runtime.NumGoroutine" := by intro e; simp [e] at hname
  have : (execOp (ev n σ) ⟨some d, .call ⟨.value (.func f), args, ats⟩, ty, pos, aft, g⟩).run P w = .ok (.enter f vs) w := by
    simp [execOp, resolve, ev, Deferred.ofValue, invoke, callFunc, hf, hnm, hn, ha]
  rw [this, Oper.upon_enter]
  refine h.mono fun e w' he => ?_
  cases e <;> simp only at he ⊢
  rw [mk_put]; exact he
end
theorem mk_defers (n : Nat) (σ : Nat → Value) : (mk n σ).defers = [] := rfl
theorem mk_tmp (n : Nat) (σ : Nat → Value) (t : Nat) : (mk n σ).tmps.getD t undef = ev n σ (.tmp t) := mk_eval n σ (.tmp t)
attribute [irreducible] mk Mid Rnd
end Go.Proofs.Ytjmbbhnpfmblpaa
