/- Lemmas for the statement DiskNone, part 1: rules of operations, walks through functions, plain laws. -/
import Derived.Below
import Derived.Calls
import Derived.ChangeKeysEq
import Derived.Deep.AppendSrc
import Derived.Deep.MidRow
import Derived.Deep.Slices
import Derived.IntWalk
import Derived.Laws.CopyRow
import Derived.Laws.Cover3
import Derived.Laws.IdiomStrings
import Derived.Laws.MakeOwn
import Derived.Laws.NewBlocks
import Derived.Laws.StructEq
import Derived.Laws.Tables
import Derived.OpenShut
import Derived.OrdersHeld
import Derived.ProofKit
import Derived.StillTail
import Derived.Test.YtncmcgcilijfkaaProg
import Derived.Test.YtncmcgcilijfkaaRows
import Derived.WalkKit
import Derived.WideKeyRuns
namespace Go.Proofs.Ytncmcgcilijfkaa
open Go
/-- A frame of n slots, as a function of the slot. -/
def mk (n : Nat) (σ : Nat → Value) : Act := ⟨Array.ofFn (n := n) (fun i => σ i.val), []⟩
def up (σ : Nat → Value) (d : Nat) (v : Value) : Nat → Value := fun t => bif Nat.beq t d then v else σ t
def ev (n : Nat) (σ : Nat → Value) : Operand → Value
  | .tmp t => bif Nat.blt t n then σ t else undef
  | .const v => v
  | .global g => .pointer (some ⟨g, 0, none⟩)
  | .func f => .func (.func f) #[] #[]
def evs (n : Nat) (σ : Nat → Value) : List Operand → List Value
  | [] => []
  | x :: l => ev n σ x :: evs n σ l
theorem evs_eq (n σ) : ∀ l : List Operand, evs n σ l = l.map (ev n σ)
  | [] => rfl
  | x :: l => by rw [evs, evs_eq n σ l, List.map_cons]
def pvs (n : Nat) (σ : Nat → Value) : List (Nat × Operand) → List (Nat × Value)
  | [] => []
  | x :: l => (x.1, ev n σ x.2) :: pvs n σ l
theorem pvs_eq (n σ) : ∀ l : List (Nat × Operand), pvs n σ l = l.map fun (i, x) => (i, ev n σ x)
  | [] => rfl
  | x :: l => by rw [pvs, pvs_eq n σ l, List.map_cons]
theorem mk_put (n σ d v) : (mk n σ).put (some d) v = mk n (up σ d v) := by
  simp only [Act.put, mk, Act.mk.injEq, and_true]
  apply Array.ext
  · simp
  · intro i h1 h2
    simp only [Array.getElem_ofFn, up]
    rw [Array.getElem_setIfInBounds]
    · by_cases h : d = i
      · subst h; simp
      · have : Nat.beq i d = false := by
          cases hb : Nat.beq i d
          · rfl
          · exact absurd (Nat.eq_of_beq_eq_true hb).symm h
        rw [if_neg h, this]
        exact Array.getElem_ofFn _
    · simpa using h2
theorem mk_eval (n σ) (x : Operand) : (mk n σ).eval x = ev n σ x := by
  cases x <;> simp only [Act.eval, ev, mk]
  rename_i t
  by_cases h : t < n
  · have : Nat.blt t n = true := by rw [Nat.blt_eq]; exact h
    simp [this, h]
  · have : Nat.blt t n = false := by
      cases hb : Nat.blt t n
      · rfl
      · exact absurd (by rw [Nat.blt_eq] at hb; exact hb) h
    simp [this, h]
theorem mk_evalf (n σ) : (mk n σ).eval = ev n σ := funext (mk_eval n σ)
theorem up_self (σ : Nat → Value) (d : Nat) : up σ d (σ d) = σ := by
  funext t
  simp only [up]
  cases hb : Nat.beq t d
  · rfl
  · rw [Nat.eq_of_beq_eq_true hb]; rfl
theorem up_of (σ : Nat → Value) (d : Nat) (v : Value) (h : σ d = v) : up σ d v = σ := by subst h; exact up_self σ d
/-- several slots at once. -/
def ups (σ : Nat → Value) : List (Nat × Value) → (Nat → Value)
  | [] => σ
  | p :: l => up (ups σ l) p.1 p.2
def fits (σ : Nat → Value) : List (Nat × Value) → Prop
  | [] => True
  | p :: l => σ p.1 = p.2 ∧ fits σ l
theorem ups_of_fits (σ : Nat → Value) : ∀ l, fits σ l → ups σ l = σ
  | [], _ => rfl
  | p :: l, h => by
    rw [ups, ups_of_fits σ l h.2]
    exact up_of _ _ _ h.1
/-- A function's frame at its beginning. -/
theorem enter_mk (args : List Value) (n : Nat) (h : args.length ≤ n) :
    (⟨args.toArray ++ Array.replicate (n - args.toArray.size) undef, []⟩ : Act) = mk n (fun t => args.getD t undef) := by
  simp only [mk, Act.mk.injEq, and_true]
  apply Array.ext
  · simp; omega
  · intro i h1 h2
    simp only [Array.getElem_ofFn]
    by_cases hi : i < args.length
    · rw [Array.getElem_append_left (by simpa using hi)]
      simp [List.getD, hi]
    · rw [Array.getElem_append_right (by simpa using hi)]
      simp [List.getD, List.getElem?_eq_none (Nat.le_of_not_lt hi)]
theorem calls_mk {P : Program} {f : FuncId} {fn : Func} {c : Code} {args : List Value} {w : World} {R : Ending → World → Prop} {n : Nat}
    (hf : P.funcs[f]? = some fn) (hb : fn.body = some c) (hn : fn.ntmps = n) (hle : args.length ≤ n)
    (h : c.wp P (bodyPost P fn R) (mk n (fun t => args.getD t undef)) w) : Calls P f args.toArray w R := by
  refine calls_of_wp hf hb ?_
  rw [hn, enter_mk args n hle]
  exact h
section
variable {P : Program} {Q : Exit → Act → World → Prop} {n : Nat} {σ : Nat → Value} {w : World} {K : Act → World → Prop}
  {ty : TypeId} {pos : String} {aft : Array Edge} {g : Option (Nat × Bool)} {d : Nat}
theorem c_region {id : Nat} {l : List Oper} {a : Act} (h : wpList P l.toArray Q l a w) : (Code.region id l.toArray false).wp P Q a w := wp_region_lit h
theorem c_seq {x y : Code} {a : Act} (h : x.wp P (Exit.then (y.wp P Q) Q) a w) : (Code.seq x y).wp P Q a w := wp_seq h
/-- one operation of a list, not guarded. -/
theorem l_op {ops : Array Oper} {rest : List Oper} {op : Op} {dst : Option Tmp} {a : Act}
    (h : Oper.wp P ⟨dst, op, ty, pos, aft, none⟩ a w (wpList P ops Q rest) Q) : wpList P ops Q (⟨dst, op, ty, pos, aft, none⟩ :: rest) a w := by
  unfold wpList
  rw [if_pos (by simp [Region.wanted])]
  exact .inl h
theorem yielded_mk (ops : Array Oper) (j d : Nat) (h : (ops[j]?).bind (·.dst) = some d) (b : Bool) (hd : Nat.blt d n = true) (hv : σ d = .bool b) :
    yielded ops (mk n σ).tmps j = some b := by
  have hd' : d < n := by rw [Nat.blt_eq] at hd; exact hd
  unfold yielded
  simp [h, mk, hd', hv]
/-- .. guarded, and wanted. -/
theorem l_yes {ops : Array Oper} {rest : List Oper} {op : Op} {dst : Option Tmp} {j e : Nat} {b : Bool}
    (he : (ops[j]?).bind (·.dst) = some e) (hb : Nat.blt e n = true) (hv : σ e = .bool b)
    (h : Oper.wp P ⟨dst, op, ty, pos, aft, some (j, b)⟩ (mk n σ) w (wpList P ops Q rest) Q) : wpList P ops Q (⟨dst, op, ty, pos, aft, some (j, b)⟩ :: rest) (mk n σ) w := by
  have hw := yielded_mk ops j e he b hb hv
  unfold wpList
  rw [if_pos (by simp [Region.wanted, hw])]
  exact .inl h
/-- .. guarded, and not wanted. -/
theorem l_no {ops : Array Oper} {rest : List Oper} {op : Op} {j e : Nat} {b c : Bool}
    (he : (ops[j]?).bind (·.dst) = some e) (hb : Nat.blt e n = true) (hv : σ e = .bool c) (hc : (c == b) = false)
    (h : wpList P ops Q rest (mk n (up σ d undef)) w) : wpList P ops Q (⟨some d, op, ty, pos, aft, some (j, b)⟩ :: rest) (mk n σ) w := by
  have hw := yielded_mk ops j e he c hb hv
  unfold wpList
  rw [if_neg (by simp [Region.wanted, hw]; intro h'; subst h'; simp at hc), mk_put]
  exact h
theorem l_end {ops : Array Oper} {y : Code} {a : Act} (h : y.wp P Q a w) : wpList P ops (Exit.then (y.wp P Q) Q) [] a w := h
theorem l_nil {ops : Array Oper} {a : Act} (h : Q .normal a w) : wpList P ops Q [] a w := h
theorem c_yes {c : Operand} {x y : Code} (hc : ev n σ c = .bool true) (ht : x.wp P Q (mk n σ) w) : (Code.cond c x y).wp P Q (mk n σ) w :=
  wp_cond_true ((mk_eval n σ c).trans hc) ht
theorem c_no {c : Operand} {x y : Code} (hc : ev n σ c = .bool false) (ht : y.wp P Q (mk n σ) w) : (Code.cond c x y).wp P Q (mk n σ) w :=
  wp_cond_false ((mk_eval n σ c).trans hc) ht
theorem c_skip {a : Act} (h : Q .normal a w) : Code.skip.wp P Q a w := wp_skip h
theorem c_ret {a : Act} (h : Q .ret a w) : Code.ret.wp P Q a w := wp_ret h
theorem c_block {id : Nat} {c : Code} {a : Act} (h : c.wp P (Exit.inBlock id Q) a w) : (Code.block id c).wp P Q a w := wp_block h
/-- A cut: of the frame only the listed slots are kept. -/
theorem cut {c : Code} {ι : Type} (pat : ι → List (Nat × Value)) (A : ι → World → Prop) (i : ι) (hp : fits σ (pat i)) (hA : A i w)
    (h : ∀ i τ w, A i w → c.wp P Q (mk n (ups τ (pat i))) w) : c.wp P Q (mk n σ) w := by
  have := h i σ w hA
  rwa [ups_of_fits σ _ hp] at this
/-- a frame of which the listed slots are known, for some i. -/
def Mid {ι : Type} (n : Nat) (pat : ι → List (Nat × Value)) (A : ι → World → Prop) (a : Act) (w : World) : Prop := ∃ i τ, a = mk n (ups τ (pat i)) ∧ A i w
/-- .. and the measure has gone down. -/
def Rnd {ι : Type} (n : Nat) (pat : ι → List (Nat × Value)) (A : ι → World → Prop) (μ : ι → Nat) (m : Nat) (a : Act) (w : World) : Prop := ∃ j τ, a = mk n (ups τ (pat j)) ∧ A j w ∧ μ j < m
theorem e_ret0 {fn : Func} {R : Ending → World → Prop} (h : fn.results = #[]) (hR : R (.returned (.tuple #[])) w) : bodyPost P fn R .ret (mk n σ) w :=
  ⟨rfl, _, results_none h _ _ _, hR⟩
theorem e_ret1 {fn : Func} {R : Ending → World → Prop} {t : Tmp} {v : Value} (h : fn.results = #[.tmp t]) (hv : ev n σ (.tmp t) = v) (hR : R (.returned v) w) : bodyPost P fn R .ret (mk n σ) w :=
  ⟨rfl, _, results_tmp h _ _ _, by rw [← hv, ← mk_eval] at hR; exact hR⟩
theorem o_val {op : Op} {v : Value} {w' : World} (hrun : (execOp (ev n σ) ⟨some d, op, ty, pos, aft, g⟩).run P w = .ok (.value v) w')
    (h : K (mk n (up σ d v)) w') : Oper.wp P ⟨some d, op, ty, pos, aft, g⟩ (mk n σ) w K Q := by
  unfold Oper.wp
  rw [mk_evalf, hrun, Oper.upon_value]
  show K ((mk n σ).put (some d) v) w'
  rw [mk_put]
  exact h
theorem o_skip {op : Op} {w' : World} (hrun : (execOp (ev n σ) ⟨none, op, ty, pos, aft, g⟩).run P w = .ok .skip w')
    (h : K (mk n σ) w') : Oper.wp P ⟨none, op, ty, pos, aft, g⟩ (mk n σ) w K Q := by
  unfold Oper.wp
  rw [mk_evalf, hrun, Oper.upon_skip]
  exact h
/-- A call of a Go function, by its contract. -/
theorem o_call {f : FuncId} {fn : Func} {args : Array Operand} {ats : Array TypeId} {vs : Array Value} (hf : P.funcs[f]? = some fn) (hb : fn.body.isSome = true) (hname : (fn.name == "runtime.NumGoroutine") = false)
    (ha : args.map (ev n σ) = vs)
    (h : Calls P f vs w fun e w' => match e with | .returned v => K (mk n (up σ d v)) w' | _ => False) :
    Oper.wp P ⟨some d, .call ⟨.value (.func f), args, ats⟩, ty, pos, aft, g⟩ (mk n σ) w K Q := by
  unfold Oper.wp
  rw [mk_evalf]
  have hn : fn.body ≠ none := by cases hh : fn.body <;> simp_all
  have hnm : fn.name ≠ "runtime.NumGoroutine" := by intro e; simp [e] at hname
  have : (execOp (ev n σ) ⟨some d, .call ⟨.value (.func f), args, ats⟩, ty, pos, aft, g⟩).run P w = .ok (.enter f vs) w := by
    simp [execOp, resolve, ev, Deferred.ofValue, invoke, callFunc, hf, hnm, hn, ha]
  rw [this, Oper.upon_enter]
  refine h.mono fun e w' he => ?_
  cases e <;> simp only at he ⊢
  rw [mk_put]; exact he
end
theorem mk_defers (n : Nat) (σ : Nat → Value) : (mk n σ).defers = [] := rfl
theorem mk_tmp (n : Nat) (σ : Nat → Value) (t : Nat) : (mk n σ).tmps.getD t undef = ev n σ (.tmp t) := mk_eval n σ (.tmp t)
attribute [irreducible] mk Mid Rnd
end Go.Proofs.Ytncmcgcilijfkaa
namespace Go.Proofs.Ytncmcgcilijfkaa
open Go
abbrev VI (a : Int) : Value := .int .i64 a
abbrev V8 (x : UInt8) : Value := .int .u8 (x.toNat : Int)
theorem wrap_i64 {n : Int} (h1 : -9223372036854775808 ≤ n) (h2 : n ≤ 9223372036854775807) : IntKind.i64.wrap n = n := by
  exact IntWalk.i64_in n ⟨h1, h2⟩
section
variable {P : Program} {Q : Exit → Act → World → Prop} {n : Nat} {σ : Nat → Value} {w : World} {K : Act → World → Prop}
  {ty : TypeId} {pos : String} {aft : Array Edge} {g : Option (Nat × Bool)} {d : Nat} {t yt : TypeId} {x y : Operand} {op : BinOp}
end
section
variable {P : Program} {w : World} {t : TypeId}
theorem b_add {a b : Int} (h1 : -9223372036854775808 ≤ a + b) (h2 : a + b ≤ 9223372036854775807) : (binOp .add t (VI a) (VI b)).run P w = .ok (VI (a + b)) w := by
  simp [binOp, Op.intArith, wrap_i64 h1 h2]
theorem b_sub {a b : Int} (h1 : -9223372036854775808 ≤ a - b) (h2 : a - b ≤ 9223372036854775807) : (binOp .sub t (VI a) (VI b)).run P w = .ok (VI (a - b)) w := by
  simp [binOp, Op.intArith, wrap_i64 h1 h2]
theorem b_lss {k : IntKind} {a b : Int} : (binOp .lss t (.int k a) (.int k b)).run P w = .ok (.bool (decide (a < b))) w := by simp [binOp, Op.intCmp]
theorem b_gtr {k : IntKind} {a b : Int} : (binOp .gtr t (.int k a) (.int k b)).run P w = .ok (.bool (decide (b < a))) w := by simp [binOp, Op.intCmp]
theorem b_geq {k : IntKind} {a b : Int} : (binOp .geq t (.int k a) (.int k b)).run P w = .ok (.bool (decide (b ≤ a))) w := by simp [binOp, Op.intCmp]
theorem b_eql {k : IntKind} {a b : Int} : (binOp .eql t (.int k a) (.int k b)).run P w = .ok (.bool (decide (a = b))) w := by
  simp [binOp, Op.intCmp]; rfl
theorem b_neq {k : IntKind} {a b : Int} : (binOp .neq t (.int k a) (.int k b)).run P w = .ok (.bool (decide (a ≠ b))) w := by
  simp [binOp, Op.intCmp, bne]; rfl
end
section
variable {n : Nat} {σ : Nat → Value}
end
end Go.Proofs.Ytncmcgcilijfkaa
namespace Go.Proofs.Ytncmcgcilijfkaa
open Go
/-- What is known of one block: all its cells; or a slice of the call's own from the block's head on; or another object. -/
inductive Ch where
  | blk (b : Nat) (C : List Value) (T : TypeId)
  | own (a : Option Nat) (len cap : Nat) (xs : List Value) (T : TypeId) (sz : Nat)
  | obj (b : Nat) (o : Obj)
def Ch.key : Ch → Option Nat
  | .blk b _ _ => some b
  | .own a _ _ _ _ _ => a
  | .obj b _ => some b
def Ch.ok (w : World) : Ch → Prop
  | .blk b C T => w.heap[b]? = some (.cells C.toArray T (0, 0))
  | .own none len cap xs _ _ => len = 0 ∧ cap = 0 ∧ xs = []
  | .own (some b) len cap xs T sz => xs.length = len * sz ∧ len ≤ cap ∧ cap ≤ maxLen ∧ ∃ rest, w.heap[b]? = some (.cells (xs ++ rest).toArray T (0, 0)) ∧ (xs ++ rest).length = cap * sz
  | .obj b o => w.heap[b]? = some o
def hd (a : Option Nat) : Option Addr := a.map fun b => ⟨b, 0, none⟩
theorem Ch.ok_of {w w' : World} {c : Ch} (h : c.ok w) (he : ∀ b, c.key = some b → w'.heap[b]? = w.heap[b]?) : c.ok w' := by
  cases c with
  | blk b C T => simp only [Ch.ok] at *; rw [he b rfl]; exact h
  | obj b o => simp only [Ch.ok] at *; rw [he b rfl]; exact h
  | own a len cap xs T sz => cases a with
    | none => exact h
    | some b => simp only [Ch.ok] at *; rw [he b rfl]; exact h
theorem Ch.lt {w : World} {c : Ch} (h : c.ok w) {b : Nat} (hb : c.key = some b) : b < w.heap.size := by
  have aux : ∀ o, w.heap[b]? = some o → b < w.heap.size := fun o ho => (Array.getElem?_eq_some_iff.1 ho).1
  cases c with
  | blk b' C T => cases hb; exact aux _ h
  | obj b' o => cases hb; exact aux _ h
  | own a len cap xs T sz => cases a with
    | none => cases hb
    | some b' => cases hb; obtain ⟨_, _, _, r, h, _⟩ := h; exact aux _ h
/-- w came of w0: of w0's blocks only those of S may have turned; the chunks of L stand. -/
structure Hp (w0 w : World) (S : List Nat) (L : List Ch) : Prop where
  os : w.os = w0.os
  tape : w.tape = w0.tape
  output : w.output = w0.output
  size : w0.heap.size ≤ w.heap.size
  frame : ∀ b, b < w0.heap.size → b ∉ S → w.heap[b]? = w0.heap[b]?
  has : ∀ c ∈ L, c.ok w
  fresh : ∀ c ∈ L, ∀ b, c.key = some b → b ∈ S ∨ w0.heap.size ≤ b
  nd : L.Pairwise fun c e => ∀ b, c.key = some b → e.key ≠ some b
theorem Hp.refl (w : World) (S : List Nat) : Hp w w S [] := ⟨rfl, rfl, rfl, Nat.le_refl _, fun _ _ _ => rfl, (by simp), (by simp), .nil⟩
theorem Hp.start (w : World) (c : Ch) (b : Nat) (h : c.ok w) (hk : c.key = some b) : Hp w w [b] [c] :=
  ⟨rfl, rfl, rfl, Nat.le_refl _, fun _ _ _ => rfl, (by simpa using h), (by simp [hk]), by simp⟩
theorem Hp.drew {w0 w : World} {S L} (h : Hp w0 w S L) : Hp w0 w.drew S L :=
  ⟨h.os, h.tape, h.output, h.size, h.frame, fun c hc => Ch.ok_of (h.has c hc) (fun _ _ => rfl), h.fresh, h.nd⟩
theorem Hp.sub {w0 w : World} {S L L'} (h : Hp w0 w S L) (hs : L'.Sublist L) : Hp w0 w S L' :=
  ⟨h.os, h.tape, h.output, h.size, h.frame, fun c hc => h.has c (hs.subset hc), fun c hc => h.fresh c (hs.subset hc), h.nd.sublist hs⟩
theorem Hp.below {w0 w : World} {L} (h : Hp w0 w [] L) : RowKit.Below w0.heap.size w0 w := ⟨h.os, h.tape, h.output, h.size, fun k hk => h.frame k hk (by simp)⟩
theorem Hp.mono {w0 w : World} {S S' L} (h : Hp w0 w S L) (hs : ∀ b ∈ S, b ∈ S') : Hp w0 w S' L :=
  ⟨h.os, h.tape, h.output, h.size, fun b hb hn => h.frame b hb (fun hm => hn (hs b hm)), h.has, fun c hc b hk => (h.fresh c hc b hk).imp (hs b) id, h.nd⟩
theorem heap_alloc_new' (w : World) (o : Obj) : (w.alloc o).heap[w.heap.size]? = some o := heap_alloc_new w o
theorem heap_alloc_old' (w : World) (o : Obj) (k : Nat) (h : k ≠ w.heap.size) : (w.alloc o).heap[k]? = w.heap[k]? := by
  show (w.heap.push o)[k]? = _
  rw [Array.getElem?_push, if_neg h]
/-- a new block. -/
theorem Hp.new {w0 w : World} {S L} (h : Hp w0 w S L) (o : Obj) (c : Ch) (hk : c.key = some w.heap.size) (hc : c.ok (w.alloc o)) : Hp w0 (w.alloc o) S (L ++ [c]) := by
  refine ⟨h.os, h.tape, h.output, ?_, ?_, ?_, ?_, ?_⟩
  · have := h.size; simp; omega
  · intro b hb hn
    rw [heap_alloc_old' _ _ _ (by have := h.size; omega)]
    exact h.frame b hb hn
  · intro e he
    rcases List.mem_append.1 he with he | he
    · exact Ch.ok_of (h.has e he) fun b hb => heap_alloc_old' _ _ _ (by have := Ch.lt (h.has e he) hb; omega)
    · simp at he; subst he; exact hc
  · intro e he b hb
    rcases List.mem_append.1 he with he | he
    · exact h.fresh e he b hb
    · simp at he; subst he; rw [hk] at hb; cases hb; exact .inr h.size
  · rw [List.pairwise_append]
    refine ⟨h.nd, by simp, fun e he f hf b hb => ?_⟩
    simp at hf; subst hf
    rw [hk]; intro e'; cases e'
    have := Ch.lt (h.has e he) hb; omega
theorem Hp.alloc {w0 w : World} {S L} (h : Hp w0 w S L) (C : List Value) (T : TypeId) : Hp w0 (w.alloc (.cells C.toArray T)) S (L ++ [.blk w.heap.size C T]) :=
  h.new _ _ rfl (heap_alloc_new' w _)
theorem mem_set_cases {α : Type} {L : List α} {i : Nat} {c e : α} (h : e ∈ L.set i c) : e = c ∨ ∃ j, j ≠ i ∧ L[j]? = some e := by
  obtain ⟨j, hj⟩ := List.getElem?_of_mem h
  by_cases hij : i = j
  · subst hij
    rw [List.getElem?_set] at hj
    simp at hj
    exact .inl hj.2.symm
  · rw [List.getElem?_set_ne hij] at hj
    exact .inr ⟨j, Ne.symm hij, hj⟩
theorem pw_ne {L : List Ch} (h : L.Pairwise fun c e => ∀ b, c.key = some b → e.key ≠ some b) {i j : Nat} {c e : Ch} (hi : L[i]? = some c) (hj : L[j]? = some e) (hij : i ≠ j) {b : Nat} (hb : c.key = some b) : e.key ≠ some b := by
  rw [List.pairwise_iff_getElem] at h
  obtain ⟨hi', rfl⟩ := List.getElem?_eq_some_iff.1 hi
  obtain ⟨hj', rfl⟩ := List.getElem?_eq_some_iff.1 hj
  rcases Nat.lt_or_gt_of_ne hij with hlt | hlt
  · exact h i j hi' hj' hlt b hb
  · intro he
    exact h j i hj' hi' hlt b he hb
/-- chunk i turns: the new chunk lies in the old one's block, or in a new one; no other known block turns. -/
theorem Hp.turn {w0 w w' : World} {S L} (h : Hp w0 w S L) {i : Nat} {c c' : Ch} (hi : L[i]? = some c) (hok : c'.ok w') (hk : ∀ b, c'.key = some b → c.key = some b ∨ w.heap.size ≤ b)
    (hos : w'.os = w.os) (htape : w'.tape = w.tape) (hout : w'.output = w.output) (hsize : w.heap.size ≤ w'.heap.size)
    (hother : ∀ b, b < w.heap.size → c.key ≠ some b → w'.heap[b]? = w.heap[b]?) : Hp w0 w' S (L.set i c') := by
  have hmem := List.mem_of_getElem? hi
  refine ⟨hos.trans h.os, htape.trans h.tape, hout.trans h.output, Nat.le_trans h.size hsize, ?_, ?_, ?_, ?_⟩
  · intro b hb hn
    rw [hother b (Nat.lt_of_lt_of_le hb h.size) ?_, h.frame b hb hn]
    intro hc
    rcases h.fresh c hmem b hc with h1 | h1
    · exact hn h1
    · omega
  · intro e he
    rcases mem_set_cases he with rfl | ⟨j, hj, hje⟩
    · exact hok
    · have hm := List.mem_of_getElem? hje
      refine Ch.ok_of (h.has e hm) fun b hb => hother b (Ch.lt (h.has e hm) hb) fun hc => ?_
      exact pw_ne h.nd hi hje (Ne.symm hj) hc hb
  · intro e he b hb
    rcases mem_set_cases he with rfl | ⟨j, hj, hje⟩
    · rcases hk b hb with h1 | h1
      · exact h.fresh c hmem b h1
      · exact .inr (Nat.le_trans h.size h1)
    · exact h.fresh e (List.mem_of_getElem? hje) b hb
  · rw [List.pairwise_iff_getElem]
    intro j k hj hk' hlt b hb
    simp only [List.length_set] at hj hk'
    have key : ∀ m (hm : m < L.length), m ≠ i → (L[m]).key = some b → c'.key ≠ some b := fun m hm hne hb' hc' => by
      have hmok := h.has _ (List.getElem_mem hm)
      rcases hk b hc' with h1 | h1
      · exact pw_ne h.nd hi (List.getElem?_eq_getElem hm) (Ne.symm hne) h1 hb'
      · have := Ch.lt hmok hb'; omega
    rw [List.getElem_set] at hb ⊢
    by_cases h1 : i = j
    · rw [if_pos h1] at hb
      rw [if_neg (by omega)]
      intro he
      exact key k hk' (by omega) he hb
    · rw [if_neg h1] at hb
      by_cases h2 : i = k
      · rw [if_pos h2]; exact key j hj (Ne.symm h1) hb
      · rw [if_neg h2]
        exact (List.pairwise_iff_getElem.1 h.nd) j k hj hk' hlt b hb
/-- a row is laid anew. -/
theorem Hp.row {w0 w : World} {S L} (h : Hp w0 w S L) {i b : Nat} {c c' : Ch} {C C' : List Value} {T : TypeId} (hi : L[i]? = some c) (hk : c.key = some b) (hk' : c'.key = some b)
    (hw : w.heap[b]? = some (.cells C.toArray T (0, 0))) (hok : ∀ w' : World, w'.heap[b]? = some (.cells C'.toArray T (0, 0)) → c'.ok w') : Hp w0 (w.setRow b C'.toArray) S (L.set i c') :=
  h.turn hi (hok _ (setRow_heap w b _ _ T (0, 0) hw)) (fun b' hb' => .inl (by rw [hk] ; rw [hk'] at hb'; exact hb')) rfl rfl rfl (by simp)
    (fun b' _ hne => setRow_other w b b' _ (fun e => hne (by rw [hk, e])))
/-- a call that turns nothing that was there. -/
theorem Hp.call {w0 w w' : World} {S L L'} (h : Hp w0 w S L) (hc : Hp w w' [] L') : Hp w0 w' S (L ++ L') := by
  refine ⟨hc.os.trans h.os, hc.tape.trans h.tape, hc.output.trans h.output, Nat.le_trans h.size hc.size, ?_, ?_, ?_, ?_⟩
  · intro b hb hn
    rw [hc.frame b (Nat.lt_of_lt_of_le hb h.size) (by simp), h.frame b hb hn]
  · intro e he
    rcases List.mem_append.1 he with he | he
    · exact Ch.ok_of (h.has e he) fun b hb => hc.frame b (Ch.lt (h.has e he) hb) (by simp)
    · exact hc.has e he
  · intro e he b hb
    rcases List.mem_append.1 he with he | he
    · exact h.fresh e he b hb
    · rcases hc.fresh e he b hb with h1 | h1
      · simp at h1
      · exact .inr (Nat.le_trans h.size h1)
  · rw [List.pairwise_append]
    refine ⟨h.nd, hc.nd, fun e he f hf b hb hb' => ?_⟩
    rcases hc.fresh f hf b hb' with h1 | h1
    · simp at h1
    · have := Ch.lt (h.has e he) hb; omega
/-- a call that turns chunk i. -/
theorem Hp.callAt {w0 w w' : World} {S L L'} (h : Hp w0 w S L) {i b : Nat} {c c' : Ch} (hi : L[i]? = some c) (hk : c.key = some b) (hk' : c'.key = some b) (hc : Hp w w' [b] (c' :: L')) : Hp w0 w' S (L.set i c' ++ L') := by
  have h1 : Hp w0 w' S (L.set i c') := h.turn hi (hc.has c' (by simp)) (fun b' hb' => .inl (by rw [hk]; rw [hk'] at hb'; exact hb')) hc.os hc.tape hc.output hc.size
    (fun b' hb' hne => hc.frame b' hb' (by simp; intro e; exact hne (by rw [hk, e])))
  have hnd := List.pairwise_cons.1 hc.nd
  refine ⟨h1.os, h1.tape, h1.output, h1.size, h1.frame, ?_, ?_, ?_⟩
  · intro e he
    rcases List.mem_append.1 he with he | he
    · exact h1.has e he
    · exact hc.has e (by simp [he])
  · intro e he b' hb
    rcases List.mem_append.1 he with he | he
    · exact h1.fresh e he b' hb
    · rcases hc.fresh e (by simp [he]) b' hb with h2 | h2
      · simp at h2; subst h2; exact absurd hb (hnd.1 e he _ hk')
      · exact .inr (Nat.le_trans h.size h2)
  · rw [List.pairwise_append]
    refine ⟨h1.nd, hnd.2, fun e he f hf b' hb hb' => ?_⟩
    rcases hc.fresh f (by simp [hf]) b' hb' with h2 | h2
    · simp at h2; subst h2; exact hnd.1 f hf _ hk' hb'
    · rcases mem_set_cases he with rfl | ⟨j, hj, hje⟩
      · rw [hk'] at hb; cases hb; exact hnd.1 f hf _ hk' hb'
      · have := Ch.lt (h.has e (List.mem_of_getElem? hje)) hb; omega
/-- from the slice's beginning on the cells are vs. -/
def RdS (w : World) (a : Option Addr) (vs : List Value) : Prop :=
  vs = [] ∨ ∃ b o C T fr, a = some ⟨b, o, none⟩ ∧ w.heap[b]? = some (.cells C T fr) ∧ ∀ i v, vs[i]? = some v → C[o + i]? = some v
def Apart (a : Option Addr) (S : List Nat) : Prop := ∀ x, a = some x → x.block ∉ S
theorem apart_nil (a : Option Addr) : Apart a [] := fun _ _ => by simp
theorem RdS.nil (w : World) (a : Option Addr) : RdS w a [] := .inl rfl
theorem RdS.of_heap {w w' : World} {a : Option Addr} {vs : List Value} (h : RdS w a vs) (he : ∀ x, a = some x → x.block < w.heap.size → w'.heap[x.block]? = w.heap[x.block]?) : RdS w' a vs := by
  rcases h with h | ⟨b, o, C, T, fr, ha, hb, hc⟩
  · exact .inl h
  · exact .inr ⟨b, o, C, T, fr, ha, by rw [he _ ha (Array.getElem?_eq_some_iff.1 hb).1]; exact hb, hc⟩
theorem Hp.rd {w0 w : World} {S L} (h : Hp w0 w S L) {a : Option Addr} {vs : List Value} (hr : RdS w0 a vs) (hap : Apart a S) : RdS w a vs :=
  hr.of_heap fun x hx hlt => h.frame _ hlt (hap x hx)
theorem RdS.cell {w : World} {a : Option Addr} {vs : List Value} (h : RdS w a vs) {i : Nat} {v : Value} (hv : vs[i]? = some v) : ∃ b o, a = some ⟨b, o, none⟩ ∧ w.cell? ⟨b, o + i, none⟩ = some v := by
  rcases h with rfl | ⟨b, o, C, T, fr, ha, hb, hc⟩
  · simp at hv
  · exact ⟨b, o, ha, by simp [World.cell?, hb, hc i v hv]⟩
theorem RdS.drop {w : World} {a : Option Addr} {vs : List Value} (h : RdS w a vs) (k : Nat) : RdS w (a.map (·.add k)) (vs.drop k) := by
  rcases h with rfl | ⟨b, o, C, T, fr, rfl, hb, hc⟩
  · exact .inl (by simp)
  · refine .inr ⟨b, o + k, C, T, fr, ?_, hb, fun i v hv => ?_⟩
    · simp only [Option.map_some, Addr.add]
      by_cases hk : k = 0
      · subst hk; simp
      · rw [if_neg hk]
    · rw [List.getElem?_drop] at hv
      have := hc (k + i) v hv
      rwa [← Nat.add_assoc] at this
theorem RdS.take {w : World} {a : Option Addr} {vs : List Value} (h : RdS w a vs) (k : Nat) : RdS w a (vs.take k) := by
  rcases h with rfl | ⟨b, o, C, T, fr, rfl, hb, hc⟩
  · exact .inl (by simp)
  · refine .inr ⟨b, o, C, T, fr, rfl, hb, fun i v hv => hc i v ?_⟩
    rw [List.getElem?_take] at hv
    split at hv
    · exact hv
    · cases hv
theorem Ch.rd_own {w : World} {a : Option Nat} {len cap : Nat} {xs : List Value} {T sz} (h : (Ch.own a len cap xs T sz).ok w) : RdS w (hd a) xs := by
  cases a with
  | none => exact .inl h.2.2
  | some b =>
    obtain ⟨_, _, _, rest, hb, _⟩ := h
    refine .inr ⟨b, 0, _, T, (0, 0), rfl, hb, fun i v hv => ?_⟩
    have hi : i < xs.length := (List.getElem?_eq_some_iff.1 hv).1
    simp [List.getElem?_append_left hi, hv]
theorem Hp.own {w0 w : World} {S L} (h : Hp w0 w S L) {i : Nat} {a : Option Nat} {len cap : Nat} {xs : List Value} {T sz} (hi : L[i]? = some (.own a len cap xs T sz)) : RdS w (hd a) xs :=
  Ch.rd_own (h.has _ (List.mem_of_getElem? hi))
theorem Hp.blk {w0 w : World} {S L} (h : Hp w0 w S L) {i b : Nat} {C : List Value} {T} (hi : L[i]? = some (.blk b C T)) : w.heap[b]? = some (.cells C.toArray T (0, 0)) :=
  h.has _ (List.mem_of_getElem? hi)
def cellTy (P : Program) (t : TypeId) : Bool := match P.underlying t with | some (.struct _) | some (.array _ _) => false | some _ => true | none => false
def rowTy (P : Program) (t : TypeId) : Option Nat := match P.underlying t with | some (.struct _) | some (.array _ _) => (P.info? t).map (·.size) | _ => none
def cellSz (P : Program) (t : TypeId) : Option Nat := (P.info? t).map (·.size)
theorem run_isAgg_cell {P : Program} {t : TypeId} (h : cellTy P t = true) (w : World) : (isAgg t).run P w = .ok false w := by
  unfold cellTy at h
  cases hu : P.underlying t with
  | none => simp [hu] at h
  | some d => cases d <;> simp_all [isAgg, run_underlying hu]
theorem run_isAgg_row {P : Program} {t : TypeId} {k : Nat} (h : rowTy P t = some k) (w : World) : (isAgg t).run P w = .ok true w := by
  unfold rowTy at h
  cases hu : P.underlying t with
  | none => simp [hu] at h
  | some d => cases d <;> simp_all [isAgg, run_underlying hu]
theorem sz_of_row {P : Program} {t : TypeId} {k : Nat} (h : rowTy P t = some k) : cellSz P t = some k := by
  unfold rowTy at h
  cases hu : P.underlying t with
  | none => simp [hu] at h
  | some d => cases d <;> simp_all [cellSz]
theorem run_sizeOf_sz {P : Program} {t : TypeId} {k : Nat} (h : cellSz P t = some k) (w : World) : (sizeOf t).run P w = .ok k w := by
  unfold cellSz at h
  cases hi : P.info? t with
  | none => simp [hi] at h
  | some i => simp [hi] at h; simp [sizeOf, typeInfo, hi, h]
theorem run_loadCells_row {P : Program} {w : World} {b o : Nat} {C : List Value} {T : TypeId} {fr : Nat × Nat} (hb : w.heap[b]? = some (.cells C.toArray T fr)) (k : Nat) (hk : o + k ≤ C.length) :
    ∀ i acc, (loadCellsFrom ⟨b, o, none⟩ i k acc).run P w = .ok (acc ++ ((C.drop (o + i)).take k).toArray) w ∨ k + i + o > C.length := by
  induction k with
  | zero => intro i acc; left; simp [loadCellsFrom]
  | succ k ih =>
    intro i acc
    by_cases hlt : k + 1 + i + o > C.length
    · exact .inr hlt
    · left
      have hcell : w.cell? ((⟨b, o, none⟩ : Addr).add i) = some (C[o + i]'(by omega)) := by
        rw [Addr.add_mid]; simp [World.cell?, hb]
        try rw [List.getElem?_eq_getElem (by omega)]
      rcases ih (by omega) (i + 1) (acc.push (C[o + i]'(by omega))) with h | h
      · simp only [loadCellsFrom, Sem.run_bind, run_load, hcell, Result.andThen_ok, h]
        congr 1
        have e1 : C.drop (o + i) = C[o + i]'(by omega) :: C.drop (o + i + 1) := List.drop_eq_getElem_cons (by omega)
        rw [e1, List.take_succ_cons]
        apply Array.ext'
        simp [Nat.add_assoc]
      · omega
theorem run_loadAt_row {P : Program} {w : World} {b o : Nat} {C : List Value} {T : TypeId} {fr : Nat × Nat} {t : TypeId} {k : Nat} (hb : w.heap[b]? = some (.cells C.toArray T fr)) (ht : rowTy P t = some k) (hk : o + k ≤ C.length) :
    (Instr.loadAt t (.pointer (some ⟨b, o, none⟩))).run P w = .ok (.agg ((C.drop o).take k).toArray) w := by
  have h1 := run_isAgg_row ht w
  have h2 := run_sizeOf_sz (sz_of_row ht) w
  rcases run_loadCells_row (P := P) hb k hk 0 #[] with h | h
  · simp [Instr.loadAt, Instr.sureAddr, loadVar, h1, h2, loadCells, h]
  · omega
theorem run_loadAt_cell {P : Program} {w : World} {a : Addr} {t : TypeId} {v : Value} (ht : cellTy P t = true) (hv : w.cell? a = some v) :
    (Instr.loadAt t (.pointer (some a))).run P w = .ok v w := by
  simp [Instr.loadAt, Instr.sureAddr, loadVar, run_isAgg_cell ht w, hv]
theorem run_storeAt_row {P : Program} {w : World} {b o : Nat} {C : List Value} {T : TypeId} {t : TypeId} {v : Value} (hb : w.heap[b]? = some (.cells C.toArray T (0, 0)))
    (hs : cellSz P t = some v.cells.size) (hk : o + v.cells.size ≤ C.length) (h1 : v.cells.all (·.oneCell') = true) :
    (Instr.storeAt t (.pointer (some ⟨b, o, none⟩)) v).run P w = .ok () (w.setRow b (C.take o ++ v.cells.toList ++ C.drop (o + v.cells.size)).toArray) := by
  have h2 := run_sizeOf_sz hs w
  have h3 := run_storeCells_at (P := P) b o T v.cells.toList 0 C.toArray w hb (by simpa using hk) (fun x hx => by
    rw [Array.mem_toList_iff] at hx
    obtain ⟨i, hi, rfl⟩ := Array.getElem_of_mem hx
    exact (Array.all_eq_true.1 h1) i hi)
  simp only [Nat.add_zero, Array.length_toList] at h3
  simp only [List.append_assoc] at h3 ⊢
  simp [Instr.storeAt, Instr.sureAddr, storeVar, h2, h3]
section
variable {P : Program} {Q : Exit → Act → World → Prop} {n : Nat} {σ : Nat → Value} {w w0 : World} {K : Act → World → Prop}
  {ty : TypeId} {pos : String} {aft : Array Edge} {g : Option (Nat × Bool)} {d : Nat} {t yt : TypeId} {x y : Operand} {S : List Nat} {L : List Ch}
def zeroCells (P : Program) (t : TypeId) : Option (List Value) := (P.info? t).bind fun i => i.zero.map fun v => v.cells.toList
theorem o_box {v : Value} (H : Hp w0 w S L) (hx : ev n σ x = v)
    (h : ∀ b w', Hp w0 w' S (L ++ [.blk b v.cells.toList t]) → w0.heap.size ≤ b → K (mk n (up σ d (.pointer (some ⟨b, 0, none⟩)))) w') :
    Oper.wp P ⟨some d, .box t x, ty, pos, aft, g⟩ (mk n σ) w K Q := by
  refine o_val (v := .pointer (some ⟨w.heap.size, 0, none⟩)) (w' := w.alloc (.cells v.cells t)) ?_ (h _ _ (by simpa using H.alloc v.cells.toList t) H.size)
  simp [execOp, Instr.box, hx, newVar, newRow]
def fieldOff (P : Program) (t : TypeId) (i : Nat) : Option Nat :=
  match P.underlying t with
  | some (.struct fs) => (fs[i]?).bind fun f => (P.info? f.type).bind fun j => if j.size = 0 then none else some f.offset
  | _ => none
def eltOf (P : Program) (t : TypeId) : Option Nat :=
  match P.underlying t with
  | some (.slice e) => (P.info? e).map fun i => i.size
  | _ => none
end
end Go.Proofs.Ytncmcgcilijfkaa
namespace Go.Proofs.Ytncmcgcilijfkaa
open Go
section
variable {P : Program} {Q : Exit → Act → World → Prop} {n : Nat} {σ : Nat → Value} {w w0 : World} {K : Act → World → Prop}
  {ty : TypeId} {pos : String} {aft : Array Edge} {g : Option (Nat × Bool)} {d : Nat} {t yt : TypeId} {x y z : Operand} {S : List Nat} {L : List Ch}
theorem splice_one (C : List Value) (o : Nat) (v : Value) (h : o < C.length) : C.take o ++ [v] ++ C.drop (o + 1) = C.set o v := by
  apply List.ext_getElem?
  intro i
  rw [List.append_assoc, List.getElem?_set]
  by_cases h1 : i < o
  · rw [List.getElem?_append_left (by simp; omega), List.getElem?_take_of_lt h1, if_neg (by omega)]
  · rw [List.getElem?_append_right (by simp; omega)]
    by_cases h2 : o = i
    · subst h2; simp [h, Nat.min_eq_left (Nat.le_of_lt h)]
    · rw [if_neg h2, List.getElem?_append_right (by simp; omega)]
      simp only [List.length_take, Nat.min_eq_left (Nat.le_of_lt h), List.length_singleton, List.getElem?_drop]
      congr 1; omega
/-- a store of one cell into a known block. -/
theorem o_st {b o i : Nat} {C : List Value} {T : TypeId} {v : Value} (H : Hp w0 w S L) (hi : L[i]? = some (.blk b C T)) (hx : ev n σ x = .pointer (some ⟨b, o, none⟩)) (hy : ev n σ y = v)
    (hs : cellSz P t = some 1) (h1 : v.oneCell' = true) (ho : o < C.length)
    (h : ∀ w', Hp w0 w' S (L.set i (.blk b (C.set o v) T)) → K (mk n σ) w') : Oper.wp P ⟨none, .store t x y, ty, pos, aft, g⟩ (mk n σ) w K Q := by
  have hc : v.cells = #[v] := by cases v <;> simp_all [Value.cells, Value.oneCell']
  have hr := run_storeAt_row (P := P) (t := t) (v := v) (H.blk hi) (o := o) (by rw [hc]; exact hs) (by rw [hc]; simp; omega) (by rw [hc]; simpa using h1)
  rw [hc] at hr
  have e : C.take o ++ (#[v] : Array Value).toList ++ C.drop (o + (#[v] : Array Value).size) = C.set o v := splice_one C o v ho
  rw [e] at hr
  refine o_skip (w' := w.setRow b (C.set o v).toArray) (by simp [execOp, hx, hy, hr]) (h _ ?_)
  exact H.row hi rfl rfl (H.blk hi) fun w' hw => hw
theorem Hp.conv {i : Nat} {c c' : Ch} (H : Hp w0 w S L) (hi : L[i]? = some c) (hk : c'.key = c.key) (hok : c.ok w → c'.ok w) : Hp w0 w S (L.set i c') :=
  H.turn hi (hok (H.has _ (List.mem_of_getElem? hi))) (fun b hb => .inl (by rw [← hk]; exact hb)) rfl rfl rfl (Nat.le_refl _) (fun _ _ _ => rfl)
/-- a block as a slice of its first elements. -/
theorem Hp.toOwn {i b len cap sz : Nat} {C : List Value} {T : TypeId} (H : Hp w0 w S L) (hi : L[i]? = some (.blk b C T)) (hl : len ≤ cap) (hm : cap ≤ maxLen) (hc : C.length = cap * sz) :
    Hp w0 w S (L.set i (.own (some b) len cap (C.take (len * sz)) T sz)) :=
  H.conv hi rfl fun hok => ⟨by rw [List.length_take, hc]; exact Nat.min_eq_left (Nat.mul_le_mul_right sz hl), hl, hm, C.drop (len * sz), by rw [List.take_append_drop]; exact hok, by rw [List.take_append_drop]; exact hc⟩
def sa (a : Option Addr) (l cap sz : Nat) : Option Addr := if cap = l then a else a.map (·.add (l * sz))
theorem RdS.sa {a : Option Addr} {vs : List Value} (h : RdS w a vs) (l cap sz : Nat) (hl : vs.length ≤ cap * sz) : RdS w (sa a l cap sz) (vs.drop (l * sz)) := by
  unfold Go.Proofs.Ytncmcgcilijfkaa.sa
  split
  · rename_i e; subst e
    rw [List.drop_eq_nil_of_le hl]; exact .nil _ _
  · exact h.drop _
theorem Apart.sa {a : Option Addr} {S : List Nat} (h : Apart a S) (l cap sz : Nat) : Apart (sa a l cap sz) S := by
  unfold Go.Proofs.Ytncmcgcilijfkaa.sa
  split
  · exact h
  · intro x hx
    cases a with
    | none => cases hx
    | some a =>
      simp only [Option.map_some, Option.some.injEq] at hx
      subst hx
      have := h a rfl
      unfold Addr.add; split <;> exact this
theorem sb_h {s : Bool} {len cap : Nat} {k : IntKind} {h : Int} (h0 : 0 ≤ h) (h1 : h ≤ cap) (w : World) : (Instr.sliceBounds s len cap none (some (.int k h)) none).run P w = .ok (0, h.toNat, cap) w := by
  simp [Instr.sliceBounds, run_sliceBound, h0, h1]
theorem run_builtin {b : Builtin} {args : Array Operand} {ats : Array TypeId} {s : Sem Value} {v : Value} {w' : World} {dst : Option Tmp} {vs : Array Value}
    (ha : args.map (ev n σ) = vs)
    (hb : ∀ cs, builtin b ats ty cs vs = (do pure (.value (← s)))) (hs : s.run P w = .ok v w') :
    (execOp (ev n σ) ⟨dst, .call ⟨.builtin b, args, ats⟩, ty, pos, aft, g⟩).run P w = .ok (.value v) w' := by
  simp [execOp, resolve, invoke, ha, hb, hs]
structure SlTy (P : Program) (t e : TypeId) (sz bytes : Nat) : Prop where
  und : P.underlying t = some (.slice e)
  row : ∃ i z, P.info? e = some i ∧ i.zero = some z ∧ i.size = sz ∧ i.bytes = bytes ∧ z.cells.size = sz
theorem SlTy.mk' {t e sz bytes : Nat} (h1 : P.underlying t = some (.slice e)) (h2 : ((P.info? e).bind fun i => i.zero.map fun z => (i.size, i.bytes, z.cells.size)) = some (sz, bytes, sz)) : SlTy P t e sz bytes := by
  refine ⟨h1, ?_⟩
  cases hi : P.info? e with
  | none => simp [hi] at h2
  | some i =>
    cases hz : i.zero with
    | none => simp [hi, hz] at h2
    | some z => simp [hi, hz] at h2; exact ⟨i, z, rfl, hz, h2.1, h2.2.1, h2.2.2⟩
theorem RdS.src {sz : Nat} {tx e' : TypeId} {a : Option Addr} {len cap : Nat} {vs : List Value} (hk : P.underlying tx = some (.slice e')) (hr : RdS w a vs) (hl : vs.length = len * sz) (hs : 0 < sz) (h1 : ∀ u ∈ vs, u.oneCell' = true) :
    Src P sz tx (.slice a len cap) len vs w := by
  by_cases h0 : vs = []
  · subst h0
    have : len = 0 := by rcases Nat.mul_eq_zero.1 hl.symm with h | h <;> omega
    subst this
    cases a with
    | none => exact Src.ofNil w hk cap
    | some a => exact Src.ofSlice w hk a 0 cap [] (by simp) (by simp) (by simp)
  · rcases hr with h | ⟨b, o, C, T, fr, rfl, hb, hc⟩
    · exact absurd h h0
    · exact Src.ofSlice w hk _ len cap vs hl (fun j u hj => by rw [Addr.add_mid]; simp [World.cell?, hb, hc j u hj]) h1
theorem slicecap_le {a b by_ : Nat} (h : a * by_ ≤ 140737488355328) (hb : b < a) : Builtin.nextslicecap a b * by_ ≤ 281474976710656 :=
  Nat.le_trans (Nat.mul_le_mul_right _ (nextslicecap_le hb)) (by rw [Nat.mul_assoc]; omega)
/-- append to a slice of the call's own. -/
theorem o_app {i : Nat} {a : Option Nat} {len cap : Nat} {xs : List Value} {e : TypeId} {sz bytes m : Nat} {tx : TypeId} {v : Value} {news : List Value} (H : Hp w0 w S L) (hi : L[i]? = some (.own a len cap xs e sz))
    (hT : SlTy P t e sz bytes) (hx : ev n σ x = .slice (hd a) len cap) (hy : ev n σ y = v) (hsrc : Src P sz tx v m news w) (_hsz : 0 < sz)
    (hlen : len + m ≤ 4611686018427387903) (hbytes : (len + m) * bytes ≤ 140737488355328)
    (h : ∀ a' cap' w', Hp w0 w' S (L.set i (.own a' (len + m) cap' (xs ++ news) e sz)) → K (mk n (up σ d (.slice (hd a') (len + m) cap'))) w') :
    Oper.wp P ⟨some d, .call ⟨.builtin .append, #[x, y], #[t, tx]⟩, ty, pos, aft, g⟩ (mk n σ) w K Q := by
  obtain ⟨inf, zv, hinf, hzv, hsize, hby, hzs⟩ := hT.row
  have hok := H.has _ (List.mem_of_getElem? hi)
  have hargs : (#[x, y] : Array Operand).map (ev n σ) = #[.slice (hd a) len cap, v] := by simp [hx, hy]
  have hxl : xs.length = len * sz := by
    cases a with
    | none => obtain ⟨rfl, rfl, rfl⟩ := hok; simp
    | some b => exact hok.1
  by_cases hroom : len + m ≤ cap
  · cases a with
    | none =>
      obtain ⟨rfl, rfl, rfl⟩ := hok
      have hm : m = 0 := by omega
      subst hm
      have hnews : news = [] := List.length_eq_zero_iff.1 (by rw [hsrc.newsLen]; simp)
      subst hnews
      refine o_val (run_builtin (s := Builtin.append_ #[t, tx] ty #[.slice none 0 0, v]) (vs := #[.slice none 0 0, v]) (v := .slice none 0 0) hargs (fun _ => rfl) ?_) (h none 0 w ?_)
      · rcases hsrc.kind with ⟨e', hk⟩ | hk <;> simp [Builtin.append_, run_underlying hT.und, run_underlying hk, sizeOf, typeInfo, hinf, hsrc.len, hsize, hsrc.cells]
      · have : L.set i (.own none (0 + 0) 0 ([] ++ []) e sz) = L := by
          apply List.ext_getElem?
          intro j
          by_cases hij : i = j
          · subst hij
            have hlt := (List.getElem?_eq_some_iff.1 hi).1
            rw [List.getElem?_set_self hlt, hi]; rfl
          · rw [List.getElem?_set_ne hij]
        rw [this]; exact H
    | some b =>
      obtain ⟨_, hle, hmx, rest, hw, hcap⟩ := hok
      have hrow := run_append_room_src (P := P) w t tx ty e inf hT.und hinf b 0 len cap v m news (by rw [hsize]; exact hsrc) hroom
        (fun j hj => by
          have : 0 + len * inf.size + j < (xs ++ rest).length := by
            rw [hcap, hsize, Nat.zero_add]
            have := hsrc.newsLen
            have h2 : (len + m) * sz ≤ cap * sz := Nat.mul_le_mul_right _ hroom
            rw [Nat.add_mul] at h2; omega
          simp only [World.cell?, hw]
          rw [List.getElem?_toArray, List.getElem?_eq_getElem this]; simp)
        (fun j hj => by simp [World.frozen?, hw])
      have hnl := hsrc.newsLen
      have hfit : len * sz + news.length ≤ (xs ++ rest).length := by
        rw [hcap, hnl, ← Nat.add_mul]; exact Nat.mul_le_mul_right _ hroom
      have hset : w.setCells b (0 + len * inf.size) news = w.setRow b (xs ++ news ++ rest.drop news.length).toArray := by
        have h1 := run_storeCells_at (P := P) b (0 + len * inf.size) e news 0 (xs ++ rest).toArray w hw (by simp only [List.size_toArray]; rw [hsize]; omega) hsrc.one
        have h2 := run_storeCells_cells (P := P) b (0 + len * inf.size) news 0 w
          (fun j hj => by
            have : 0 + len * inf.size + 0 + j < (xs ++ rest).length := by rw [hsize]; omega
            simp only [World.cell?, hw]
            rw [List.getElem?_toArray, List.getElem?_eq_getElem this]; simp)
          (fun j hj => by simp [World.frozen?, hw]) hsrc.one
        rw [h1] at h2
        simp only [Result.ok.injEq, true_and, Nat.add_zero, Nat.zero_add] at h2
        rw [Nat.zero_add, ← h2, hsize]
        congr 2
        rw [show len * sz = xs.length from hxl.symm]
        simp [List.drop_append]
      rw [hset] at hrow
      refine o_val (run_builtin (s := Builtin.append_ #[t, tx] ty #[.slice (some ⟨b, 0, none⟩) len cap, v]) (vs := #[.slice (some ⟨b, 0, none⟩) len cap, v]) hargs (fun _ => rfl) hrow) (h (some b) cap _ ?_)
      refine H.row hi rfl rfl hw fun w' hw' => ⟨by rw [List.length_append, hxl, hnl, Nat.add_mul], hroom, hmx, rest.drop news.length, hw', ?_⟩
      rw [← hcap]; simp only [List.length_append, List.length_drop]
      simp only [List.length_append] at hfit hcap
      rw [hxl] at *; omega
  · have hfc : (Builtin.firstCells inf.size len (.slice (hd a) len cap)).run P w.drew = .ok xs.toArray w.drew := by
      cases a with
      | none => obtain ⟨rfl, rfl, rfl⟩ := hok; exact run_firstCells_none w.drew inf.size 0 0 0
      | some b =>
        obtain ⟨h1, _, _, rest, hw, _⟩ := hok
        refine run_firstCells_some w.drew inf.size len ⟨b, 0, none⟩ len cap xs (by rw [h1, hsize]) fun j u hj => ?_
        rw [Addr.add_mid, World.cell?_drew]
        have hlt : j < xs.length := (List.getElem?_eq_some_iff.1 hj).1
        simp [World.cell?, hw, List.getElem?_append_left hlt, hj]
    have hrow := run_append_grow_src (P := P) w t tx ty e inf zv hT.und hinf hzv (hd a) len cap xs hfc v m news (by rw [hsize]; exact hsrc) (by omega) (by omega)
      (by rw [hby]; exact slicecap_le hbytes (by omega))
    have hgc := grownCap_ge w (len + m) cap e
    have hgm := grownCap_le_maxLen w (len + m) cap e (by simp [maxLen]; omega)
    generalize hcc : grownCap w (len + m) cap e = cc at *
    refine o_val (run_builtin (s := Builtin.append_ #[t, tx] ty #[.slice (hd a) len cap, v]) (vs := #[.slice (hd a) len cap, v]) hargs (fun _ => rfl) hrow) (h (some w.heap.size) cc _ ?_)
    have hL : (xs ++ news ++ (Builtin.zeroCells zv.cells (cc - (len + m))).toList).length = cc * sz := by
      simp only [List.length_append, Array.length_toList, size_zeroCells, hzs, hxl, hsrc.newsLen]
      rw [← Nat.add_mul, ← Nat.add_mul]; congr 1; omega
    refine H.drew.turn hi (c' := .own (some w.heap.size) (len + m) cc (xs ++ news) e sz) ⟨by rw [List.length_append, hxl, hsrc.newsLen, Nat.add_mul], hgc, hgm, (Builtin.zeroCells zv.cells (cc - (len + m))).toList, ?_, hL⟩
      (fun b hb => .inr (by cases hb; exact Nat.le_refl _)) rfl rfl rfl (by simp) (fun b hb _ => heap_alloc_old' _ _ _ (by simp at hb ⊢; omega))
    have := heap_alloc_new' w.drew (.cells ((xs ++ news).toArray ++ Builtin.zeroCells zv.cells (cc - (len + m))) e)
    simp only [World.size_drew] at this
    rw [this]
    congr 2
    apply Array.ext'
    simp
end
end Go.Proofs.Ytncmcgcilijfkaa
namespace Go.Proofs.Ytncmcgcilijfkaa
open Go
section
variable {P : Program} {Q : Exit → Act → World → Prop} {n : Nat} {σ : Nat → Value} {w w0 : World} {K : Act → World → Prop}
  {ty : TypeId} {pos : String} {aft : Array Edge} {g : Option (Nat × Bool)} {d : Nat} {t yt : TypeId} {x y z : Operand} {S : List Nat} {L : List Ch}
/-- 'make([]T, l, c)', elements of one cell. -/
theorem o_make {e : TypeId} {bytes l c : Nat} {k k' : IntKind} {li ci : Int} {zv : Value} (H : Hp w0 w S L) (hT : SlTy P t e 1 bytes) (hz : zeroCells P e = some [zv]) (hx : ev n σ x = .int k li) (hy : ev n σ y = .int k' ci)
    (hl : li = (l : Int)) (hc : ci = (c : Int)) (hlc : l ≤ c) (hb : bytes * c ≤ 281474976710656) (h63 : c ≤ maxLen)
    (h : ∀ b w', Hp w0 w' S (L ++ [.blk b (List.replicate c zv) e]) → w0.heap.size ≤ b → K (mk n (up σ d (.slice (some ⟨b, 0, none⟩) l c))) w') :
    Oper.wp P ⟨some d, .makeSlice t x y, ty, pos, aft, g⟩ (mk n σ) w K Q := by
  obtain ⟨i, z0, hi, hz0, hs, hby, hzs⟩ := hT.row
  subst hl hc
  have hzc : z0.cells.toList = [zv] := by simpa [zeroCells, hi, hz0] using hz
  have hzc' : z0.cells = #[zv] := by apply Array.ext'; simpa using hzc
  have h63' : (c : Int) ≤ 9223372036854775807 := Int.ofNat_le.2 h63
  have hr := run_make (P := P) (w := w) t e i z0 hT.und hi hz0 k k' (l : Int) (c : Int) (by omega) (by omega) (by rw [hby]; exact Int.ofNat_le.2 hb) h63'
  have e1 : madeCells z0.cells ((c : Int).toNat * i.size) = (List.replicate c zv).toArray := by
    rw [hzc', hs, Nat.mul_one, Int.toNat_natCast]
    apply Array.ext'
    exact toList_madeCells_one zv c
  rw [e1] at hr
  refine o_val (by simp only [execOp, hx, hy, Sem.run_bind, hr, Result.andThen_ok, Int.toNat_natCast]; rfl) (h w.heap.size _ (H.alloc _ e) H.size)
theorem run_bsl {e : TypeId} {sz bytes len : Nat} {zs : List Value} {cells : Array Value} (hT : SlTy P t e sz bytes) (hz : zeroCells P e = some zs) (_hs : 0 < sz) (hlen : len * sz ≤ 16777216) (parts : Array (Nat × Value))
    (hf : Instr.fill (fun i => some (i * sz, sz)) ((Array.range (len * sz)).map (zs.toArray[· % zs.toArray.size]!)) parts.toList = some cells) :
    (Instr.buildSlice t len parts).run P w = .ok (.slice (some ⟨w.heap.size, 0, none⟩) len len) (w.alloc (.cells cells e)) := by
  obtain ⟨i, z0, hi, hz0, hsz, hby, hzs⟩ := hT.row
  have hzc : z0.cells = zs.toArray := by
    have : z0.cells.toList = zs := by simpa [zeroCells, hi, hz0] using hz
    apply Array.ext'; simpa using this
  have h1 : (sizeOf e).run P w = .ok sz w := run_sizeOf_sz (by simp [cellSz, hi, hsz]) w
  have h2 : (zeroValue e).run P w = .ok z0 w := by simp [zeroValue, typeInfo, hi, hz0]
  have hn : ¬ (len * sz > 2 ^ 24) := by omega
  have fin : ∀ zz : Array Value, Instr.fill (fun i => some (i * sz, sz)) ((Array.range (len * sz)).map (zz[· % zz.size]!)) parts.toList = some cells →
      (match Instr.fill (fun i => some (i * sz, sz)) ((Array.range (len * sz)).map (zz[· % zz.size]!)) parts.toList with
        | some cells => (do pure (.slice (some (← newRow e cells)) len len) : Sem Value)
        | _ => stuck "buildSlice: a part of the wrong size").run P w = .ok (.slice (some ⟨w.heap.size, 0, none⟩) len len) (w.alloc (.cells cells e)) := by
    intro zz hzz
    rw [hzz]
    simp [newRow]
  unfold Instr.buildSlice
  rw [Sem.run_bind, run_underlying hT.und]
  simp only [Result.andThen_ok]
  rw [Sem.run_bind, h1]
  simp only [Result.andThen_ok]
  rw [if_neg hn]
  by_cases h0 : len * sz = 0
  · have e1 : ∀ zz : Array Value, (Array.range (len * sz)).map (zz[· % zz.size]!) = #[] := fun zz => by
      rw [h0]; apply Array.ext'; simp
    rw [if_pos h0, Sem.run_bind, Sem.run_pure]
    simp only [Result.andThen_ok]
    exact fin #[] (by rw [e1, ← e1 zs.toArray]; exact hf)
  · rw [if_neg h0, Sem.run_bind, h2]
    simp only [Result.andThen_ok]
    rw [Sem.run_bind, Sem.run_pure]
    simp only [Result.andThen_ok]
    exact fin z0.cells (by rw [hzc]; exact hf)
/-- a slice literal. -/
theorem o_bsl {e : TypeId} {sz bytes len : Nat} {parts : Array (Nat × Operand)} {zs : List Value} {pv : List (Nat × Value)} {cells : Array Value} (H : Hp w0 w S L) (hT : SlTy P t e sz bytes) (hz : zeroCells P e = some zs) (hs : 0 < sz)
    (hp0 : pvs n σ parts.toList = pv) (hlen : len * sz ≤ 16777216)
    (hf : Instr.fill (fun i => some (i * sz, sz)) ((Array.range (len * sz)).map (zs.toArray[· % zs.toArray.size]!)) pv = some cells)
    (h : ∀ b w', Hp w0 w' S (L ++ [.blk b cells.toList e]) → w0.heap.size ≤ b → K (mk n (up σ d (.slice (some ⟨b, 0, none⟩) len len))) w') :
    Oper.wp P ⟨some d, .buildSlice t len parts, ty, pos, aft, g⟩ (mk n σ) w K Q := by
  have hp : (parts.map fun (i, x) => (i, ev n σ x)).toList = pv := by rw [← hp0, pvs_eq, Array.toList_map]
  refine o_val (v := .slice (some ⟨w.heap.size, 0, none⟩) len len) (w' := w.alloc (.cells cells e)) ?_ (h _ _ (by simpa using H.alloc cells.toList e) H.size)
  have hr := run_bsl (P := P) (w := w) hT hz hs hlen (parts.map fun (i, x) => (i, ev n σ x)) (by rw [hp]; exact hf)
  simp only [execOp, Sem.run_bind, hr, Result.andThen_ok]
  rfl
/-- how a type is built: its zero, and where its parts lie. -/
structure Bld (P : Program) (t : TypeId) (zs : Array Value) (places : Nat → Option (Nat × Nat)) : Prop where
  eq : ∀ parts, P.built t parts = Instr.fill places zs parts
def placesOf (P : Program) (t : TypeId) : Option (Array (Nat × Nat)) :=
  match P.underlying t with
  | some (.struct fs) => (fs.toList.mapM fun f => (P.info? f.type).map fun i => (f.offset, i.size)).map (·.toArray)
  | _ => none
theorem Bld.str {t : TypeId} {pl : Array (Nat × Nat)} {zs : List Value} (h1 : placesOf P t = some pl) (h2 : zeroCells P t = some zs) : Bld P t zs.toArray fun i => pl[i]? := by
  constructor
  intro parts
  unfold placesOf at h1
  cases hu : P.underlying t with
  | none => simp [hu] at h1
  | some ds =>
    cases ds <;> simp only [hu] at h1 <;> try (cases h1)
    rename_i fs
    cases hm : fs.toList.mapM (fun f => (P.info? f.type).map fun i => (f.offset, i.size)) with
    | none => simp [hm] at h1
    | some places =>
      simp only [hm, Option.map_some, Option.some.injEq] at h1
      subst h1
      unfold zeroCells at h2
      cases hi : P.info? t with
      | none => simp [hi] at h2
      | some i =>
        cases hz : i.zero with
        | none => simp [hi, hz] at h2
        | some z =>
          simp [hi, hz] at h2
          have : z.cells = zs.toArray := by apply Array.ext'; simpa using h2
          simp only [Program.built, hi, hu, hz, hm, this]
def en : Nat → List Value → List (Nat × Value)
  | _, [] => []
  | i, v :: l => (i, v) :: en (i + 1) l
theorem fill_en_aux : ∀ (vs A : List Value) (B : List Value), (∀ v ∈ vs, v.oneCell' = true) → vs.length = B.length → Instr.fill (fun i => some (i * 1, 1)) (A ++ B).toArray (en A.length vs) = some (A ++ vs).toArray
  | [], A, B, _, hl => by
    have : B = [] := List.length_eq_zero_iff.1 (by simpa using hl.symm)
    subst this; simp [en, Instr.fill]
  | v :: vs, A, [], _, hl => by simp at hl
  | v :: vs, A, b :: B, h1, hl => by
    have hv := h1 v (by simp)
    have hc : v.cells = #[v] := by cases v <;> simp_all [Value.cells, Value.oneCell']
    have ih := fill_en_aux vs (A ++ [v]) B (fun u hu => h1 u (by simp [hu])) (by simpa using hl)
    simp only [List.length_append, List.length_singleton, List.append_assoc, List.singleton_append] at ih
    simp only [en, Instr.fill, hc, Nat.mul_one]
    rw [if_neg (by simp)]
    have e : (#[v] : Array Value).zipIdx = #[(v, 0)] := by simp [Array.zipIdx]
    rw [← ih]
    congr 1
    · funext i; rw [Nat.mul_one]
    · rw [e]
      apply Array.ext'
      simp []
theorem fill_en {zs : List Value} (vs : List Value) (h1 : vs.toArray.all (·.oneCell') = true) (hl : vs.length = zs.length) : Instr.fill (fun i => some (i * 1, 1)) zs.toArray (en 0 vs) = some vs.toArray := by
  have := fill_en_aux vs [] zs (by rw [List.all_toArray] at h1; simpa using h1) hl
  simpa using this
/-- 'copy' onto cells of a known block. -/
theorem o_copy {b o i : Nat} {C : List Value} {T e e' : TypeId} {sz dLen dCap sLen sCap : Nat} {a : Option Addr} {vs : List Value} {tx : TypeId} (H : Hp w0 w S L) (hi : L[i]? = some (.blk b C T)) (hu : P.underlying t = some (.slice e)) (hu' : P.underlying tx = some (.slice e')) (hs : cellSz P e = some sz) (hsz : 0 < sz)
    (hx : ev n σ x = .slice (some ⟨b, o, none⟩) dLen dCap) (hy : ev n σ y = .slice a sLen sCap) (hr : RdS w a vs) (hl : vs.length = sLen * sz) (h1 : ∀ u ∈ vs, u.oneCell' = true) (hfit : o + dLen * sz ≤ C.length)
    (h : ∀ w', Hp w0 w' S (L.set i (.blk b (C.take o ++ vs.take (min sLen dLen * sz) ++ C.drop (o + min sLen dLen * sz)) T)) → K (mk n (up σ d (VI ((min sLen dLen : Nat) : Int)))) w') :
    Oper.wp P ⟨some d, .call ⟨.builtin .copy, #[x, y], #[t, tx]⟩, ty, pos, aft, g⟩ (mk n σ) w K Q := by
  have hmin : min sLen dLen * sz ≤ vs.length := by rw [hl]; exact Nat.mul_le_mul_right _ (Nat.min_le_left _ _)
  have hmin2 : min sLen dLen * sz ≤ dLen * sz := Nat.mul_le_mul_right _ (Nat.min_le_right _ _)
  have hlen : (vs.take (min sLen dLen * sz)).length = min sLen dLen * sz := by rw [List.length_take]; omega
  have hst := run_storeCells_at (P := P) b o T (vs.take (min sLen dLen * sz)) 0 C.toArray w (H.blk hi) (by rw [hlen]; simp; omega) (fun v hv => h1 v (List.mem_of_mem_take hv))
  rw [hlen] at hst
  simp only [Nat.add_zero] at hst
  have hfc : (Builtin.firstCells sz (min sLen dLen) (.slice a sLen sCap)).run P w = .ok (vs.take (min sLen dLen * sz)).toArray w := by
    have hsrc : Src P sz tx (.slice a (min sLen dLen) sCap) (min sLen dLen) (vs.take (min sLen dLen * sz)) w :=
      (hr.take _).src hu' hlen hsz (fun v hv => h1 v (List.mem_of_mem_take hv))
    have := hsrc.cells
    cases a <;> exact this
  have hsz' := run_sizeOf_sz hs w
  refine o_val (run_builtin (s := Builtin.copy_ #[t, tx] ty #[.slice (some ⟨b, o, none⟩) dLen dCap, .slice a sLen sCap]) (vs := #[.slice (some ⟨b, o, none⟩) dLen dCap, .slice a sLen sCap]) (v := VI ((min sLen dLen : Nat) : Int))
    (w' := w.setRow b (C.take o ++ vs.take (min sLen dLen * sz) ++ C.drop (o + min sLen dLen * sz)).toArray) (by simp [hx, hy]) (fun _ => rfl) ?_) (h _ (H.row hi rfl rfl (H.blk hi) fun w' hw => hw))
  have hnat : Nat.min sLen dLen = min sLen dLen := rfl
  simp only [List.append_assoc] at hst ⊢
  simp [Builtin.copy_, run_underlying hu, Builtin.lenOf, hsz', hnat, hfc, hst, goInt]
theorem wp_held {id : Nat} {l : List Oper} {a : Act} (S' : World → Prop) (hm : P.follows .mixedOrders = true)
    (h : wpAnyH P .any l.toArray Q S' l.length (Array.replicate l.length false) a w.drew) : (Code.region id l.toArray true).wp P Q a w :=
  wp_region_held hm (by simpa using h)
end
end Go.Proofs.Ytncmcgcilijfkaa
namespace Go.Proofs.Ytncmcgcilijfkaa
open Go
section
variable {P : Program} {Q : Exit → Act → World → Prop} {n : Nat} {σ : Nat → Value} {w w0 : World} {K : Act → World → Prop}
  {ty : TypeId} {pos : String} {aft : Array Edge} {g : Option (Nat × Bool)} {d : Nat} {t yt : TypeId} {x y z : Operand} {S : List Nat} {L : List Ch} {op : BinOp}
theorem r_mv {x : Operand}  :
    (execOp (ev n σ) ⟨some d, .move x, ty, pos, aft, g⟩).run P w = .ok (.value ((ev n σ x))) w :=
  (by simp [execOp])
theorem r_as {x : Operand}  :
    (execOp (ev n σ) ⟨some d, .assign x, ty, pos, aft, g⟩).run P w = .ok (.value ((ev n σ x))) w :=
  (by simp [execOp])
theorem r_pick {c x y : Operand} {b : Bool} (hc : ev n σ c = .bool b)  :
    (execOp (ev n σ) ⟨some d, .pick c x y, ty, pos, aft, g⟩).run P w = .ok (.value ((bif b then ev n σ x else ev n σ y))) w :=
  (by cases b <;> simp [execOp, hc, asBool])
theorem r_ext {x : Operand} {i : Nat} {vs : Array Value} {v : Value} (hx : ev n σ x = .tuple vs) (hv : vs[i]? = some v)  :
    (execOp (ev n σ) ⟨some d, .extract x i, ty, pos, aft, g⟩).run P w = .ok (.value (v)) w :=
  (by simp [execOp, hx, Instr.extract, hv])
theorem r_nilc {x : Operand} {a : Addr} (hx : ev n σ x = .pointer (some a))  :
    (execOp (ev n σ) ⟨some d, .nilCheck x, ty, pos, aft, g⟩).run P w = .ok (.value ((.pointer (some a)))) w :=
  (by simp [execOp, hx])
theorem r_not {x : Operand} {b : Bool} {t : TypeId} (hx : ev n σ x = .bool b)  :
    (execOp (ev n σ) ⟨some d, .unOp .not t x, ty, pos, aft, g⟩).run P w = .ok (.value ((.bool (!b)))) w :=
  (by simp [execOp, hx, Op.unary])
theorem r_bin {k : IntKind} {a b : Int} {v : Value} (hx : ev n σ x = .int k a) (hy : ev n σ y = .int k b)
    (hr : ∀ w : World, (binOp op t (.int k a) (.int k b)).run P w = .ok v w)  :
    (execOp (ev n σ) ⟨some d, .binOp op t x y yt, ty, pos, aft, g⟩).run P w = .ok (.value (v)) w :=
  (by
    have he : (eqGuard op t x y (.int k a) (.int k b)).run P w = .ok () w := by
      unfold eqGuard
      cases op <;> simp
    simp [execOp, hx, hy, he, hr])
theorem r_fa {b o i k : Nat} (hx : ev n σ x = .pointer (some ⟨b, o, none⟩)) (hf : fieldOff P t i = some k)  :
    (execOp (ev n σ) ⟨some d, .fieldAddr t x i, ty, pos, aft, g⟩).run P w = .ok (.value ((.pointer (some ⟨b, o + k, none⟩)))) w := by
  unfold fieldOff at hf
  cases hu : P.underlying t with
  | none => simp [hu] at hf
  | some ds =>
    cases ds <;> simp only [hu] at hf <;> try (cases hf)
    rename_i fs
    cases hfs : fs[i]? with
    | none => simp [hfs] at hf
    | some f =>
      cases hj : P.info? f.type with
      | none => simp [hfs, hj] at hf
      | some j =>
        simp only [hfs, hj, Option.bind_some] at hf
        split at hf
        · cases hf
        · cases hf
          rename_i hsz
          simp [execOp, hx, Instr.fieldAt, run_underlying hu, hfs, Instr.sureAddr, fieldPlace, sizeOf, typeInfo, hj, hsz, Addr.add_mid]
theorem r_ld {b o i : Nat} {C : List Value} {T : TypeId} {v : Value} (H : Hp w0 w S L) (hi : L[i]? = some (.blk b C T)) (hx : ev n σ x = .pointer (some ⟨b, o, none⟩)) (ht : cellTy P t = true) (hv : C[o]? = some v)  :
    (execOp (ev n σ) ⟨some d, .load t x, ty, pos, aft, g⟩).run P w = .ok (.value (v)) w :=
  (by
    have hc : w.cell? ⟨b, o, none⟩ = some v := by simp [World.cell?, H.blk hi, hv]
    simp [execOp, hx, run_loadAt_cell ht hc])
theorem r_lds {b o i : Nat} {a : Option Addr} {vs : List Value} {v : Value} (hr : RdS w a vs) (ha : a = some ⟨b, o, none⟩) (hx : ev n σ x = .pointer (some ⟨b, o + i, none⟩)) (ht : cellTy P t = true) (hv : vs[i]? = some v)  :
    (execOp (ev n σ) ⟨some d, .load t x, ty, pos, aft, g⟩).run P w = .ok (.value (v)) w :=
  (by
    obtain ⟨b', o', ha', hc⟩ := hr.cell hv
    rw [ha] at ha'; cases ha'
    simp [execOp, hx, run_loadAt_cell ht hc])
theorem r_sl {lo hi mx : Option Operand} {a : Option Addr} {len cap sz l h m : Nat} {lv hv mv : Option Value} (hx : ev n σ x = .slice a len cap) (ht : eltOf P t = some sz)
    (hl : lo.map (ev n σ) = lv) (hh : hi.map (ev n σ) = hv) (hm : mx.map (ev n σ) = mv) (hb : ∀ w, (Instr.sliceBounds true len cap lv hv mv).run P w = .ok (l, h, m) w)  :
    (execOp (ev n σ) ⟨some d, .slice t x lo hi mx, ty, pos, aft, g⟩).run P w = .ok (.value ((.slice (sa a l m sz) (h - l) (m - l)))) w := by
  unfold eltOf at ht
  cases hu : P.underlying t with
  | none => simp [hu] at ht
  | some ds =>
    cases ds <;> simp only [hu] at ht <;> try (cases ht)
    rename_i e
    cases hj : P.info? e with
    | none => simp [hj] at ht
    | some j =>
      simp only [hj, Option.map_some, Option.some.injEq] at ht
      subst ht
      simp [execOp, hx, hl, hh, hm, Instr.sliceAt, Instr.slice, run_underlying hu, hb, sizeOf, typeInfo, hj, sa]
theorem r_lens {a : Option Addr} {len cap : Nat} {sz : Nat} (ht : eltOf P t = some sz) (hx : ev n σ x = .slice a len cap)  :
    (execOp (ev n σ) ⟨some d, .call ⟨.builtin .len, #[x], #[t]⟩, ty, pos, aft, g⟩).run P w = .ok (.value ((VI len))) w :=
  (run_builtin (s := Builtin.len_ #[t] ty #[.slice a len cap]) (vs := #[.slice a len cap]) (by simp [hx]) (fun _ => rfl) (by
    unfold eltOf at ht
    cases hu : P.underlying t with
    | none => simp [hu] at ht
    | some ds =>
      cases ds <;> simp only [hu] at ht <;> try (cases ht)
      simp [Builtin.len_, run_underlying hu, goInt]))
theorem r_is {a : Option Addr} {b o len cap sz : Nat} {k : IntKind} {i : Int} (hx : ev n σ x = .slice a len cap) (hy : ev n σ y = .int k i) (ha : eltOf P t = some sz) (hb : a = some ⟨b, o, none⟩) (h0 : 0 ≤ i) (h1 : i < len) :
    (execOp (ev n σ) ⟨some d, .indexAddr t x y, ty, pos, aft, g⟩).run P w = .ok (.value (.pointer (some ⟨b, o + i.toNat * sz, none⟩))) w := by
  subst hb
  unfold eltOf at ha
  cases hu : P.underlying t with
  | none => simp [hu] at ha
  | some ds =>
    cases ds <;> simp only [hu] at ha <;> try (cases ha)
    rename_i e
    cases hj : P.info? e with
    | none => simp [hj] at ha
    | some j =>
      simp only [hj, Option.map_some, Option.some.injEq] at ha
      subst ha
      simp [execOp, hx, hy, Instr.indexAt, run_underlying hu, asIntOf, h0, h1, sizeOf, typeInfo, hj, Addr.add_mid]
variable {ops : Array Oper} {S' : World → Prop} {fuel : Nat} {listed : Array Bool} {dst : Option Tmp} {oo : Op}
/-- operation i only looks, and may be taken first. -/
theorem t_take (i : Nat) {v : Value} (hi : ops[i]? = some ⟨some d, oo, ty, pos, aft, none⟩) (hs : Region.noSelect ops = true) (hf : Region.free .any ops listed i = true) (hr : (Region.ready .any ops listed).contains i = true)
    (hQ : ∀ c a w, Q (.panic c) (a.put (some d) v) w → Q (.panic c) a w)
    (hy : ∀ w, S' w → (execOp (ev n σ) ⟨some d, oo, ty, pos, aft, none⟩).run P w = .ok (.value v) w) (hS : S' w)
    (h : wpAnyH P .any ops Q S' fuel (listed.setIfInBounds i true) (mk n (up σ d v)) w) : wpAnyH P .any ops Q S' (fuel + 1) listed (mk n σ) w :=
  wpAnyH_take (v := v) hi hs hf hr hQ (.inl ⟨rfl, fun w hw => by rw [mk_evalf]; exact hy w hw⟩) hS (by show wpAnyH P .any ops Q S' fuel _ ((mk n σ).put (some d) v) w; rw [mk_put]; exact h)
/-- the one operation that may come up is carried out. -/
theorem t_step (i : Nat) {a : Act} (hi : ops[i]? = some ⟨dst, oo, ty, pos, aft, none⟩) (hr : Region.ready .any ops listed = [i])
    (h : Oper.wp P ⟨dst, oo, ty, pos, aft, none⟩ a w (fun a' w' => S' w' ∧ wpAnyH P .any ops Q S' fuel (listed.setIfInBounds i true) a' w') Q) : wpAnyH P .any ops Q S' (fuel + 1) listed a w :=
  wpAnyH_all hr (by simp) (by
    simp only [List.mem_singleton, forall_eq]
    unfold wpOp
    simp only [hi]
    rw [if_pos (by simp [Region.wanted])]
    exact .inl h)
theorem t_done {a : Act} (hr : Region.ready .any ops listed = []) (h : Q .normal a w) : wpAnyH P .any ops Q S' fuel listed a w := wpAnyH_done hr h fuel
theorem Hp.perm {L' : List Ch} (h : Hp w0 w S L) (hp : L.Perm L') : Hp w0 w S L' :=
  ⟨h.os, h.tape, h.output, h.size, h.frame, fun c hc => h.has c (hp.mem_iff.2 hc), fun c hc => h.fresh c (hp.mem_iff.2 hc),
    (hp.pairwise_iff (fun {_x _y} hxy b hb hx => hxy b hx hb)).1 h.nd⟩
variable {Qs : Act → Prop} {rest : List Oper}
/-- what a call hands back, always by returning. -/
def Ret (P : Program) (f : FuncId) (vs : List Value) (w : World) (R : Value → World → Prop) : Prop := Calls P f vs.toArray w fun e w' => ∃ v, e = .returned v ∧ R v w'
theorem Ret.mono {f : FuncId} {vs : List Value} {R R' : Value → World → Prop} (h : Ret P f vs w R) (hr : ∀ v w', R v w' → R' v w') : Ret P f vs w R' :=
  Calls.mono h fun _e w' ⟨v, he, hv⟩ => ⟨v, he, hr v w' hv⟩
theorem o_callR {f : FuncId} {fn : Func} {args : Array Operand} {ats : Array TypeId} {vs : List Value} {R : Value → World → Prop} (hf : P.funcs[f]? = some fn) (hb : fn.body.isSome = true) (hname : (fn.name == "runtime.NumGoroutine") = false)
    (ha : evs n σ args.toList = vs) (hc : Ret P f vs w R) (h : ∀ v w', R v w' → K (mk n (up σ d v)) w') :
    Oper.wp P ⟨some d, .call ⟨.value (.func f), args, ats⟩, ty, pos, aft, g⟩ (mk n σ) w K Q :=
  o_call hf hb hname (vs := vs.toArray) (by apply Array.ext'; rw [← ha, evs_eq]; simp) (Calls.mono hc fun e w' ⟨v, he, hv⟩ => by subst he; exact h v w' hv)
theorem ret_mk {f : FuncId} {fn : Func} {c : Code} {args : List Value} {R : Value → World → Prop} {n : Nat}
    (hf : P.funcs[f]? = some fn) (hb : fn.body = some c) (hn : fn.ntmps = n) (hle : args.length ≤ n)
    (h : c.wp P (bodyPost P fn fun e w' => ∃ v, e = .returned v ∧ R v w') (mk n (fun t => args.getD t undef)) w) : Ret P f args w R :=
  calls_mk hf hb hn hle h
end
end Go.Proofs.Ytncmcgcilijfkaa
namespace Go.Proofs.Ytncmcgcilijfkaa
open Go
section
variable {P : Program} {Q : Exit → Act → World → Prop} {n : Nat} {σ : Nat → Value} {w : World} {K : Act → World → Prop}
  {ty : TypeId} {pos : String} {aft : Array Edge} {g : Option (Nat × Bool)} {d : Nat} {t yt : TypeId} {x y : Operand}
theorem b_eqlB {k : IntKind} {a b : Int} (v : Bool) (h : decide (a = b) = v) : (binOp .eql t (.int k a) (.int k b)).run P w = .ok (.bool v) w := by rw [← h]; exact b_eql
theorem b_neqB {k : IntKind} {a b : Int} (v : Bool) (h : decide (a ≠ b) = v) : (binOp .neq t (.int k a) (.int k b)).run P w = .ok (.bool v) w := by rw [← h]; exact b_neq
end
end Go.Proofs.Ytncmcgcilijfkaa
namespace Go.Proofs.Ytncmcgcilijfkaa
open Go
set_option maxRecDepth 100000
section
variable {P : Program} {Q : Exit → Act → World → Prop} {n : Nat} {σ : Nat → Value} {w w0 : World} {K : Act → World → Prop}
  {ty : TypeId} {pos : String} {aft : Array Edge} {g : Option (Nat × Bool)} {d : Nat} {t : TypeId} {x : Operand} {S : List Nat} {L : List Ch}
end
/-- a slice of bytes as a world has it. -/
structure Sl where
  a : Option Addr
  len : Nat
  cap : Nat
  l : List UInt8
def Sl.v (s : Sl) : Value := .slice s.a s.len s.cap
structure Sl.ok (s : Sl) (w : World) : Prop where
  rd : RdS w s.a (s.l.map V8)
  ln : s.l.length = s.len
  le : s.len ≤ s.cap
  mx : s.len ≤ 9223372036854775807
theorem Hp.rd' {w0 w : World} {S : List Nat} {L : List Ch} (h : Hp w0 w S L) {a : Option Addr} {vs : List Value} (hr : RdS w0 a vs) (hap : vs ≠ [] → Apart a S) : RdS w a vs := by
  by_cases hv : vs = []
  · exact .inl hv
  · exact h.rd hr (hap hv)
theorem Sl.ok.up {x : Sl} {w0 w : World} {S : List Nat} {L : List Ch} (hx : x.ok w0) (H : Hp w0 w S L) (hap : x.l ≠ [] → Apart x.a S) : x.ok w :=
  ⟨H.rd' hx.rd (fun h => hap (by simpa using h)), hx.ln, hx.le, hx.mx⟩
theorem Sl.ok.apart {x : Sl} {w0 : World} (hx : x.ok w0) {b : Nat} (hb : w0.heap.size ≤ b) : x.l ≠ [] → Apart x.a [b] := by
  intro hne y hy
  rcases hx.rd with h | ⟨b', o, C, T, fr, ha, hh, _⟩
  · exact absurd (by simpa using h) hne
  · rw [ha] at hy
    cases hy
    have := (Array.getElem?_eq_some_iff.1 hh).1
    simp only [List.mem_singleton]; omega
theorem fills (z : Value) (vs : List Value) (len : Nat) (h1 : ∀ v ∈ vs, v.oneCell' = true) (hl : vs.length = len) : Instr.fill (fun i => some (i * 1, 1)) ((Array.range (len * 1)).map (([z].toArray)[· % ([z].toArray).size]!)) (en 0 vs) = some vs.toArray := by
  have := fill_en (zs := ((Array.range (len * 1)).map (([z].toArray)[· % ([z].toArray).size]!)).toList) vs (by rw [List.all_toArray, List.all_eq_true]; exact h1) (by simp [hl])
  rwa [Array.toArray_toList] at this
theorem Hp.apart {w0 w : World} {S : List Nat} {L : List Ch} (H : Hp w0 w S L) {i j b b' o : Nat} {c c' : Ch} (hi : L[i]? = some c) (hj : L[j]? = some c') (hij : i ≠ j) (hk : c.key = some b) (hk' : c'.key = some b') : Apart (some ⟨b, o, none⟩) [b'] := by
  intro x hx
  cases hx
  simp only [List.mem_singleton]
  intro e
  have := pw_ne H.nd hi hj hij hk
  exact this (by rw [hk', e])
theorem Hp.nilOwn {w0 w : World} {S : List Nat} {L : List Ch} (H : Hp w0 w S L) (T : TypeId) (sz : Nat) : Hp w0 w S (.own none 0 0 [] T sz :: L) :=
  ⟨H.os, H.tape, H.output, H.size, H.frame, fun c hc => by
    rcases List.mem_cons.1 hc with rfl | h
    · exact ⟨rfl, rfl, rfl⟩
    · exact H.has c h, fun c hc b hk => by
    rcases List.mem_cons.1 hc with rfl | h
    · cases hk
    · exact H.fresh c h b hk, List.pairwise_cons.2 ⟨fun _ _ _ h => (by cases h), H.nd⟩⟩
theorem Sl.ok.take {s : Sl} {w : World} (h : s.ok w) (n : Nat) (hn : n ≤ s.len) : (⟨s.a, n, s.cap, s.l.take n⟩ : Sl).ok w :=
  ⟨by have := h.rd.take n; rwa [← List.map_take] at this, by simp only [List.length_take]; have := h.ln; omega, Nat.le_trans hn h.le, Nat.le_trans hn h.mx⟩
theorem Sl.ok.drop {s : Sl} {w : World} (h : s.ok w) (n : Nat) (hn : n ≤ s.len) : (⟨sa s.a n s.cap 1, s.len - n, s.cap - n, s.l.drop n⟩ : Sl).ok w :=
  ⟨by have := h.rd.sa n s.cap 1 (by have := h.ln; have := h.le; simp; omega); rwa [Nat.mul_one, ← List.map_drop] at this, by simp only [List.length_drop]; have := h.ln; omega, by have := h.le; simp only; omega, by have := h.mx; simp only; omega⟩
end Go.Proofs.Ytncmcgcilijfkaa
namespace Go.Proofs.Ytncmcgcilijfkaa
open Go Go.ChangeShapes Go.WideShapes Go.ChangeAt Go.RowKit
theorem Try.own : ownKnob Try.prog.godebug = none := by kernel_rfl
theorem Try.laidOut : laidOutB Try.prog = true := by kernel_rfl
section
variable {H : Type} {enc : TypeId × Value → H} {P : Program}
theorem trodAll_stays (hl : laidOutB P = true) {W W' : World} (hb : Below W.heap.size W W') :
    ∀ {ts : List TypeId} {vs : List Value} {ds : List (DataW H)} {ps : List MemPlace}, (∀ t ∈ ts, P.readableRec t = true ∧ t < P.types.size) → DataW.TrodAll enc P W 0 (fun _ => true) true ts vs ds ps → (∀ x ∈ ps, x.block < W.heap.size) →
      DataW.TrodAll enc P W' 0 (fun b => decide (b < W.heap.size)) true ts vs ds ps
  | [], _, _, _, _, h, _ => by
    obtain ⟨rfl, rfl, rfl⟩ := trodAll_nil h
    exact trodAll_mk0
  | t :: ts, _, _, _, ht, h, hlt => by
    obtain ⟨v, vs, d, ds, p, q, rfl, rfl, rfl, h1, h2⟩ := trodAll_cons h
    exact ⟨p, q, Below.trod hl (ht t (by simp)).1 (ht t (by simp)).2 h1 hb (fun x hx => hlt x (by simp [hx])), trodAll_stays hl hb (fun u hu => ht u (by simp [hu])) h2 (fun x hx => hlt x (by simp [hx])), rfl⟩
theorem trod_bool (tb : TypeId) (hb : P.underlying tb = some .bool) (w : World) (b : Bool) (base : Nat) (sp : Nat → Bool) (held : Bool) : DataW.Trod enc P w base sp held tb (.bool b) (.lit (.bool b)) [] := ⟨1, by simp [DataW.trod, hb, Value.cells]⟩
/-- what a law leaves: true, and all as it was. -/
theorem post_law {f : Func} {s : ChangeSpec} {apart fresh handsOn : Bool} {W W' : World} {args : Array Value} {ds gs : List (DataW H)} {before : List MemPlace} {tb : TypeId} (hl : laidOutB P = true)
    (hts : ∀ t ∈ f.params.toList, P.readableRec t = true ∧ t < P.types.size) (hW : DataW.Whole enc P f.params.toList s.vars apart W args.toList ds gs before) (hH : Hp W W' [] []) (hv : s.vars = [])
    (hs : s.fn H ds = { results := [.lit (.bool true)], args := ds }) (hr : f.resultTypes = #[tb]) (hb : P.underlying tb = some .bool) : s.post enc P f apart fresh handsOn false W args (.bool true) W' := by
  have hlt := hW.lt
  have hW' := hW
  obtain ⟨p, q, hA, hV, rfl, _, _⟩ := hW
  rw [hv] at hV
  cases gs with
  | cons g gs => simp [DataW.TrodVars] at hV
  | nil =>
    have hq : q = [] := by simpa [DataW.TrodVars] using hV
    subst hq
    have hbel := hH.below
    have hs' : s.fn H (ds ++ []) = { results := [.lit (.bool true)], args := ds } := by rw [List.append_nil]; exact hs
    have hvl : (Value.bool true).resultList f.resultTypes.size = [.bool true] := by rw [hr]; rfl
    refine ⟨ds, [], p ++ [], [], p, [], hW', ?_, ?_, ?_, hbel.frame _, fun h => by cases h⟩
    · rw [hs', hvl, hr]
      exact trodAll_mk1 (trod_bool tb hb W' true _ _ _)
    · rw [hs']
      exact trodAll_stays hl hbel hts hA (fun x hx => hlt x (by simp [hx]))
    · rw [hs', hv]; rfl
theorem law_calls {f : FuncId} {fn : Func} {s : ChangeSpec} {apart fresh handsOn : Bool} {W : World} {args : Array Value} {ds gs : List (DataW H)} {before : List MemPlace} {tb : TypeId} (hl : laidOutB P = true)
    (hts : ∀ t ∈ fn.params.toList, P.readableRec t = true ∧ t < P.types.size) (hW : DataW.Whole enc P fn.params.toList s.vars apart W args.toList ds gs before) (hv : s.vars = [])
    (hs : s.fn H ds = { results := [.lit (.bool true)], args := ds }) (hr : fn.resultTypes = #[tb]) (hb : P.underlying tb = some .bool)
    (h : Ret P f args.toList W fun v w' => v = .bool true ∧ Hp W w' [] []) : Calls P f args W fun e W' => ∃ v, e = .returned v ∧ s.post enc P fn apart fresh handsOn false W args v W' := by
  have h' : Calls P f args W fun e w' => ∃ v, e = .returned v ∧ v = .bool true ∧ Hp W w' [] [] := by simpa [Ret] using h
  exact Calls.mono h' fun e w' ⟨v, he, hv', hH⟩ => ⟨v, he, by subst hv'; exact post_law hl hts hW hH hv hs hr hb⟩
end
/-- the facts on the types of a law's parameters. -/
def tyOk (P : Program) (ts : List TypeId) : Bool := ts.all fun t => P.readableRec t && decide (t < P.types.size)
theorem tyOk_all {ts : List TypeId} (h : tyOk Try.prog ts = true) : ∀ t ∈ ts, Try.prog.readableRec t = true ∧ t < Try.prog.types.size := by
  intro t ht
  have := List.all_eq_true.1 h t ht
  simpa using this
theorem cut_of (P : Program) (cs : List Char) (h : P.initOrder = String.ofList cs) (hb : ((behindMainWord (wordsSigns cs)).head? == some "cut".toList) = true) : ∃ rest, behindMainWord (wordsSigns P.initOrder.toList) = "cut".toList :: rest := by
  rw [h, String.toList_ofList]
  generalize behindMainWord (wordsSigns cs) = l at hb
  cases l with
  | nil => simp at hb
  | cons c r => exact ⟨r, by simpa using hb⟩
set_option maxRecDepth 100000 in
theorem Try.cut : ∃ rest, behindMainWord (wordsSigns Try.prog.initOrder.toList) = "cut".toList :: rest := by
  refine cut_of Try.prog _ rfl ?_
  kernel_rfl
theorem strip_cut (rest : List (List Char)) : stripLifts liftWords ("cut".toList :: rest) = ([], "cut".toList :: rest) := by
  kernel_rfl
theorem headLifts_cut {P : Program} {rest : List (List Char)} (h : behindMainWord (wordsSigns P.initOrder.toList) = "cut".toList :: rest) : P.headLifts = [] := by
  unfold Program.headLifts
  rw [h, strip_cut]
  simp
theorem lifts_cut {P : Program} {rest : List (List Char)} (h : behindMainWord (wordsSigns P.initOrder.toList) = "cut".toList :: rest) : P.liftsFinal = false := by
  unfold Program.liftsFinal
  rw [h, headLifts_cut h]
  simp
theorem make_cut {P : Program} {rest : List (List Char)} (h : behindMainWord (wordsSigns P.initOrder.toList) = "cut".toList :: rest) : P.make = some .cut := by
  unfold Program.make
  rw [h]
  simp
theorem enter_cut {P : Program} {rest : List (List Char)} (h : behindMainWord (wordsSigns P.initOrder.toList) = "cut".toList :: rest) (h1 : P.laysLater = false) (h2 : P.bearsReflect = false) (h3 : P.doorFits [] = true) : P.mayEnter = true := by
  unfold Program.mayEnter
  rw [h]
  simp only [strip_cut, h1, h2, h3]
  simp
theorem joined_of (P : Program) (f : FuncId) (fn : Func) (s : ChangeSpec) (c : OpenClaim) (h1 : laidOutB P = true) (h2 : mapsRowed P = true) (h3 : P.stops = []) (h4 : P.stopKnobs = []) (h5 : P.stopsHeard = true) (h6 : P.mayEnter = true) (h7: P.liftsFinal = false) (h8 : P.make = some .cut) (pk : Bool) (h9 : P.plainKeys = pk)
    (r : (c.wf (OpenSpec.ofChange s) && fn.params.all (P.readableRec ·) && namedTie P c.named s.vars &&
  (c.stops == []) && (c.knobs == []) && 
  (c.inPlace == P.inPlace f) && (c.unfollowed == P.unfollowed f) && (c.recurses == P.recurses f) && (c.named == P.varsNamed f)) = true)
    (r2 : ((c.maps == (fn.params.toList ++ s.plain.varTypes P).any (P.mapsRec ·)) && (c.ifaces == (fn.params.toList ++ s.plain.varTypes P).any (P.ifacesRec ·)) && (c.mapsOut == P.mapsAmong fn.resultTypes.toList) &&
  (c.loops == (fn.params.toList ++ s.plain.varTypes P).any (P.loopsFrom ·)) && (c.wideKeys == (fn.params.toList ++ s.plain.varTypes P ++ fn.resultTypes.toList).any (P.wideKeysFrom ·)) &&
  s.vars.all (P.varReadable ·) && fn.resultTypes.all (fun t => P.readableRec t && decide (t < P.types.size)) && (c.ifacesOut == fn.resultTypes.toList.any (P.ifacesRec ·)) && (c.loopsOut == fn.resultTypes.toList.any (P.loopsFrom ·)) && (c.plainKeys == pk) && c.shortTexts.isNone && (c.lifted == false) && (some Make.cut == some c.make) && (c.kinds == (if c.domain.isEmpty then [] else fn.params.toList.map fun t => match P.underlying t with | some (.int k) => some k | _ => none)) && (c.pinned == c.pinnedBy) &&
  (c.veiled == (fn.params.toList ++ s.plain.varTypes P ++ fn.resultTypes.toList).any (P.veiledRec ·)) && c.veiledFits P fn.params.toList (fn.params.toList ++ s.plain.varTypes P ++ fn.resultTypes.toList)) = true) : joinedFacts P f fn s c = true := by
  simp only [Bool.and_eq_true] at r r2
  obtain ⟨⟨⟨⟨⟨⟨⟨⟨k1, k4⟩, k5⟩, k6⟩, k8⟩, k10⟩, k11⟩, k12⟩, k13⟩ := r
  obtain ⟨⟨⟨⟨⟨⟨⟨⟨⟨⟨⟨⟨⟨⟨⟨⟨m1, m2⟩, m3⟩, m4⟩, m5⟩, m6⟩, m7⟩, m8⟩, m9⟩, m10⟩, m11⟩, m12⟩, m13⟩, m14⟩, m15⟩, m16⟩, m17⟩ := r2
  unfold joinedFacts
  rw [h3, h4, h7, h8, h9]
  simp only [Bool.and_eq_true]
  exact ⟨⟨⟨⟨⟨⟨⟨⟨⟨⟨⟨⟨⟨⟨⟨⟨⟨⟨⟨⟨⟨⟨⟨⟨⟨⟨⟨⟨⟨⟨⟨k1, h1⟩, h2⟩, k4⟩, k5⟩, k6⟩, rfl⟩, k8⟩, rfl⟩, k10⟩, k11⟩, k12⟩, k13⟩, m1⟩, m2⟩, m3⟩, m4⟩, m5⟩, m6⟩, m7⟩, m8⟩, m9⟩, m10⟩, m11⟩, h5⟩, h6⟩, m12⟩, m13⟩, m14⟩, m15⟩, m16⟩, m17⟩
theorem Try.mapsRowed : mapsRowed Try.prog = true := by kernel_rfl
theorem Try.stops : Try.prog.stops = [] := by kernel_rfl
theorem Try.stopKnobs : Try.prog.stopKnobs = [] := by kernel_rfl
theorem Try.stopsHeard : Try.prog.stopsHeard = true := by kernel_rfl
theorem Try.laysLater : Try.prog.laysLater = false := by kernel_rfl
theorem Try.bearsReflect : Try.prog.bearsReflect = false := by kernel_rfl
theorem Try.doorFits : Try.prog.doorFits [] = true := by kernel_rfl
theorem Try.mayEnter : Try.prog.mayEnter = true := Try.cut.elim fun _ h => enter_cut h Try.laysLater Try.bearsReflect Try.doorFits
theorem Try.liftsFinal : Try.prog.liftsFinal = false := Try.cut.elim fun _ h => lifts_cut h
theorem Try.make : Try.prog.make = some .cut := Try.cut.elim fun _ h => make_cut h
theorem Try.plainKeys : Try.prog.plainKeys = false := by kernel_rfl
end Go.Proofs.Ytncmcgcilijfkaa
namespace Go.Proofs.Ytncmcgcilijfkaa
open Go Go.ChangeShapes Go.WideShapes Go.ChangeAt Go.RowKit Go.Deep
set_option maxRecDepth 100000
section
variable {H : Type} {enc : TypeId × Value → H} {W : World}
instance : Inhabited Sl := ⟨⟨none, 0, 0, []⟩⟩
end
end Go.Proofs.Ytncmcgcilijfkaa
namespace Go.Proofs.Ytncmcgcilijfkaa
open Go
section
variable {P : Program} {Q : Exit → Act → World → Prop} {n : Nat} {σ : Nat → Value} {w w0 : World} {K : Act → World → Prop}
  {ty : TypeId} {pos : String} {aft : Array Edge} {g : Option (Nat × Bool)} {d : Nat} {t yt : TypeId} {x y z : Operand} {S : List Nat} {L : List Ch}
theorem Sl.get (s : List UInt8) (k : Nat) (h : k < s.length) : (s.map V8)[k]? = some (V8 (s.getD k 0)) := by
  simp [List.getD_eq_getElem?_getD, h]
/-- an element's address. -/
theorem r_isN {a : Option Addr} {b o len cap sz : Nat} {kk : IntKind} {i : Int} (k : Nat) (hx : ev n σ x = .slice a len cap) (hy : ev n σ y = .int kk i) (ha : eltOf P t = some sz) (hb : a = some ⟨b, o, none⟩) (hi : i = (k : Int)) (h1 : k < len) :
    (execOp (ev n σ) ⟨some d, .indexAddr t x y, ty, pos, aft, g⟩).run P w = .ok (.value (.pointer (some ⟨b, o + k * sz, none⟩))) w := by
  subst hi
  exact r_is hx hy ha hb (by omega) (by omega)
/-- a byte of a slice. -/
theorem r_ldB {s : Sl} {b o k : Nat} (hs : s.ok w) (ha : s.a = some ⟨b, o, none⟩) (hx : ev n σ x = .pointer (some ⟨b, o + k * 1, none⟩)) (ht : cellTy P t = true) (hk : k < s.len) :
    (execOp (ev n σ) ⟨some d, .load t x, ty, pos, aft, g⟩).run P w = .ok (.value (V8 (s.l.getD k 0))) w :=
  r_lds (i := k * 1) hs.rd ha hx ht (by rw [Nat.mul_one]; exact Sl.get _ _ (by rw [hs.ln]; exact hk))
/-- an array or struct literal. -/
theorem r_bld' {parts : Array (Nat × Operand)} {zs : Array Value} {places : Nat → Option (Nat × Nat)} {pv : List (Nat × Value)} {cells : Array Value} (hB : Bld P t zs places)
    (hp0 : pvs n σ parts.toList = pv) (hf : Instr.fill places zs pv = some cells) :
    (execOp (ev n σ) ⟨some d, .build t parts, ty, pos, aft, g⟩).run P w = .ok (.value (.agg cells)) w := by
  have hp : (parts.map fun (i, x) => (i, ev n σ x)).toList = pv := by rw [← hp0, pvs_eq, Array.toList_map]
  have := run_build (P := P) w t (parts.map fun (i, x) => (i, ev n σ x)) cells (by rw [hp, hB.eq]; exact hf)
  simp only [execOp, Sem.run_bind, this]
  simp
def Sl.cut (s : Sl) (l h m : Nat) : Sl := ⟨sa s.a l m 1, h - l, m - l, (s.l.drop l).take (h - l)⟩
theorem Sl.ok.cut {s : Sl} (hs : s.ok w) {l h m : Nat} (h1 : l ≤ h) (h2 : h ≤ s.len) (h3 : h ≤ m) (_h4 : m ≤ s.cap) : (s.cut l h m).ok w := by
  refine ⟨?_, ?_, by simp only [Sl.cut]; omega, by have := hs.mx; simp only [Sl.cut]; omega⟩
  · unfold Sl.cut
    simp only
    by_cases hml : m = l
    · have : (s.l.drop l).take (h - l) = [] := by rw [show h - l = 0 by omega, List.take_zero]
      rw [this]; exact .inl rfl
    · have e : sa s.a l m 1 = s.a.map (·.add (l * 1)) := by unfold sa; rw [if_neg hml]
      rw [e, Nat.mul_one, List.map_take, List.map_drop]
      exact (hs.rd.drop l).take _
  · have := hs.ln
    simp only [Sl.cut, List.length_take, List.length_drop]; omega
theorem r_slS {lo hi mx : Option Operand} {s : Sl} (l h m : Nat) {lv hv mv : Option Value} (hx : ev n σ x = s.v) (ht : eltOf P t = some 1)
    (hl : lo.map (ev n σ) = lv) (hh : hi.map (ev n σ) = hv) (hm : mx.map (ev n σ) = mv) (hb : ∀ w, (Instr.sliceBounds true s.len s.cap lv hv mv).run P w = .ok (l, h, m) w) :
    (execOp (ev n σ) ⟨some d, .slice t x lo hi mx, ty, pos, aft, g⟩).run P w = .ok (.value (s.cut l h m).v) w :=
  r_sl (P := P) (w := w) (d := d) (ty := ty) (pos := pos) (aft := aft) (g := g) hx ht hl hh hm hb
theorem sbh {s : Bool} {len cap : Nat} {k : IntKind} {i : Int} (h : Nat) (e : i = (h : Int)) (h1 : h ≤ cap) (w : World) : (Instr.sliceBounds s len cap none (some (.int k i)) none).run P w = .ok (0, h, cap) w := by
  subst e; exact sb_h (by omega) (by omega) w
theorem Hp.slOwn (H : Hp w0 w S L) {i : Nat} {a : Option Nat} {len cap : Nat} {l : List UInt8} {T : TypeId} (hi : L[i]? = some (.own a len cap (l.map V8) T 1)) : (⟨hd a, len, cap, l⟩ : Sl).ok w := by
  have h := H.has _ (List.mem_of_getElem? hi)
  refine ⟨Ch.rd_own h, ?_, ?_, ?_⟩
  · cases a with
    | none => obtain ⟨h1, h2, h3⟩ := h; simp only [List.map_eq_nil_iff] at h3; rw [h3, h1]; rfl
    | some b => obtain ⟨h1, _⟩ := h; simpa using h1
  · cases a with
    | none => obtain ⟨h1, h2, h3⟩ := h; simp only; omega
    | some b => exact h.2.1
  · cases a with
    | none => obtain ⟨h1, h2, h3⟩ := h; simp only; omega
    | some b => have := h.2.1; have := h.2.2.1; simp only [maxLen] at *; omega
theorem Hp.ownLen (H : Hp w0 w S L) {i : Nat} {a : Option Nat} {len cap : Nat} {xs : List Value} {T : TypeId} {sz : Nat} (hi : L[i]? = some (.own a len cap xs T sz)) : xs.length = len * sz ∧ len ≤ cap ∧ cap ≤ maxLen := by
  have h := H.has _ (List.mem_of_getElem? hi)
  cases a with
  | none => obtain ⟨rfl, rfl, rfl⟩ := h; simp [maxLen]
  | some b => exact ⟨h.1, h.2.1, h.2.2.1⟩
theorem Hp.ownAddr (H : Hp w0 w S L) {i : Nat} {a : Option Nat} {len cap : Nat} {xs : List Value} {T : TypeId} {sz : Nat} (hi : L[i]? = some (.own a len cap xs T sz)) (h0 : 0 < len) : ∃ b, hd a = some ⟨b, 0, none⟩ := by
  have h := H.has _ (List.mem_of_getElem? hi)
  cases a with
  | none => obtain ⟨h1, _⟩ := h; omega
  | some b => exact ⟨b, rfl⟩
theorem Hp.rot {c : Ch} (H : Hp w0 w S (L ++ [c])) : Hp w0 w S (c :: L) := H.perm (List.perm_append_singleton _ _)
theorem Hp.nilEnd (H : Hp w0 w S L) (T : TypeId) (sz : Nat) : Hp w0 w S (L ++ [.own none 0 0 [] T sz]) :=
  (H.nilOwn T sz).perm (List.perm_append_singleton _ _).symm
/-- 'make' of bytes. -/
theorem o_makeB {e : TypeId} {kx ky : IntKind} {li ci : Int} (l : Nat) (H : Hp w0 w S L) (hT : SlTy P t e 1 1) (hz : zeroCells P e = some [V8 0]) (hx : ev n σ x = .int kx li) (hy : ev n σ y = .int ky ci)
    (hl : li = (l : Int)) (hc : ci = (l : Int)) (hm : l ≤ 281474976710656)
    (h : ∀ b w', Hp w0 w' S (L ++ [.own (some b) l l ((List.replicate l (0 : UInt8)).map V8) e 1]) → w0.heap.size ≤ b → K (mk n (up σ d (.slice (hd (some b)) l l))) w') :
    Oper.wp P ⟨some d, .makeSlice t x y, ty, pos, aft, g⟩ (mk n σ) w K Q := by
  have hmx : l ≤ maxLen := Nat.le_trans hm (by decide)
  refine o_make (l := l) (c := l) H hT hz hx hy hl hc (Nat.le_refl _) (by omega) hmx fun b w' H' hb => h b w' ?_ hb
  have := H'.toOwn (i := L.length) (len := l) (cap := l) (sz := 1) (b := b) (C := List.replicate l (V8 0)) (T := e) (by simp) (Nat.le_refl _) hmx (by simp)
  rw [List.set_append_right _ _ (Nat.le_refl _), Nat.sub_self] at this
  simpa using this
/-- a literal of bytes. -/
theorem o_bslB {e : TypeId} {len : Nat} {parts : Array (Nat × Operand)} (l : List UInt8) (H : Hp w0 w S L) (hT : SlTy P t e 1 1) (hz : zeroCells P e = some [V8 0])
    (hp : pvs n σ parts.toList = en 0 (l.map V8)) (hlen : l.length = len) (hm : len ≤ 16777216)
    (h : ∀ b w', Hp w0 w' S (L ++ [.own (some b) len len (l.map V8) e 1]) → w0.heap.size ≤ b → K (mk n (up σ d (.slice (hd (some b)) len len))) w') :
    Oper.wp P ⟨some d, .buildSlice t len parts, ty, pos, aft, g⟩ (mk n σ) w K Q := by
  refine o_bsl H hT hz (by decide) hp (by omega) (fills _ (l.map V8) len (by simp [Value.oneCell']) (by simpa using hlen)) fun b w' H' hb => h b w' ?_ hb
  have := H'.toOwn (i := L.length) (len := len) (cap := len) (sz := 1) (b := b) (C := l.map V8) (T := e) (by simp) (Nat.le_refl _) (Nat.le_trans hm (by decide)) (by simpa using hlen)
  rw [List.set_append_right _ _ (Nat.le_refl _), Nat.sub_self, List.take_of_length_le (by simp; omega)] at this
  simpa using this
/-- bytes behind bytes of one's own. -/
theorem o_appB {i : Nat} {a : Option Nat} {len cap len' : Nat} {l l' : List UInt8} {e e' : TypeId} {tx : TypeId} {s : Sl} (el : l ++ s.l = l') (en : len + s.len = len') (H : Hp w0 w S L) (hi : L[i]? = some (.own a len cap (l.map V8) e 1)) (hT : SlTy P t e 1 1) (hu : P.underlying tx = some (.slice e'))
    (hx : ev n σ x = .slice (hd a) len cap) (hy : ev n σ y = s.v) (hs : s.ok w) (hm : len' ≤ 140737488355328)
    (h : ∀ a' cap' w', Hp w0 w' S (L.set i (.own a' len' cap' (l'.map V8) e 1)) → K (mk n (up σ d (.slice (hd a') len' cap'))) w') :
    Oper.wp P ⟨some d, .call ⟨.builtin .append, #[x, y], #[t, tx]⟩, ty, pos, aft, g⟩ (mk n σ) w K Q := by
  subst el en
  refine o_app (m := s.len) (news := s.l.map V8) H hi hT hx hy (RdS.src hu hs.rd (by simp [hs.ln]) (by decide) (by simp [Value.oneCell'])) (by decide) (by omega) (by omega) fun a' cap' w' H' => h a' cap' w' ?_
  rw [List.map_append]; exact H'
/-- 'copy' onto bytes of one's own. -/
theorem o_copyB {i : Nat} {a : Option Nat} {len cap : Nat} {l : List UInt8} {T e e' : TypeId} {s : Sl} {tx : TypeId} (H : Hp w0 w S L) (hi : L[i]? = some (.own a len cap (l.map V8) T 1)) (hu : P.underlying t = some (.slice e)) (hu' : P.underlying tx = some (.slice e')) (hs : cellSz P e = some 1)
    (hx : ev n σ x = .slice (hd a) len cap) (hy : ev n σ y = s.v) (hsok : s.ok w) (hpos : 0 < len)
    (h : ∀ w', Hp w0 w' S (L.set i (.own a len cap ((s.l.take (min s.len len) ++ l.drop (min s.len len)).map V8) T 1)) → K (mk n (up σ d (VI ((min s.len len : Nat) : Int)))) w') :
    Oper.wp P ⟨some d, .call ⟨.builtin .copy, #[x, y], #[t, tx]⟩, ty, pos, aft, g⟩ (mk n σ) w K Q := by
  cases a with
  | none => have := H.has _ (List.mem_of_getElem? hi); obtain ⟨h1, _⟩ := this; omega
  | some b =>
    obtain ⟨q1, q2, q3, rest, hw, q5⟩ := H.has _ (List.mem_of_getElem? hi)
    have hlt : i < L.length := (List.getElem?_eq_some_iff.1 hi).1
    have Hb : Hp w0 w S (L.set i (.blk b (l.map V8 ++ rest) T)) := H.conv hi rfl fun _ => hw
    have hll : l.length = len := by simpa using q1
    refine o_copy (o := 0) (vs := s.l.map V8) Hb (i := i) (by rw [List.getElem?_set_self hlt]) hu hu' hs (by decide) hx hy hsok.rd (by simp [hsok.ln]) (by simp [Value.oneCell']) (by simp; omega) fun w' H' => h w' ?_
    have e1 : (l.map V8 ++ rest).take 0 ++ (s.l.map V8).take (min s.len len * 1) ++ (l.map V8 ++ rest).drop (0 + min s.len len * 1) = (s.l.take (min s.len len) ++ l.drop (min s.len len)).map V8 ++ rest := by
      rw [List.take_zero, List.nil_append, Nat.mul_one, Nat.zero_add, List.drop_append_of_le_length (by simp; omega)]
      simp
    rw [e1, List.set_set] at H'
    have hln := hsok.ln
    have := H'.conv (i := i) (c := .blk b ((s.l.take (min s.len len) ++ l.drop (min s.len len)).map V8 ++ rest) T) (c' := .own (some b) len cap ((s.l.take (min s.len len) ++ l.drop (min s.len len)).map V8) T 1) (by rw [List.getElem?_set_self hlt]) rfl (fun hok => ⟨by simp; omega, q2, q3, rest, hok, by simp only [List.length_append, List.length_map, List.length_take, List.length_drop] at *; omega⟩)
    rwa [List.set_set] at this
theorem Sl.ok_nil (w : World) : (⟨none, 0, 0, []⟩ : Sl).ok w := ⟨.inl rfl, rfl, Nat.le_refl _, by decide⟩
/-- bytes as they were given, with three marks behind them. -/
def Sl.full (x : Sl) : Sl := ⟨x.a, x.cap, x.cap, x.l ++ List.replicate 3 229⟩
structure Sl.kept (x : Sl) (w : World) : Prop where
  ok : x.ok w
  room : x.cap = x.len + 3
  all : x.full.ok w
theorem Sl.kept.up {x : Sl} (hx : x.kept w0) (H : Hp w0 w S L) (hap : Apart x.a S) : x.kept w :=
  ⟨hx.ok.up H (fun _ => hap), hx.room, hx.all.up H (fun _ => hap)⟩
end
def resF (tmps : Array Value) : ResultVar → Sem Value
  | .tmp t => pure (tmps.getD t undef)
  | .cell a t => do loadVar t (← asAddr (tmps.getD a undef))
def resOk (P : Program) (n : Nat) (σ : Nat → Value) (w : World) : List ResultVar → List Value → Prop
  | [], [] => True
  | .tmp t :: rs, v :: vs => ev n σ (.tmp t) = v ∧ resOk P n σ w rs vs
  | .cell a t :: rs, v :: vs => (∃ b C T k, ev n σ (.tmp a) = .pointer (some ⟨b, 0, none⟩) ∧ w.heap[b]? = some (.cells (List.toArray C) T (0, 0)) ∧ ((rowTy P t = some k ∧ C.length = k ∧ v = .agg C.toArray) ∨ (cellTy P t = true ∧ C[0]? = some v))) ∧ resOk P n σ w rs vs
  | _, _ => False
theorem run_resF {P : Program} {n : Nat} {σ : Nat → Value} {w : World} : ∀ (rs : List ResultVar) (vs : List Value) (acc : Array Value), resOk P n σ w rs vs →
    (rs.foldlM (fun acc r => do let v ← resF (mk n σ).tmps r; pure (acc.push v)) acc : Sem (Array Value)).run P w = .ok (acc ++ vs.toArray) w
  | [], [], acc, _ => by simp
  | .tmp t :: rs, v :: vs, acc, h => by
    have h1 : (mk n σ).tmps.getD t undef = v := by rw [mk_tmp]; exact h.1
    have e : (resF (mk n σ).tmps (.tmp t)).run P w = .ok v w := by simp [resF, h1]
    rw [List.foldlM_cons, Sem.run_bind, Sem.run_bind, e]
    simp only [Result.andThen_ok, Sem.run_pure]
    rw [run_resF rs vs _ h.2]
    congr 1
    simp
  | .cell a t :: rs, v :: vs, acc, h => by
    obtain ⟨⟨b, C, T, k, h1, h2, h3⟩, h4⟩ := h
    have e1 : (mk n σ).tmps.getD a undef = .pointer (some ⟨b, 0, none⟩) := by rw [mk_tmp]; exact h1
    have e2 : (loadVar t ⟨b, 0, none⟩).run P w = .ok v w := by
      rcases h3 with ⟨hr, hk, rfl⟩ | ⟨hc, hv⟩
      · have := run_loadAt_row (P := P) (t := t) (k := k) (o := 0) h2 hr (by omega)
        simp only [Instr.loadAt, Instr.sureAddr, Sem.run_bind, Sem.run_pure, Result.andThen_ok] at this
        rw [this, List.drop_zero, List.take_of_length_le (by omega)]
      · have := run_loadAt_cell (P := P) (t := t) (a := ⟨b, 0, none⟩) (v := v) (w := w) hc (by simp [World.cell?, h2, hv])
        simpa only [Instr.loadAt, Instr.sureAddr, Sem.run_bind, Sem.run_pure, Result.andThen_ok] using this
    have e : (resF (mk n σ).tmps (.cell a t)).run P w = .ok v w := by simp [resF, e1, asAddr, e2]
    rw [List.foldlM_cons, Sem.run_bind, Sem.run_bind, e]
    simp only [Result.andThen_ok, Sem.run_pure]
    rw [run_resF rs vs _ h4]
    congr 1
    simp
theorem e_retN {P : Program} {n : Nat} {σ : Nat → Value} {w : World} {fn : Func} {R : Ending → World → Prop} (rs : List ResultVar) (vs : List Value) (hres : fn.results = rs.toArray) (h1 : (vs.length == 1) = false) (hv : resOk P n σ w rs vs)
    (hR : R (.returned (.tuple vs.toArray)) w) : bodyPost P fn R .ret (mk n σ) w := by
  refine ⟨mk_defers n σ, .tuple vs.toArray, ?_, hR⟩
  have h2 := run_resF (P := P) (w := w) rs vs #[] hv
  have h3 : (fn.results.mapM (resF (mk n σ).tmps)).run P w = .ok vs.toArray w := by
    rw [hres, Array.mapM_eq_foldlM, List.foldlM_toArray]
    simpa using h2
  have h4 : results fn (mk n σ).tmps = (do let vs ← fn.results.mapM (resF (mk n σ).tmps); pure (if h : vs.size = 1 then vs[0] else .tuple vs)) := by
    unfold results
    congr 1
  rw [h4, Sem.run_bind, h3]
  have : ¬ vs.length = 1 := by simpa using h1
  simp [this]
theorem resT {P : Program} {n : Nat} {σ : Nat → Value} {w : World} {t : Nat} {v : Value} {rs : List ResultVar} {vs : List Value} (hv : ev n σ (.tmp t) = v) (h : resOk P n σ w rs vs) : resOk P n σ w (.tmp t :: rs) (v :: vs) := ⟨hv, h⟩
theorem resZ {P : Program} {n : Nat} {σ : Nat → Value} {w : World} : resOk P n σ w [] [] := trivial
section
variable {P : Program} {Q : Exit → Act → World → Prop} {n : Nat} {σ : Nat → Value} {w : World} {c : Code} {ι κ ξ ο π : Type}
end
end Go.Proofs.Ytncmcgcilijfkaa
namespace Go.Proofs.Ytncmcgcilijfkaa
open Go
section
variable {P : Program} {Q : Exit → Act → World → Prop} {n : Nat} {σ : Nat → Value} {w w0 : World} {K : Act → World → Prop}
  {ty : TypeId} {pos : String} {aft : Array Edge} {g : Option (Nat × Bool)} {d : Nat} {t yt : TypeId} {x y z : Operand} {S : List Nat} {L : List Ch}
/-- slices of structs: what stands there. -/
structure Gl (α : Type) where
  a : Option Addr
  len : Nat
  cap : Nat
  l : List α
def Gl.v {α : Type} (s : Gl α) : Value := .slice s.a s.len s.cap
structure Gl.ok {α : Type} (enc : α → List Value) (sz : Nat) (s : Gl α) (w : World) : Prop where
  rd : RdS w s.a (s.l.flatMap enc)
  ln : s.l.length = s.len
  le : s.len ≤ s.cap
  mx : s.cap ≤ maxLen
  sz : ∀ c ∈ s.l, (enc c).length = sz
theorem Gl.ok.up {α : Type} {enc : α → List Value} {sz : Nat} {s : Gl α} (hs : s.ok enc sz w0) (H : Hp w0 w [] L) : s.ok enc sz w := ⟨H.rd hs.rd (apart_nil _), hs.ln, hs.le, hs.mx, hs.sz⟩
theorem flat_len {α : Type} {enc : α → List Value} {sz : Nat} : ∀ {l : List α}, (∀ c ∈ l, (enc c).length = sz) → (l.flatMap enc).length = l.length * sz
  | [], _ => by simp
  | c :: l, h => by
    rw [List.flatMap_cons, List.length_append, h c (by simp), flat_len (l := l) (fun c hc => h c (by simp [hc])), List.length_cons, Nat.succ_mul, Nat.add_comm]
theorem flat_at {α : Type} {enc : α → List Value} {sz : Nat} {c : α} : ∀ {l : List α} {k : Nat}, (∀ c ∈ l, (enc c).length = sz) → l[k]? = some c → ((l.flatMap enc).drop (k * sz)).take sz = enc c
  | [], k, _, h => by simp at h
  | b :: l, 0, hs, h => by
    simp at h; subst h
    have := hs b (by simp)
    rw [Nat.zero_mul, List.drop_zero, List.flatMap_cons, ← this, List.take_left]
  | b :: l, k + 1, hs, h => by
    have hb := hs b (by simp)
    rw [Nat.succ_mul, Nat.add_comm, List.flatMap_cons, ← List.drop_drop, ← hb, List.drop_left, hb]
    exact flat_at (fun c hc => hs c (by simp [hc])) (by simpa using h)
/-- a field of a struct of a slice. -/
theorem r_ldFld {α : Type} {enc : α → List Value} {sz off : Nat} {s : Gl α} {b o k : Nat} {c : α} {v : Value} (hs : s.ok enc sz w) (ha : s.a = some ⟨b, o, none⟩) (hx : ev n σ x = .pointer (some ⟨b, o + k * sz + off, none⟩)) (ht : cellTy P t = true) (hk : s.l[k]? = some c) (hoff : off < sz) (hv : (enc c)[off]? = some v) :
    (execOp (ev n σ) ⟨some d, .load t x, ty, pos, aft, g⟩).run P w = .ok (.value v) w := by
  refine r_lds (i := k * sz + off) hs.rd ha (by rw [hx, Nat.add_assoc]) ht ?_
  have h := flat_at hs.sz hk
  rw [← h, List.getElem?_take_of_lt hoff, List.getElem?_drop] at hv
  exact hv
theorem Hp.glOwn {α : Type} {enc : α → List Value} (H : Hp w0 w S L) {i : Nat} {a : Option Nat} {len cap sz : Nat} {l : List α} {T : TypeId} (hi : L[i]? = some (.own a len cap (l.flatMap enc) T sz)) (hz : 0 < sz) (hs : ∀ c ∈ l, (enc c).length = sz) : (⟨hd a, len, cap, l⟩ : Gl α).ok enc sz w := by
  have h := H.ownLen hi
  refine ⟨H.own hi, ?_, h.2.1, h.2.2, hs⟩
  have h1 := h.1
  rw [flat_len hs] at h1
  exact Nat.eq_of_mul_eq_mul_right hz h1
end
end Go.Proofs.Ytncmcgcilijfkaa
namespace Go.Proofs.Ytncmcgcilijfkaa
open Go
section
variable {P : Program} {Q : Exit → Act → World → Prop} {n : Nat} {σ : Nat → Value} {w w0 : World} {K : Act → World → Prop}
  {ty : TypeId} {pos : String} {aft : Array Edge} {g : Option (Nat × Bool)} {d : Nat} {t yt : TypeId} {x y : Operand} {S : List Nat} {L : List Ch}
theorem flat_take {α : Type} {enc : α → List Value} {sz : Nat} {l : List α} (h : ∀ c ∈ l, (enc c).length = sz) (k : Nat) : (l.flatMap enc).take (k * sz) = (l.take k).flatMap enc := by
  by_cases hk : k ≤ l.length
  · have e : l.flatMap enc = (l.take k).flatMap enc ++ (l.drop k).flatMap enc := by rw [← List.flatMap_append, List.take_append_drop]
    have hl : ((l.take k).flatMap enc).length = k * sz := by
      rw [flat_len (fun c hc => h c (List.mem_of_mem_take hc)), List.length_take, Nat.min_eq_left hk]
    rw [e, List.take_left' hl]
  · rw [List.take_of_length_le (l := l) (by omega), List.take_of_length_le]
    rw [flat_len h]; exact Nat.mul_le_mul_right _ (by omega)
theorem flat_drop {α : Type} {enc : α → List Value} {sz : Nat} {l : List α} (h : ∀ c ∈ l, (enc c).length = sz) (k : Nat) : (l.flatMap enc).drop (k * sz) = (l.drop k).flatMap enc := by
  by_cases hk : k ≤ l.length
  · have e : l.flatMap enc = (l.take k).flatMap enc ++ (l.drop k).flatMap enc := by rw [← List.flatMap_append, List.take_append_drop]
    have hl : ((l.take k).flatMap enc).length = k * sz := by
      rw [flat_len (fun c hc => h c (List.mem_of_mem_take hc)), List.length_take, Nat.min_eq_left hk]
    rw [e, List.drop_left' hl]
  · rw [List.drop_of_length_le (l := l) (by omega), List.drop_of_length_le]
    · rfl
    · rw [flat_len h]; exact Nat.mul_le_mul_right _ (by omega)
end
end Go.Proofs.Ytncmcgcilijfkaa
namespace Go.Proofs.Ytncmcgcilijfkaa
open Go
section
variable {P : Program} {n : Nat} {σ : Nat → Value} {w : World}
  {ty : TypeId} {pos : String} {aft : Array Edge} {g : Option (Nat × Bool)} {d : Nat} {t : TypeId} {x : Operand}
/-- a call that leaves nothing behind. -/
theorem Hp.keep1 {w0 w w' : World} {S : List Nat} {L : List Ch} (H : Hp w0 w S L) (Hc : Hp w w' [] []) : Hp w0 w' S L := by
  have := H.call Hc
  rwa [List.append_nil] at this
/-- a piece of a slice of structs. -/
def Gl.cut {α : Type} (s : Gl α) (sz l h m : Nat) : Gl α := ⟨sa s.a l m sz, h - l, m - l, (s.l.drop l).take (h - l)⟩
theorem Gl.ok.cut {α : Type} {enc : α → List Value} {sz : Nat} {s : Gl α} (hs : s.ok enc sz w) {l h m : Nat} (h1 : l ≤ h) (h2 : h ≤ s.len) (h3 : h ≤ m) (h4 : m ≤ s.cap) : (s.cut sz l h m).ok enc sz w := by
  have hsz : ∀ c ∈ s.l.drop l, (enc c).length = sz := fun c hc => hs.sz c (List.mem_of_mem_drop hc)
  refine ⟨?_, ?_, by simp only [Gl.cut]; omega, by have := hs.mx; simp only [Gl.cut]; omega, fun c hc => hsz c (List.mem_of_mem_take hc)⟩
  · unfold Gl.cut
    simp only
    by_cases hml : m = l
    · have : (s.l.drop l).take (h - l) = [] := by rw [show h - l = 0 by omega, List.take_zero]
      rw [this]; exact .inl rfl
    · have e : sa s.a l m sz = s.a.map (·.add (l * sz)) := by unfold sa; rw [if_neg hml]
      rw [e, ← flat_take hsz, ← flat_drop hs.sz]
      exact (hs.rd.drop (l * sz)).take _
  · have := hs.ln
    simp only [Gl.cut, List.length_take, List.length_drop]; omega
end
end Go.Proofs.Ytncmcgcilijfkaa
namespace Go.Proofs.Ytncmcgcilijfkaa
open Go Go.MapKept
set_option linter.unusedSectionVars false
section
variable {κ : Type} [DecidableEq κ]
def ment (kv : κ → Value) (x : κ × Value × Nat) : MapEntry := { key := kv x.1, val := x.2.1, born := x.2.2 }
def midx (k : κ) : List (κ × Value × Nat) → Nat → Option (Nat × Value)
  | [], _ => none
  | x :: L, i => if k = x.1 then some (i, x.2.1) else midx k L (i + 1)
/-- what stands under a key. -/
def mget (L : List (κ × Value × Nat)) (k : κ) : Option Value :=
  match L with
  | [] => none
  | x :: L => if k = x.1 then some x.2.1 else mget L k
def mput (k : κ) (v : Value) (c : Nat) : List (κ × Value × Nat) → List (κ × Value × Nat)
  | [] => [(k, v, c)]
  | x :: L => if k = x.1 then (k, v, x.2.2) :: L else x :: mput k v c L
def mclk (L : List (κ × Value × Nat)) (k : κ) (c : Nat) : Nat := if (mget L k).isSome then c else c + 1
structure MOk (L : List (κ × Value × Nat)) (c : Nat) : Prop where
  keys : (L.map (·.1)).Nodup
  born : (L.map (·.2.2)).Nodup
  old : ∀ x ∈ L, x.2.2 < c
omit [DecidableEq κ] in
theorem MOk.nil : MOk ([] : List (κ × Value × Nat)) 0 := ⟨List.nodup_nil, List.nodup_nil, fun _ h => by cases h⟩
theorem mget_put (k j : κ) (v : Value) (c : Nat) : ∀ L : List (κ × Value × Nat), mget (mput k v c L) j = if j = k then some v else mget L j
  | [] => by simp [mput, mget]
  | x :: L => by
    rw [mput]
    by_cases h : k = x.1
    · rw [if_pos h, mget, mget, ← h]; simp only
      by_cases hj : j = k <;> simp [hj]
    · rw [if_neg h, mget, mget, mget_put k j v c L]
      by_cases hj : j = x.1
      · rw [if_pos hj, if_pos hj, if_neg (fun e : j = k => h (e.symm.trans hj))]
      · rw [if_neg hj, if_neg hj]
theorem mput_keys (k : κ) (v : Value) (c : Nat) : ∀ (L : List (κ × Value × Nat)) (j : κ), j ∈ (mput k v c L).map (·.1) ↔ j = k ∨ j ∈ L.map (·.1)
  | [], j => by simp [mput]
  | x :: L, j => by
    rw [mput]
    by_cases h : k = x.1
    · rw [if_pos h]; simp [h]
    · rw [if_neg h, List.map_cons, List.mem_cons, mput_keys k v c L j, List.map_cons, List.mem_cons]
      constructor
      · rintro (h1 | h1 | h1) <;> simp [h1]
      · rintro (h1 | h1 | h1) <;> simp [h1]
theorem mput_born (k : κ) (v : Value) (c : Nat) : ∀ (L : List (κ × Value × Nat)) (x : κ × Value × Nat), x ∈ mput k v c L → x.2.2 = c ∧ mget L k = none ∨ ∃ y ∈ L, x.2.2 = y.2.2
  | [], x, h => by
    simp only [mput, List.mem_singleton] at h
    subst h; exact .inl ⟨rfl, rfl⟩
  | y :: L, x, h => by
    rw [mput] at h
    by_cases hk : k = y.1
    · rw [if_pos hk] at h
      rcases List.mem_cons.1 h with rfl | h
      · exact .inr ⟨y, List.mem_cons_self .., rfl⟩
      · exact .inr ⟨x, List.mem_cons_of_mem _ h, rfl⟩
    · rw [if_neg hk] at h
      rcases List.mem_cons.1 h with rfl | h
      · exact .inr ⟨x, List.mem_cons_self .., rfl⟩
      · rcases mput_born k v c L x h with ⟨h1, h2⟩ | ⟨z, hz, h2⟩
        · exact .inl ⟨h1, by rw [mget, if_neg hk]; exact h2⟩
        · exact .inr ⟨z, List.mem_cons_of_mem _ hz, h2⟩
theorem MOk.put {L : List (κ × Value × Nat)} {c : Nat} (h : MOk L c) (k : κ) (v : Value) : MOk (mput k v c L) (mclk L k c) := by
  refine ⟨?_, ?_, fun x hx => ?_⟩
  · have hk := h.keys
    clear h
    induction L with
    | nil => simp [mput]
    | cons x L ih =>
      rw [mput]
      rw [List.map_cons, List.nodup_cons] at hk
      by_cases e : k = x.1
      · rw [if_pos e, List.map_cons, List.nodup_cons]; exact ⟨by simp only; rw [e]; exact hk.1, hk.2⟩
      · rw [if_neg e, List.map_cons, List.nodup_cons]
        refine ⟨fun hm => ?_, ih hk.2⟩
        rcases (mput_keys k v c L x.1).1 hm with h1 | h1
        · exact e h1.symm
        · exact hk.1 h1
  · have hb := h.born
    have ho := h.old
    clear h
    induction L with
    | nil => simp [mput]
    | cons x L ih =>
      rw [mput]
      rw [List.map_cons, List.nodup_cons] at hb
      by_cases e : k = x.1
      · rw [if_pos e, List.map_cons, List.nodup_cons]; exact hb
      · rw [if_neg e, List.map_cons, List.nodup_cons]
        refine ⟨fun hm => ?_, ih hb.2 (fun y hy => ho y (List.mem_cons_of_mem _ hy))⟩
        obtain ⟨y, hy, he⟩ := List.mem_map.1 hm
        rcases mput_born k v c L y hy with ⟨h1, _⟩ | ⟨z, hz, h2⟩
        · have := ho x (List.mem_cons_self ..); omega
        · exact hb.1 (List.mem_map.2 ⟨z, hz, by rw [← h2, he]⟩)
  · unfold mclk
    rcases mput_born k v c L x hx with ⟨h1, h2⟩ | ⟨z, hz, h2⟩
    · rw [h2]; simp only [Option.isSome_none]; rw [if_neg (by decide)]; omega
    · have := h.old z hz
      split <;> omega
/-- keys of a type: how they are found. -/
structure KeyOf (P : Program) (kt : TypeId) (kv : κ → Value) : Prop where
  chk : ∀ (e : Bool) (k : κ) (w : World), (Instr.checkKey e 10000 kt (kv k)).run P w = .ok () w
  fnd : ∀ (k : κ) (L : List (κ × Value × Nat)) (w : World), (Instr.findKey kt (kv k) (L.map (ment kv))).run P w = .ok (midx k L 0) w
  same : ∀ k, Instr.sameBits 10000 (kv k) (kv k) = true
theorem KeyOf.str {P : Program} {kt : TypeId} (hu : P.underlying kt = some .string) : KeyOf P kt (fun l : List UInt8 => Value.string ⟨l.toArray⟩) := by
  have hbe : ∀ a b : List UInt8, ((⟨a.toArray⟩ : ByteArray) == ⟨b.toArray⟩) = decide (a = b) := fun a b => by
    rw [Bool.eq_iff_iff, decide_eq_true_eq, bytes_beq]
    constructor
    · intro h; simpa using h
    · intro h; rw [h]
  refine ⟨fun e k w => ?_, fun k L w => ?_, fun k => ?_⟩
  · show (Instr.checkKey e (9999 + 1) kt _).run P w = _
    exact run_checkKey hu (by simp [IsKey]) e 9999
  · have : ∀ (L : List (List UInt8 × Value × Nat)) (i : Nat), Instr.findNow .string (Value.string ⟨k.toArray⟩) (L.map (ment fun l : List UInt8 => Value.string ⟨l.toArray⟩)) i = some (midx k L i) := by
      intro L
      induction L with
      | nil => intro i; rfl
      | cons x L ih =>
        intro i
        have e : Instr.sameNow .string (Value.string ⟨k.toArray⟩) (Value.string ⟨x.1.toArray⟩) = some (decide (k = x.1)) := by rw [Instr.sameNow, hbe]
        rw [List.map_cons, Instr.findNow]
        show (match Instr.sameNow .string (Value.string ⟨k.toArray⟩) (Value.string ⟨x.1.toArray⟩) with | some true => _ | some false => _ | none => _) = _
        rw [e, midx]
        by_cases h : k = x.1
        · rw [decide_eq_true h, if_pos h]; rfl
        · rw [decide_eq_false h, if_neg h]; exact ih (i + 1)
    exact run_findKey hu (this L 0)
  · exact sameBits_self (d := .string) (by simp [IsKey]) _
/-- a map's block. -/
def mobj (kv : κ → Value) (L : List (κ × Value × Nat)) (c : Nat) : Obj := .map (L.map (ment kv)).toArray c
theorem midx_get (k : κ) : ∀ (L : List (κ × Value × Nat)) (i : Nat), (midx k L i).map (·.2) = mget L k
  | [], _ => rfl
  | x :: L, i => by
    rw [midx, mget]
    by_cases h : k = x.1
    · rw [if_pos h, if_pos h]; rfl
    · rw [if_neg h, if_neg h]; exact midx_get k L (i + 1)
end
section
variable {κ : Type} [DecidableEq κ] {P : Program} {Q : Exit → Act → World → Prop} {n : Nat} {σ : Nat → Value} {w w0 : World} {K : Act → World → Prop}
  {ty : TypeId} {pos : String} {aft : Array Edge} {g : Option (Nat × Bool)} {d : Nat} {t kt et : TypeId} {x y : Operand} {S : List Nat} {L : List Ch}
/-- 'make' of a map. -/
theorem o_mmake (kv : κ → Value) (H : Hp w0 w S L) (h : ∀ b w', Hp w0 w' S (L ++ [.obj b (mobj kv [] 0)]) → w0.heap.size ≤ b → K (mk n (up σ d (.map (some b)))) w') : Oper.wp P ⟨some d, .makeMap t none, ty, pos, aft, g⟩ (mk n σ) w K Q := by
  refine o_val (v := .map (some w.heap.size)) (w' := w.alloc (.map #[] 0)) ?_ (h w.heap.size _ (H.new _ (.obj w.heap.size (mobj kv [] 0)) rfl (heap_alloc_new' w _)) H.size)
  rfl
/-- a look-up. -/
theorem r_look {kv : κ → Value} {M : List (κ × Value × Nat)} {c i b : Nat} {k : κ} {z : Value} (H : Hp w0 w S L) (hi : L[i]? = some (.obj b (mobj kv M c))) (hu : P.underlying t = some (.map kt et)) (hK : KeyOf P kt kv) (hz : ∀ w, (zeroValue et).run P w = .ok z w)
    (hx : ev n σ x = .map (some b)) (hy : ev n σ y = kv k) (ok : Bool) :
    (execOp (ev n σ) ⟨some d, .lookup t x y ok, ty, pos, aft, g⟩).run P w = .ok (.value (if ok then .tuple #[(mget M k).getD z, .bool (mget M k).isSome] else (mget M k).getD z)) w := by
  have hb : w.heap[b]? = some (.map (M.map (ment kv)).toArray c) := H.has _ (List.mem_of_getElem? hi)
  have hg : (Instr.lookup t (.map (some b)) (kv k) ok).run P w = .ok (if ok then .tuple #[(mget M k).getD z, .bool (mget M k).isSome] else (mget M k).getD z) w := by
    unfold Instr.lookup
    simp only [Sem.run_bind, run_underlying hu, Result.andThen_ok, MapKept.run_getObj_map hb, hK.chk]
    have hf := hK.fnd k M w
    rw [← midx_get k M 0]
    cases hm : midx k M 0 with
    | none => rw [hm] at hf; cases ok <;> simp [hf, hz]
    | some r => rw [hm] at hf; cases ok <;> simp [hf]
  simp only [execOp, hx, hy, Sem.run_bind, hg, Result.andThen_ok]
  rfl
theorem keyStays (k : κ) {kv : κ → Value} (hK : KeyOf P kt kv) : (Instr.keyThatStays (kv k) (kv k)).run P w = .ok (kv k) w := by
  unfold Instr.keyThatStays
  rw [if_pos (hK.same k)]; rfl
theorem midx_some {k : κ} : ∀ {M : List (κ × Value × Nat)} {i j : Nat} {v : Value}, midx k M i = some (j, v) → ∃ x m, j = i + m ∧ M[m]? = some x ∧ x.1 = k ∧ x.2.1 = v
  | [], _, _, _, h => by cases h
  | x :: M, i, j, v, h => by
    rw [midx] at h
    by_cases hk : k = x.1
    · rw [if_pos hk] at h; cases h; exact ⟨x, 0, rfl, rfl, hk.symm, rfl⟩
    · rw [if_neg hk] at h
      obtain ⟨y, m, h1, h2, h3⟩ := midx_some h
      exact ⟨y, m + 1, by omega, h2, h3⟩
theorem mput_none {k : κ} {v : Value} {c : Nat} : ∀ {M : List (κ × Value × Nat)} {i : Nat}, midx k M i = none → mput k v c M = M ++ [(k, v, c)] ∧ mget M k = none
  | [], _, _ => ⟨rfl, rfl⟩
  | x :: M, i, h => by
    rw [midx] at h
    by_cases hk : k = x.1
    · rw [if_pos hk] at h; cases h
    · rw [if_neg hk] at h
      obtain ⟨h1, h2⟩ := mput_none (v := v) (c := c) h
      rw [mput, if_neg hk, h1, mget, if_neg hk]; exact ⟨rfl, h2⟩
theorem mput_some {kv : κ → Value} {k : κ} {v u : Value} {c : Nat} : ∀ {M : List (κ × Value × Nat)} {i j : Nat}, midx k M i = some (j, u) → ((M.map (ment kv)).modify (j - i) fun e => { e with key := kv k, val := v }) = (mput k v c M).map (ment kv) ∧ mget M k = some u ∧ i ≤ j
  | [], _, _, h => by cases h
  | x :: M, i, j, h => by
    rw [midx] at h
    by_cases hk : k = x.1
    · rw [if_pos hk] at h; cases h
      rw [mput, if_pos hk, mget, if_pos hk, Nat.sub_self]
      exact ⟨by simp [ment], rfl, Nat.le_refl _⟩
    · rw [if_neg hk] at h
      obtain ⟨h1, h2, h3⟩ := mput_some (kv := kv) (v := v) (c := c) h
      rw [mput, if_neg hk, mget, if_neg hk]
      refine ⟨?_, h2, by omega⟩
      rw [show j - i = (j - (i + 1)) + 1 by omega, List.map_cons, List.modify_succ_cons, h1, List.map_cons]
/-- 'm[k] = v'. -/
theorem o_mput {kv : κ → Value} {M : List (κ × Value × Nat)} {c i b : Nat} {k : κ} {v : Value} {z : Operand} (H : Hp w0 w S L) (hi : L[i]? = some (.obj b (mobj kv M c))) (hu : P.underlying t = some (.map kt et)) (hK : KeyOf P kt kv)
    (hx : ev n σ x = .map (some b)) (hy : ev n σ y = kv k) (hv : ev n σ z = v) (h : ∀ w', Hp w0 w' S (L.set i (.obj b (mobj kv (mput k v c M) (mclk M k c)))) → K (mk n σ) w') :
    Oper.wp P ⟨none, .mapUpdate t x y z, ty, pos, aft, g⟩ (mk n σ) w K Q := by
  have hb : w.heap[b]? = some (.map (M.map (ment kv)).toArray c) := H.has _ (List.mem_of_getElem? hi)
  have hset := heap_set (o' := mobj kv (mput k v c M) (mclk M k c)) hb
  have hg : (Instr.mapUpdate t (.map (some b)) (kv k) v).run P w = .ok () { w with heap := w.heap.setIfInBounds b (mobj kv (mput k v c M) (mclk M k c)) } := by
    unfold Instr.mapUpdate
    simp only [Sem.run_bind, run_underlying hu, Result.andThen_ok, MapKept.run_getObj_map hb, hK.chk]
    have hf := hK.fnd k M w
    cases hm : midx k M 0 with
    | none =>
      rw [hm] at hf
      obtain ⟨h1, h2⟩ := mput_none (v := v) (c := c) hm
      have e : mobj kv (mput k v c M) (mclk M k c) = .map ((M.map (ment kv)).toArray.push { key := kv k, val := v, born := c }) (c + 1) := by
        rw [mobj, h1, mclk, h2]; simp [ment]
      rw [e]
      simp [hf, MapKept.run_setObj_map _ hb]
    | some r =>
      obtain ⟨j, u⟩ := r
      rw [hm] at hf
      obtain ⟨h1, h2, _⟩ := mput_some (kv := kv) (v := v) (c := c) hm
      obtain ⟨xx, m, hj, hM, hk1, _⟩ := midx_some hm
      rw [Nat.sub_zero] at h1
      have hjm : j = m := by omega
      subst hjm
      have e : mobj kv (mput k v c M) (mclk M k c) = .map ((M.map (ment kv)).toArray.modify j fun e => { e with key := kv k, val := v }) c := by
        rw [mobj, ← h1, mclk, h2]; simp
      have hold : (((M.map (ment kv)).toArray[j]?).map (·.key)).getD (kv k) = kv k := by
        simp [hM, ment, hk1]
      have hst := keyStays (w := w) k hK
      rw [e]
      simp only [hf, Result.andThen_ok]
      rw [Sem.run_bind, hold, hst, Result.andThen_ok, MapKept.run_setObj_map _ hb]
  refine o_skip (w' := { w with heap := w.heap.setIfInBounds b (mobj kv (mput k v c M) (mclk M k c)) }) ?_ (h _ ?_)
  · simp only [execOp, hx, hy, hv, Sem.run_bind, hg, Result.andThen_ok]; rfl
  · refine H.turn hi (c' := .obj b (mobj kv (mput k v c M) (mclk M k c))) hset.1 (fun b' hb' => .inl hb') rfl rfl rfl (by simp) (fun b' _ hne => ?_)
    exact hset.2 b' (fun e => hne (by rw [e]; rfl))
end
end Go.Proofs.Ytncmcgcilijfkaa
namespace Go.Proofs.Ytncmcgcilijfkaa
open Go
section
variable {P : Program} {Q : Exit → Act → World → Prop} {n : Nat} {σ : Nat → Value} {w w0 : World} {K : Act → World → Prop}
  {ty : TypeId} {pos : String} {aft : Array Edge} {g : Option (Nat × Bool)} {d : Nat} {t e k' yt : TypeId} {x y : Operand} {S : List Nat} {L : List Ch}
theorem eq_nilpp (hu : P.underlying t = some (.pointer e)) : (Op.equal t (.pointer none) (.pointer none)).run P w = .ok true w := by
  have h : ∀ dd, (Op.equalIn (dd + 1) t (.pointer none) (.pointer none)).run P w = .ok true w := fun dd => by
    simp only [Op.equalIn, Sem.run_bind, run_underlying hu, Result.andThen_ok]
    rfl
  exact h 9999
theorem r_nilpp (hu : P.underlying t = some (.pointer e)) (_hg : P.eqGuardType P.depth t = false) (hx : ev n σ x = .pointer none) (hy : ev n σ y = .pointer none) :
    (execOp (ev n σ) ⟨some d, .binOp .eql t x y yt, ty, pos, aft, g⟩).run P w = .ok (.value (.bool true)) w := by
  have e3 : (eqGuard .eql t x y (.pointer none) (.pointer none)).run P w = .ok () w := by simp [eqGuard]
  have e4 : (binOp .eql t (.pointer none) (.pointer none)).run P w = .ok (.bool true) w := by simp [binOp, eq_nilpp hu]
  simp [execOp, hx, hy, e3, e4]
theorem eq_nilp {a : Addr} (hu : P.underlying t = some (.pointer e)) : (Op.equal t (.pointer (some a)) (.pointer none)).run P w = .ok false w := by
  have h : ∀ dd, (Op.equalIn (dd + 1) t (.pointer (some a)) (.pointer none)).run P w = .ok false w := fun dd => by
    simp only [Op.equalIn, Sem.run_bind, run_underlying hu, Result.andThen_ok]
    rfl
  exact h 9999
/-- a pointer that is none is compared with nil. -/
theorem r_nilp {a : Addr} (hu : P.underlying t = some (.pointer e)) (_hg : P.eqGuardType P.depth t = false) (hx : ev n σ x = .pointer (some a)) (hy : ev n σ y = .pointer none) :
    (execOp (ev n σ) ⟨some d, .binOp .eql t x y yt, ty, pos, aft, g⟩).run P w = .ok (.value (.bool false)) w := by
  have e3 : (eqGuard .eql t x y (.pointer (some a)) (.pointer none)).run P w = .ok () w := by simp [eqGuard]
  have e4 : (binOp .eql t (.pointer (some a)) (.pointer none)).run P w = .ok (.bool false) w := by simp [binOp, eq_nilp hu]
  simp [execOp, hx, hy, e3, e4]
end
end Go.Proofs.Ytncmcgcilijfkaa
namespace Go.Proofs.Ytncmcgcilijfkaa
open Go
def keys (L : List Ch) : List Nat := L.filterMap Ch.key
/-- chunks that stand in a world, no two of one block. -/
def Own (w : World) (L : List Ch) : Prop := (∀ c ∈ L, c.ok w) ∧ L.Pairwise fun c e => ∀ b, c.key = some b → e.key ≠ some b
theorem Hp.owns {w0 w : World} {S : List Nat} {L : List Ch} (h : Hp w0 w S L) : Own w L := ⟨h.has, h.nd⟩
theorem Own.sub {w : World} {L L' : List Ch} (h : Own w L) (hs : L'.Sublist L) : Own w L' := ⟨fun c hc => h.1 c (hs.subset hc), h.2.sublist hs⟩
theorem nd_symm {c e : Ch} (h : ∀ b, c.key = some b → e.key ≠ some b) : ∀ b, e.key = some b → c.key ≠ some b := fun b h1 h2 => h b h2 h1
theorem Hp.permL {w0 w : World} {S : List Nat} {L L' : List Ch} (h : Hp w0 w S L) (hp : L.Perm L') : Hp w0 w S L' :=
  ⟨h.os, h.tape, h.output, h.size, h.frame, fun c hc => h.has c (hp.mem_iff.2 hc), fun c hc => h.fresh c (hp.mem_iff.2 hc), h.nd.perm hp (fun h => nd_symm h)⟩
theorem perm_front {α : Type} {c : α} : ∀ {L : List α} {j : Nat}, L[j]? = some c → L.Perm (c :: L.eraseIdx j)
  | a :: L, 0, h => by cases h; exact .refl _
  | a :: L, j + 1, h => by
    have := perm_front (L := L) (j := j) h
    exact (List.Perm.cons a this).trans (.swap ..)
/-- the j-th chunk is put first. -/
theorem Hp.front {w0 w : World} {S : List Nat} {L : List Ch} (h : Hp w0 w S L) {j : Nat} {c : Ch} (hj : L[j]? = some c) : Hp w0 w S (c :: L.eraseIdx j) := h.permL (perm_front hj)
theorem mem_keys {L : List Ch} {b : Nat} : b ∈ keys L ↔ ∃ c ∈ L, c.key = some b := List.mem_filterMap
theorem Own.start {w : World} {L : List Ch} (h : Own w L) : Hp w w (keys L) L :=
  ⟨rfl, rfl, rfl, Nat.le_refl _, fun _ _ _ => rfl, h.1, fun c hc b hb => .inl (mem_keys.2 ⟨c, hc, hb⟩), h.2⟩
theorem Hp.callG {w0 w w' : World} {S : List Nat} {L L1 L1' Lr : List Ch} (h : Hp w0 w S L) (hL : L = L1 ++ Lr) (hc : Hp w w' (keys L1) L1') : Hp w0 w' S (Lr ++ L1') := by
  subst hL
  obtain ⟨n1, n2, n3⟩ := List.pairwise_append.1 h.nd
  have out : ∀ e ∈ Lr, ∀ b, e.key = some b → b < w.heap.size ∧ b ∉ keys L1 := fun e he b hb =>
    ⟨Ch.lt (h.has e (List.mem_append_right _ he)) hb, fun hm => by
      obtain ⟨c, hcm, hcb⟩ := mem_keys.1 hm
      exact n3 c hcm e he b hcb hb⟩
  refine ⟨hc.os.trans h.os, hc.tape.trans h.tape, hc.output.trans h.output, Nat.le_trans h.size hc.size, fun b hlt hn => ?_, fun c hcm => ?_, fun c hcm b hb => ?_, ?_⟩
  · have hk : b ∉ keys L1 := fun hm => by
      obtain ⟨c, hcm, hcb⟩ := mem_keys.1 hm
      rcases h.fresh c (List.mem_append_left _ hcm) b hcb with h1 | h1
      · exact hn h1
      · omega
    exact (hc.frame b (Nat.lt_of_lt_of_le hlt h.size) hk).trans (h.frame b hlt hn)
  · rcases List.mem_append.1 hcm with h1 | h1
    · exact Ch.ok_of (h.has c (List.mem_append_right _ h1)) fun b hb => hc.frame b (out c h1 b hb).1 (out c h1 b hb).2
    · exact hc.has c h1
  · rcases List.mem_append.1 hcm with h1 | h1
    · exact h.fresh c (List.mem_append_right _ h1) b hb
    · rcases hc.fresh c h1 b hb with h2 | h2
      · obtain ⟨e, hem, heb⟩ := mem_keys.1 h2
        exact h.fresh e (List.mem_append_left _ hem) b heb
      · exact .inr (Nat.le_trans h.size h2)
  · refine List.pairwise_append.2 ⟨n2, hc.nd, fun e he c hcm b hb hb2 => ?_⟩
    have ho := out e he b hb
    rcases hc.fresh c hcm b hb2 with h2 | h2
    · exact ho.2 h2
    · omega
theorem Hp.own1 {w0 w : World} {S : List Nat} {L L1 Lr : List Ch} (h : Hp w0 w S L) (hL : L = L1 ++ Lr) : Own w L1 := by
  subst hL; exact h.owns.sub (List.sublist_append_left ..)
end Go.Proofs.Ytncmcgcilijfkaa
namespace Go.Proofs.Ytncmcgcilijfkaa
open Go Go.MapKept
set_option maxRecDepth 100000
section
variable {κ α : Type} [DecidableEq κ] {enc : α → Value} {M : List (κ × Value × Nat)} {F : κ → Option α}
/-- a map's entries are those of a function. -/
def MIs (enc : α → Value) (M : List (κ × Value × Nat)) (F : κ → Option α) : Prop := ∀ k, mget M k = (F k).map enc
def fput (F : κ → Option α) (k : κ) (v : α) : κ → Option α := fun j => if j = k then some v else F j
theorem MIs.nil : MIs enc ([] : List (κ × Value × Nat)) (fun _ => none) := fun _ => rfl
theorem MIs.put (h : MIs enc M F) (k : κ) (v : α) (c : Nat) : MIs enc (mput k (enc v) c M) (fput F k v) := fun j => by
  rw [mget_put, fput, h j]; split <;> rfl
theorem MIs.getD (h : MIs enc M F) (k : κ) (z : α) : (mget M k).getD (enc z) = enc ((F k).getD z) := by
  rw [h k]; cases F k <;> rfl
theorem MIs.isSome (h : MIs enc M F) (k : κ) : (mget M k).isSome = (F k).isSome := by
  rw [h k]; cases F k <;> rfl
end
section
variable {κ α : Type} [DecidableEq κ] {P : Program} {n : Nat} {σ : Nat → Value} {w w0 : World}
  {ty : TypeId} {pos : String} {aft : Array Edge} {g : Option (Nat × Bool)} {d : Nat} {t kt et : TypeId} {x y : Operand} {S : List Nat} {L : List Ch}
theorem r_lookT {kv : κ → Value} {enc : α → Value} {M : List (κ × Value × Nat)} {F : κ → Option α} {c i b : Nat} {k : κ} (z : α) (hF : MIs enc M F) (H : Hp w0 w S L) (hi : L[i]? = some (.obj b (mobj kv M c))) (hu : P.underlying t = some (.map kt et)) (hK : KeyOf P kt kv) (hz : ∀ w, (zeroValue et).run P w = .ok (enc z) w)
    (hx : ev n σ x = .map (some b)) (hy : ev n σ y = kv k) :
    (execOp (ev n σ) ⟨some d, .lookup t x y true, ty, pos, aft, g⟩).run P w = .ok (.value (.tuple #[enc ((F k).getD z), .bool (F k).isSome])) w := by
  have := r_look (P := P) (ty := ty) (pos := pos) (aft := aft) (g := g) (d := d) H hi hu hK hz hx hy true
  rw [hF.getD, hF.isSome] at this
  exact this
end
end Go.Proofs.Ytncmcgcilijfkaa
namespace Go.Proofs.Ytncmcgcilijfkaa
open Go
/-- C is A, then B at a of b cells, then D. -/
structure Cut3 (C A B D : List Value) (a b : Nat) : Prop where
  e : C = A ++ (B ++ D)
  ha : A.length = a
  hb : B.length = b
section
variable {C A B D V : List Value} {a b : Nat}
theorem Cut3.get {v : Value} (h : Cut3 C A [v] D a 1) : C[a]? = some v := by
  rw [h.e, ← h.ha, List.getElem?_append_right (Nat.le_refl _), Nat.sub_self]; rfl
theorem Cut3.le (h : Cut3 C A B D a b) : a + b ≤ C.length := by
  rw [h.e, List.length_append, List.length_append, h.ha, h.hb]; omega
theorem Cut3.put (h : Cut3 C A B D a b) : C.take a ++ V ++ C.drop (a + b) = A ++ (V ++ D) := by
  rw [h.e, ← h.ha, ← h.hb, List.take_left, ← List.drop_drop, List.drop_left, List.drop_left, List.append_assoc]
theorem fill_step {places : Nat → Option (Nat × Nat)} {k : Nat} {v : Value} {rest : List (Nat × Value)} (hp : places k = some (a, b)) (h : Cut3 C A B D a b) (hv : v.cells.toList = V) (hl : V.length = b) :
    Instr.fill places C.toArray ((k, v) :: rest) = Instr.fill places (A ++ (V ++ D)).toArray rest := by
  have hs : v.cells.size = b := by rw [← hl, ← hv, Array.length_toList]
  have hn : ¬ ((v.cells.size ≠ b || a + v.cells.size > C.toArray.size) = true) := by
    have := h.le
    simp [hs]; omega
  have h2 : ∀ (vs done zs : List Value), zs.length = vs.length → (vs.zipIdx done.length).foldl (fun (acc : Array Value) (p : Value × Nat) => acc.setIfInBounds (A.length + p.2) p.1) (A ++ done ++ zs ++ D).toArray = (A ++ done ++ vs ++ D).toArray := by
    intro vs
    induction vs with
    | nil => intro done zs hz; have : zs = [] := List.length_eq_zero_iff.1 (by simpa using hz); subst this; simp
    | cons v vs ih =>
      intro done zs hz
      cases zs with
      | nil => simp at hz
      | cons z zs =>
        have := ih (done ++ [v]) zs (by simpa using hz)
        simp only [List.length_append, List.length_singleton, List.append_assoc, List.cons_append, List.nil_append] at this
        rw [List.zipIdx_cons, List.foldl_cons]
        simp only [List.append_assoc, List.cons_append]
        rw [← this]
        congr 1
        simp []
  have h3 := h2 V [] B (by rw [hl, h.hb])
  simp only [Instr.fill, hp]
  rw [if_neg hn]
  simp only [List.append_nil, List.length_nil] at h3
  rw [h.ha] at h3
  have e1 : v.cells.zipIdx.foldl (fun (acc : Array Value) (p : Value × Nat) => acc.setIfInBounds (a + p.2) p.1) C.toArray = (A ++ (V ++ D)).toArray := by
    rw [h.e, ← List.append_assoc, ← List.append_assoc, ← h3]
    have : v.cells.zipIdx = (V.zipIdx 0).toArray := by rw [← hv]; simp [← Array.toList_inj]
    rw [this]; simp
  first | exact congrArg (fun z => Instr.fill places z rest) e1 | (rw [← e1])
inductive Fills (places : Nat → Option (Nat × Nat)) : List Value → List (Nat × Value) → List Value → Prop
  | nil (C : List Value) : Fills places C [] C
  | cons {C A B D V E : List Value} {a b k : Nat} {v : Value} {rest : List (Nat × Value)} : places k = some (a, b) → Cut3 C A B D a b → v.cells.toList = V → V.length = b → Fills places (A ++ (V ++ D)) rest E → Fills places C ((k, v) :: rest) E
theorem Fills.run {places : Nat → Option (Nat × Nat)} {C E : List Value} {pv : List (Nat × Value)} (h : Fills places C pv E) : Instr.fill places C.toArray pv = some E.toArray := by
  induction h with
  | nil C => rfl
  | cons hp hc hv hl _ ih => rw [fill_step hp hc hv hl, ih]
end
section
variable {P : Program} {Q : Exit → Act → World → Prop} {n : Nat} {σ : Nat → Value} {w w0 : World} {K : Act → World → Prop}
  {ty : TypeId} {pos : String} {aft : Array Edge} {g : Option (Nat × Bool)} {d : Nat} {t : TypeId} {x y : Operand} {S : List Nat} {L : List Ch} {C A B D : List Value} {a k : Nat}
/-- an element of one cell. -/
theorem r_gc {α : Type} {enc : α → List Value} {s : Gl α} {b o j : Nat} {c : α} {v : Value} (hs : s.ok enc 1 w) (ha : s.a = some ⟨b, o, none⟩) (hx : ev n σ x = .pointer (some ⟨b, o + j * 1, none⟩)) (ht : cellTy P t = true) (hk : s.l[j]? = some c) (h : enc c = [v]) :
    (execOp (ev n σ) ⟨some d, .load t x, ty, pos, aft, g⟩).run P w = .ok (.value v) w := r_ldFld (off := 0) hs ha hx ht hk (by decide) (by rw [h]; rfl)
end
end Go.Proofs.Ytncmcgcilijfkaa
namespace Go.Proofs.Ytncmcgcilijfkaa
open Go
set_option maxRecDepth 100000
instance : Inhabited (List UInt8) := ⟨[]⟩
end Go.Proofs.Ytncmcgcilijfkaa
namespace Go.Proofs.Ytncmcgcilijfkaa
open Go Go.MapKept
theorem Hp.permT {w0 w : World} {S : List Nat} {L L' T : List Ch} (h : Hp w0 w S (L ++ T)) (hp : L.Perm L') : Hp w0 w S (L' ++ T) := h.permL (hp.append_right T)
theorem Hp.ownT {w0 w : World} {S : List Nat} {L L1 Lr T : List Ch} (h : Hp w0 w S (L ++ T)) (hp : L.Perm (L1 ++ Lr)) : Own w (L1 ++ T) := by
  have h1 := (h.permT hp).permL (L' := (L1 ++ T) ++ Lr) (by
    rw [List.append_assoc, List.append_assoc]
    exact List.Perm.append_left _ List.perm_append_comm)
  exact h1.own1 rfl
theorem Hp.callT {w0 w w' : World} {S : List Nat} {L L1 Lr L1' L' T T' : List Ch} (h : Hp w0 w S (L ++ T)) (hp : L.Perm (L1 ++ Lr)) (hc : Hp w w' (keys (L1 ++ T)) (L1' ++ T')) (hq : (Lr ++ L1').Perm L') : Hp w0 w' S (L' ++ T') := by
  have h1 := (h.permT hp).permL (L' := (L1 ++ T) ++ Lr) (by
    rw [List.append_assoc, List.append_assoc]
    exact List.Perm.append_left _ List.perm_append_comm)
  have h2 := h1.callG rfl hc
  rw [← List.append_assoc] at h2
  exact h2.permT hq
/-- a slice as an element of a slice. -/
def slE (s : Sl) : List Value := [s.v]
theorem repS (l : Nat) : (List.replicate l (⟨none, 0, 0, []⟩ : Sl)).flatMap slE = List.replicate l (.slice none 0 0) := by
  induction l with
  | zero => rfl
  | succ l ih => rw [List.replicate_succ, List.flatMap_cons, ih]; rfl
/-- numbers as keys. -/
def kI (i : Int) : Value := .int .i64 i
section
variable {P : Program} {Q : Exit → Act → World → Prop} {n : Nat} {σ : Nat → Value} {w w0 : World} {K : Act → World → Prop}
  {ty : TypeId} {pos : String} {aft : Array Edge} {g : Option (Nat × Bool)} {d : Nat} {t kt et : TypeId} {x y : Operand} {S : List Nat} {L : List Ch}
theorem KeyOf.int {k : IntKind} (hu : P.underlying kt = some (.int k)) : KeyOf P kt (fun i : Int => Value.int k i) := by
  refine ⟨fun e i w => ?_, fun i L w => ?_, fun i => ?_⟩
  · show (Instr.checkKey e (9999 + 1) kt _).run P w = _
    exact run_checkKey hu (by simp [IsKey]) e 9999
  · have : ∀ (L : List (Int × Value × Nat)) (j : Nat), Instr.findNow (.int k) (Value.int k i) (L.map (ment fun i : Int => Value.int k i)) j = some (midx i L j) := by
      intro L
      induction L with
      | nil => intro j; rfl
      | cons x L ih =>
        intro j
        have e : Instr.sameNow (.int k) (Value.int k i) (Value.int k x.1) = some (decide (i = x.1)) := by
          rw [Instr.sameNow, if_pos rfl]; rfl
        rw [List.map_cons, Instr.findNow]
        show (match Instr.sameNow (.int k) (Value.int k i) (Value.int k x.1) with | some true => _ | some false => _ | none => _) = _
        rw [e, midx]
        by_cases h : i = x.1
        · rw [decide_eq_true h, if_pos h]; rfl
        · rw [decide_eq_false h, if_neg h]; exact ih (j + 1)
    exact run_findKey hu (this L 0)
  · exact sameBits_self (d := .int k) (by simp [IsKey]) _
theorem keyI (hu : P.underlying kt = some (.int .i64)) : KeyOf P kt kI := KeyOf.int hu
theorem MOk.none {κ : Type} [DecidableEq κ] (c : Nat) : MOk ([] : List (κ × Value × Nat)) c := ⟨List.nodup_nil, List.nodup_nil, fun _ h => by cases h⟩
/-- 'make([][]T, n)': n slices that are nil. -/
theorem o_makeS {e : TypeId} {bytes : Nat} {kx ky : IntKind} {li ci : Int} (l : Nat) (H : Hp w0 w S L) (hT : SlTy P t e 1 bytes) (hz : zeroCells P e = some [.slice none 0 0]) (hx : ev n σ x = .int kx li) (hy : ev n σ y = .int ky ci)
    (hl : li = (l : Int)) (hc : ci = (l : Int)) (hm : bytes * l ≤ 281474976710656) (hm2 : l ≤ 281474976710656)
    (h : ∀ b w', Hp w0 w' S (L ++ [.own (some b) l l ((List.replicate l (⟨none, 0, 0, []⟩ : Sl)).flatMap slE) e 1]) → w0.heap.size ≤ b → K (mk n (up σ d (.slice (hd (some b)) l l))) w') :
    Oper.wp P ⟨some d, .makeSlice t x y, ty, pos, aft, g⟩ (mk n σ) w K Q := by
  have hmx : l ≤ maxLen := Nat.le_trans hm2 (by decide)
  refine o_make (l := l) (c := l) H hT hz hx hy hl hc (Nat.le_refl _) hm hmx fun b w' H' hb => h b w' ?_ hb
  have := H'.toOwn (i := L.length) (len := l) (cap := l) (sz := 1) (b := b) (C := List.replicate l (.slice none 0 0)) (T := e) (by simp) (Nat.le_refl _) hmx (by simp)
  rw [List.set_append_right _ _ (Nat.le_refl _), Nat.sub_self] at this
  rw [repS]
  simpa using this
/-- a slice compared with nil. -/
theorem r_slnil {a : Option Addr} {l c : Nat} {e yt : TypeId} (hu : P.underlying t = some (.slice e)) (_hg : P.eqGuardType P.depth t = false) (hx : ev n σ x = .slice a l c) (hy : ev n σ y = .slice none 0 0) :
    (execOp (ev n σ) ⟨some d, .binOp .eql t x y yt, ty, pos, aft, g⟩).run P w = .ok (.value (.bool a.isNone)) w := by
  have e3 : (eqGuard .eql t x y (.slice a l c) (.slice none 0 0)).run P w = .ok () w := by simp [eqGuard]
  have e4 : (binOp .eql t (.slice a l c) (.slice none 0 0)).run P w = .ok (.bool a.isNone) w := by
    simp [binOp, run_equal_slice_nil w t e a l c hu]
  simp [execOp, hx, hy, e3, e4]
end
end Go.Proofs.Ytncmcgcilijfkaa
namespace Go.Proofs.Ytncmcgcilijfkaa
open Go
set_option maxRecDepth 100000
theorem Hp.callA {w0 w w' : World} {S : List Nat} {L : List Ch} (h : Hp w0 w S L) {i b : Nat} {c c' : Ch} (hi : L[i]? = some c) (hk : c.key = some b) (hk' : c'.key = some b) (hc : Hp w w' [b] [c']) : Hp w0 w' S (L.set i c') := by
  have := h.callAt hi hk hk' (L' := []) hc
  rwa [List.append_nil] at this
abbrev nilS : Sl := ⟨none, 0, 0, []⟩
/-- a sector of its own with some bytes at its beginning. -/
def wh (l : List UInt8) : List UInt8 := l.take (min l.length 512) ++ (List.replicate 512 (0 : UInt8)).drop (min l.length 512)
theorem wh_len (l : List UInt8) : (wh l).length = 512 := by simp [wh]; omega
theorem wh_of {l : List UInt8} (h : l.length = 512) : wh l = l := by
  rw [wh, h, Nat.min_self, List.take_of_length_le (by omega), List.drop_of_length_le (by simp), List.append_nil]
theorem wh_wh (l : List UInt8) : wh (wh l) = wh l := wh_of (wh_len l)
theorem wh_nil : wh [] = List.replicate 512 0 := by simp [wh]
/-- a slice is none, or a sector that is kept. -/
def Sec (T : List Ch) (s : Sl) : Prop := s = nilS ∨ ∃ b, s = ⟨some ⟨b, 0, none⟩, 512, 512, s.l⟩ ∧ s.l.length = 512 ∧ .own (some b) 512 512 (s.l.map V8) 5 1 ∈ T
theorem sec_ok {w0 w : World} {S : List Nat} {L T : List Ch} (H : Hp w0 w S L) (hsub : ∀ c ∈ T, c ∈ L) {s : Sl} (h : Sec T s) : s.ok w := by
  rcases h with rfl | ⟨b, e, hl, hm⟩
  · exact Sl.ok_nil _
  · obtain ⟨j, hj⟩ := List.getElem?_of_mem (hsub _ hm)
    have := H.slOwn hj
    rw [e]; exact this
theorem sec_mono {T T' : List Ch} (h : ∀ c ∈ T, c ∈ T') {s : Sl} (hs : Sec T s) : Sec T' s := by
  rcases hs with e | ⟨b, e, hl, hm⟩
  · exact .inl e
  · exact .inr ⟨b, e, hl, h _ hm⟩
theorem sec_getD {T : List Ch} {o : Option Sl} (h : ∀ s, o = some s → Sec T s) : Sec T (o.getD nilS) := by
  cases o with
  | none => exact .inl rfl
  | some s => exact h s rfl
structure DW where
  a1 : Nat
  c1 : Nat
  ls : List Sl
  mb : Nat
  M : List (Int × Value × Nat)
  mc : Nat
  F : Int → Option Sl
  off : Bool
  armed : Int
  part : Int
  way : Int
  fa : Option Nat
  fc : Nat
  fl : List UInt8
  writes : Int
  lives : Int
  T : List Ch
def kch (db : Nat) (z : DW) : List Ch := [.blk db [.slice (hd (some z.a1)) z.ls.length z.c1, .map (some z.mb), .bool z.off, VI z.armed, VI z.part, VI z.way, .slice (hd z.fa) z.fl.length z.fc, VI z.writes, VI z.lives] 86,
  .own (some z.a1) z.ls.length z.c1 (z.ls.flatMap slE) 57 1, .obj z.mb (mobj kI z.M z.mc), .own z.fa z.fl.length z.fc (z.fl.map V8) 5 1] ++ z.T
structure DW.ok (z : DW) : Prop where
  n : 32 ≤ z.ls.length ∧ z.ls.length ≤ 4096
  hl : ∀ s ∈ z.ls, Sec z.T s
  hF : MIs Sl.v z.M z.F
  hM : MOk z.M z.mc
  hw : ∀ i s, z.F i = some s → 0 ≤ i ∧ i < (z.ls.length : Int) ∧ Sec z.T s
  armed : -1 ≤ z.armed ∧ z.armed ≤ 9223372036854775807
  part : 0 ≤ z.part ∧ z.part ≤ 512
  way : -1 ≤ z.way ∧ z.way < (z.ls.length : Int)
  fl : z.fl.length ≤ 512
/-- a disk as data. -/
structure DD where
  last : List (List UInt8)
  wait : Int → Option (List UInt8)
  off : Bool
  armed : Int
  part : Int
  way : Int
  front : List UInt8
  writes : Int
  lives : Int
def DW.abs (z : DW) : DD := ⟨z.ls.map (fun s => wh s.l), fun i => (z.F i).map (fun s => wh s.l), z.off, z.armed, z.part, z.way, z.fl, z.writes, z.lives⟩
theorem DW.alen (z : DW) : z.abs.last.length = z.ls.length := List.length_map ..
theorem apart_own {w0 w : World} {S : List Nat} {L L1 Lr T : List Ch} (H : Hp w0 w S (L ++ T)) (hp : L.Perm (L1 ++ Lr)) {a : Option Nat} {n c sz : Nat} {xs : List Value} {e : TypeId} (hc : .own a n c xs e sz ∈ Lr) : Apart (hd a) (keys (L1 ++ T)) := by
  have h1 := (H.permT hp).permL (L' := (L1 ++ T) ++ Lr) (by
    rw [List.append_assoc, List.append_assoc]
    exact List.Perm.append_left _ List.perm_append_comm)
  intro x hx hm
  obtain ⟨d, hd1, hd2⟩ := mem_keys.1 hm
  cases a with
  | none => cases hx
  | some b =>
    cases hx
    exact (List.pairwise_append.1 h1.nd).2.2 d hd1 _ hc b hd2 rfl
def dMay (D : DD) (i : Int) : Int := if D.off then 8 else if i < 0 ∨ (D.last.length : Int) ≤ i then 1 else 0
def dRead (D : DD) (i : Int) : List UInt8 := (D.wait i).getD (D.last.getD i.toNat [])
def dDec (a : Int) : Int := if 0 < a then a - 1 else a
def dWriteE (D : DD) (i : Int) (l : List UInt8) : Int := if dMay D i ≠ 0 then dMay D i else if l.length ≠ 512 then 9 else if D.armed = 0 then 8 else 0
def dWrite (D : DD) (i : Int) (l : List UInt8) : DD := if dMay D i ≠ 0 then D else if l.length ≠ 512 then D else if D.armed = 0 then { D with off := true, way := i, front := l.take D.part.toNat } else { D with armed := dDec D.armed, wait := fput D.wait i l, writes := D.writes + 1 }
def dNew (n : Nat) : DD := ⟨List.replicate n (List.replicate 512 0), fun _ => none, false, -1, 0, -1, [], 0, 0⟩
/-- what a call leaves of a disk. -/
def DLeft (w0 w' : World) (db : Nat) (z : DW) (D : DD) : Prop := ∃ y : DW, y.abs = D ∧ y.ok ∧ (∀ c ∈ z.T, c ∈ y.T) ∧ Hp w0 w' (keys (kch db z)) (kch db y)
theorem dRead_eq {z : DW} (_hz : z.ok) {i : Int} (_h0 : 0 ≤ i) (_h1 : i < (z.ls.length : Int)) {e : Sl} (he : z.ls[i.toNat]? = some e) : dRead z.abs i = (match z.F i with | some s => wh s.l | none => wh e.l) := by
  have : z.abs.last.getD i.toNat [] = wh e.l := by
    rw [DW.abs, List.getD_eq_getElem?_getD, List.getElem?_map, he]; rfl
  rw [dRead, this]
  show ((z.F i).map fun s => wh s.l).getD _ = _
  cases z.F i <;> rfl
end Go.Proofs.Ytncmcgcilijfkaa
namespace Go.Proofs.Ytncmcgcilijfkaa
open Go
theorem mixed : Try.prog.follows .mixedOrders = true := by kernel_rfl
theorem ct3 : cellTy Try.prog 3 = true := by kernel_rfl
theorem cs3 : cellSz Try.prog 3 = some 1 := by kernel_rfl
theorem ct4 : cellTy Try.prog 4 = true := by kernel_rfl
theorem cs4 : cellSz Try.prog 4 = some 1 := by kernel_rfl
theorem ct5 : cellTy Try.prog 5 = true := by kernel_rfl
theorem cs5 : cellSz Try.prog 5 = some 1 := by kernel_rfl
theorem zc5 : zeroCells Try.prog 5 = some [Value.int .u8 0] := by kernel_rfl
theorem ct57 : cellTy Try.prog 57 = true := by kernel_rfl
theorem cs57 : cellSz Try.prog 57 = some 1 := by kernel_rfl
theorem zc57 : zeroCells Try.prog 57 = some [Value.slice none 0 0] := by kernel_rfl
theorem el57 : eltOf Try.prog 57 = some 1 := by kernel_rfl
theorem sl57 : SlTy Try.prog 57 5 1 1 := .mk' (by kernel_rfl) (by kernel_rfl)
theorem el62 : eltOf Try.prog 62 = some 1 := by kernel_rfl
theorem ct83 : cellTy Try.prog 83 = true := by kernel_rfl
theorem el83 : eltOf Try.prog 83 = some 1 := by kernel_rfl
theorem sl83 : SlTy Try.prog 83 57 1 24 := .mk' (by kernel_rfl) (by kernel_rfl)
theorem ct84 : cellTy Try.prog 84 = true := by kernel_rfl
theorem zc86 : zeroCells Try.prog 86 = some ([Value.slice none 0 0] ++ [Value.map none] ++ [Value.bool false] ++ [Value.int .i64 0] ++ [Value.int .i64 0] ++ [Value.int .i64 0] ++ [Value.slice none 0 0] ++ [Value.int .i64 0] ++ [Value.int .i64 0]) := by kernel_rfl
theorem fo86_0 : fieldOff Try.prog 86 0 = some 0 := by kernel_rfl
theorem fo86_1 : fieldOff Try.prog 86 1 = some 1 := by kernel_rfl
theorem fo86_2 : fieldOff Try.prog 86 2 = some 2 := by kernel_rfl
theorem fo86_3 : fieldOff Try.prog 86 3 = some 3 := by kernel_rfl
theorem fo86_4 : fieldOff Try.prog 86 4 = some 4 := by kernel_rfl
theorem fo86_5 : fieldOff Try.prog 86 5 = some 5 := by kernel_rfl
theorem fo86_6 : fieldOff Try.prog 86 6 = some 6 := by kernel_rfl
theorem fo86_7 : fieldOff Try.prog 86 7 = some 7 := by kernel_rfl
theorem fo86_8 : fieldOff Try.prog 86 8 = some 8 := by kernel_rfl
theorem pl86 : placesOf Try.prog 86 = some #[(0, 1), (1, 1), (2, 1), (3, 1), (4, 1), (5, 1), (6, 1), (7, 1), (8, 1)] := by kernel_rfl
theorem bd86 : Bld Try.prog 86 (([Value.slice none 0 0] ++ [Value.map none] ++ [Value.bool false] ++ [Value.int .i64 0] ++ [Value.int .i64 0] ++ [Value.int .i64 0] ++ [Value.slice none 0 0] ++ [Value.int .i64 0] ++ [Value.int .i64 0])).toArray (fun i => (#[(0, 1), (1, 1), (2, 1), (3, 1), (4, 1), (5, 1), (6, 1), (7, 1), (8, 1)] : Array (Nat × Nat))[i]?) := Bld.str pl86 zc86
end Go.Proofs.Ytncmcgcilijfkaa
namespace Go.Proofs.Ytncmcgcilijfkaa
open Go
set_option maxRecDepth 100000
theorem zv_sl (w : World) : (zeroValue 57).run Try.prog w = .ok (nilS.v) w := by
  have h : (Try.prog.info? 57).map (·.zero) = some (some (nilS.v)) := by kernel_rfl
  cases hi : Try.prog.info? 57 with
  | none => rw [hi] at h; cases h
  | some i =>
    rw [hi] at h
    have hz : i.zero = some (nilS.v) := by simpa using h
    simp [zeroValue, typeInfo, hi, hz]
def mayE (off : Bool) (n : Nat) (i : Int) : Int := if off then 8 else if i < 0 ∨ (n : Int) ≤ i then 1 else 0
theorem mayE_abs (z : DW) (i : Int) : mayE z.off z.ls.length i = dMay z.abs i := by rw [mayE, dMay, z.alen]; rfl
theorem whole_ret (w0 : World) (s : Sl) (hs : s.ok w0) :
    Ret Try.prog 55 [s.v] w0 fun v w' => ∃ b, v = .slice (some ⟨b, 0, none⟩) 512 512 ∧ Hp w0 w' [] [.own (some b) 512 512 ((wh s.l).map V8) 5 1] := by
  refine ret_mk Try.func55 rfl Try.ntmps55 (by simp) ?_
  have H := Hp.refl w0 []
  have hsl0 := hs.ln
  have hsm := hs.le
  have hsx := hs.mx
  have hmL : maxLen = 9223372036854775807 := rfl
  repeat refine c_seq ?_
  refine c_region ?_
  refine l_op (o_val (r_as) ?_)
  first | refine l_end ?_ | refine l_nil ?_
  repeat refine c_seq ?_
  refine c_region ?_
  refine l_op (o_makeB 512 H sl57 zc5 rfl rfl (by omega) (by omega) (by omega) (fun b1 w H hb1 => ?_))
  replace H : Hp _ w _ ([.own (some b1) 512 512 ((List.replicate 512 (0 : UInt8)).map V8) 5 1]) := H
  refine l_op (o_val (r_as) ?_)
  first | refine l_end ?_ | refine l_nil ?_
  repeat refine c_seq ?_
  refine c_region ?_
  refine l_op (o_val (r_mv) ?_)
  refine l_op (o_val (r_mv) ?_)
  refine l_op (o_copyB (s := s) H (i := 0) rfl Try.underlying57 Try.underlying57 cs5 rfl rfl (hs.up H (fun _ => apart_nil _)) (by omega) (fun w H => ?_))
  replace H : Hp _ w _ ([.own (some b1) 512 512 (((s.l).take (min s.len 512) ++ (List.replicate 512 (0 : UInt8)).drop (min s.len 512)).map V8) 5 1]) := H
  first | refine l_end ?_ | refine l_nil ?_
  repeat refine c_seq ?_
  refine c_region ?_
  refine l_op (o_val (r_mv) ?_)
  refine l_op (o_val (r_as) ?_)
  first | refine l_end ?_ | refine l_nil ?_
  refine c_ret ?_
  try dsimp only [Exit.then, Exit.inBlock]
  refine e_ret1 (v := .slice (hd (some b1)) 512 512) Try.results55 rfl ?_
  refine ⟨_, rfl, ?_⟩
  have hsl := hs.ln
  have e : (s.l).take (min s.len 512) ++ (List.replicate 512 (0 : UInt8)).drop (min s.len 512) = wh s.l := by rw [wh, hsl]
  rw [e] at H
  exact ⟨_, rfl, H.sub (.cons_cons _ (List.nil_sublist _))⟩
theorem dlen_ret (w0 : World) (db n c fn fc : Nat) (a fa : Option Addr) (m : Option Nat) (off : Bool) (armed part way writes lives : Int) (hdb : (Ch.blk db [.slice a n c, .map m, .bool off, VI armed, VI part, VI way, .slice fa fn fc, VI writes, VI lives] 86).ok w0) :
    Ret Try.prog 30 [.pointer (some ⟨db, 0, none⟩)] w0 fun v w' => v = VI (n : Int) ∧ Hp w0 w' [db] [.blk db [.slice a n c, .map m, .bool off, VI armed, VI part, VI way, .slice fa fn fc, VI writes, VI lives] 86] := by
  refine ret_mk Try.func30 rfl Try.ntmps30 (by simp) ?_
  have H := Hp.start w0 (.blk db ([.slice a n c, .map m, .bool off, VI armed, VI part, VI way, .slice fa fn fc, VI writes, VI lives]) 86) db hdb rfl
  repeat refine c_seq ?_
  refine c_region ?_
  refine l_op (o_val (r_as) ?_)
  first | refine l_end ?_ | refine l_nil ?_
  repeat refine c_seq ?_
  refine c_region ?_
  refine l_op (o_val (r_mv) ?_)
  refine l_op (o_val (r_nilp Try.underlying55 (by kernel_rfl) rfl rfl) ?_)
  first | refine l_end ?_ | refine l_nil ?_
  repeat refine c_seq ?_
  refine c_no rfl ?_
  refine c_skip ?_
  repeat refine c_seq ?_
  refine c_region ?_
  refine l_op (o_val (r_mv) ?_)
  refine l_op (o_val (r_nilc rfl) ?_)
  refine l_op (o_val (r_fa rfl fo86_0) ?_)
  refine l_op (o_val (r_ld (v := .slice a n c) H (i := 0) rfl rfl ct83 rfl) ?_)
  refine l_op (o_val (r_lens el83 rfl) ?_)
  refine l_op (o_val (r_as) ?_)
  first | refine l_end ?_ | refine l_nil ?_
  refine c_ret ?_
  try dsimp only [Exit.then, Exit.inBlock]
  refine e_ret1 (v := VI (n : Int)) Try.results30 rfl ?_
  refine ⟨_, rfl, ?_⟩
  exact ⟨rfl, H.sub (.cons_cons _ (List.nil_sublist _))⟩
theorem dmay_ret (w0 : World) (db n c fn fc : Nat) (a fa : Option Addr) (m : Option Nat) (off : Bool) (armed part way writes lives : Int) (i : Int) (hn : 0 < n) (hdb : (Ch.blk db [.slice a n c, .map m, .bool off, VI armed, VI part, VI way, .slice fa fn fc, VI writes, VI lives] 86).ok w0) :
    Ret Try.prog 54 [.pointer (some ⟨db, 0, none⟩), VI i] w0 fun v w' => v = VI (mayE off n i) ∧ Hp w0 w' [db] [.blk db [.slice a n c, .map m, .bool off, VI armed, VI part, VI way, .slice fa fn fc, VI writes, VI lives] 86] := by
  refine ret_mk Try.func54 rfl Try.ntmps54 (by simp) ?_
  have H := Hp.start w0 (.blk db ([.slice a n c, .map m, .bool off, VI armed, VI part, VI way, .slice fa fn fc, VI writes, VI lives]) 86) db hdb rfl
  repeat refine c_seq ?_
  refine c_region ?_
  refine l_op (o_val (r_as) ?_)
  first | refine l_end ?_ | refine l_nil ?_
  repeat refine c_seq ?_
  refine c_block ?_
  repeat refine c_seq ?_
  refine c_region ?_
  refine l_op (o_val (r_mv) ?_)
  refine l_op (o_callR Try.func30 rfl rfl rfl (dlen_ret _ _ n c fn fc a fa m off armed part way writes lives (H.has _ (List.mem_of_getElem? (i := 0) rfl))) ?_)
  rintro _ w ⟨rfl, Hc⟩
  replace H := (H.callA (i := 0) rfl rfl rfl Hc)
  clear Hc
  replace H : Hp _ w _ ([.blk db ([.slice a n c, .map m, .bool off, VI armed, VI part, VI way, .slice fa fn fc, VI writes, VI lives]) 86]) := H
  refine l_op (o_val (r_bin (a := (n : Int)) (b := 0) rfl rfl (fun _ => b_eqlB false (decide_eq_false (by omega)))) ?_)
  refine l_op (o_val (r_as) ?_)
  first | refine l_end ?_ | refine l_nil ?_
  repeat refine c_seq ?_
  refine c_no rfl ?_
  repeat refine c_seq ?_
  refine c_region ?_
  refine l_op (o_val (r_mv) ?_)
  refine l_op (o_val (r_nilc rfl) ?_)
  refine l_op (o_val (r_fa rfl fo86_2) ?_)
  refine l_op (o_val (r_ld (v := .bool off) H (i := 0) rfl rfl ct4 rfl) ?_)
  refine l_op (o_val (r_as) ?_)
  first | refine l_end ?_ | refine l_nil ?_
  have hc10 := Bool.eq_false_or_eq_true (off)
  rcases hc10 with hc1 | hc1
  ·
   repeat refine c_seq ?_
   refine c_yes (by exact congrArg Value.bool hc1) ?_
   repeat refine c_seq ?_
   refine c_region ?_
   refine l_op (o_val (r_as) ?_)
   first | refine l_end ?_ | refine l_nil ?_
   refine c_ret ?_
   try dsimp only [Exit.then, Exit.inBlock]
   refine e_ret1 (v := VI 8) Try.results54 rfl ?_
   refine ⟨_, rfl, ?_⟩
   refine ⟨?_, H.sub (.cons_cons _ (List.nil_sublist _))⟩
   rw [mayE, if_pos hc1]
  ·
   repeat refine c_seq ?_
   refine c_no (by exact congrArg Value.bool hc1) ?_
   repeat refine c_seq ?_
   refine c_region ?_
   refine l_op (o_val (r_mv) ?_)
   refine l_op (o_val (r_bin (a := i) (b := 0) rfl rfl (fun _ => b_lss)) ?_)
   refine l_op (o_val (r_mv) ?_)
   by_cases hc2 : i < 0
   ·
    refine l_no rfl rfl (by exact congrArg Value.bool (decide_eq_true hc2)) rfl ?_
    refine l_no rfl rfl (by exact congrArg Value.bool (decide_eq_true hc2)) rfl ?_
    refine l_no rfl rfl (by exact congrArg Value.bool (decide_eq_true hc2)) rfl ?_
    refine l_no rfl rfl (by exact congrArg Value.bool (decide_eq_true hc2)) rfl ?_
    refine l_no rfl rfl (by exact congrArg Value.bool (decide_eq_true hc2)) rfl ?_
    refine l_no rfl rfl (by exact congrArg Value.bool (decide_eq_true hc2)) rfl ?_
    refine l_no rfl rfl (by exact congrArg Value.bool (decide_eq_true hc2)) rfl ?_
    refine l_op (o_val (r_pick (b := true) (congrArg Value.bool (decide_eq_true hc2))) ?_)
    refine l_op (o_val (r_as) ?_)
    first | refine l_end ?_ | refine l_nil ?_
    repeat refine c_seq ?_
    refine c_yes rfl ?_
    repeat refine c_seq ?_
    refine c_region ?_
    refine l_op (o_val (r_as) ?_)
    first | refine l_end ?_ | refine l_nil ?_
    refine c_ret ?_
    try dsimp only [Exit.then, Exit.inBlock]
    refine e_ret1 (v := VI 1) Try.results54 rfl ?_
    refine ⟨_, rfl, ?_⟩
    refine ⟨?_, H.sub (.cons_cons _ (List.nil_sublist _))⟩
    rw [mayE, if_neg (by rw [hc1]; decide), if_pos (by omega)]
   ·
    refine l_yes rfl rfl (by exact congrArg Value.bool (decide_eq_false hc2)) (o_val (r_mv) ?_)
    refine l_yes rfl rfl (by exact congrArg Value.bool (decide_eq_false hc2)) (o_val (r_mv) ?_)
    refine l_yes rfl rfl (by exact congrArg Value.bool (decide_eq_false hc2)) (o_val (r_nilc rfl) ?_)
    refine l_yes rfl rfl (by exact congrArg Value.bool (decide_eq_false hc2)) (o_val (r_fa rfl fo86_0) ?_)
    refine l_yes rfl rfl (by exact congrArg Value.bool (decide_eq_false hc2)) (o_val (r_ld (v := .slice a n c) H (i := 0) rfl rfl ct83 rfl) ?_)
    refine l_yes rfl rfl (by exact congrArg Value.bool (decide_eq_false hc2)) (o_val (r_lens el83 rfl) ?_)
    refine l_yes rfl rfl (by exact congrArg Value.bool (decide_eq_false hc2)) (o_val (r_bin (a := i) (b := (n : Int)) rfl rfl (fun _ => b_geq)) ?_)
    refine l_op (o_val (r_pick (b := false) (congrArg Value.bool (decide_eq_false hc2))) ?_)
    refine l_op (o_val (r_as) ?_)
    first | refine l_end ?_ | refine l_nil ?_
    by_cases hc3 : (n : Int) ≤ i
    ·
     repeat refine c_seq ?_
     refine c_yes (by exact congrArg Value.bool (decide_eq_true hc3)) ?_
     repeat refine c_seq ?_
     refine c_region ?_
     refine l_op (o_val (r_as) ?_)
     first | refine l_end ?_ | refine l_nil ?_
     refine c_ret ?_
     try dsimp only [Exit.then, Exit.inBlock]
     refine e_ret1 (v := VI 1) Try.results54 rfl ?_
     refine ⟨_, rfl, ?_⟩
     refine ⟨?_, H.sub (.cons_cons _ (List.nil_sublist _))⟩
     rw [mayE, if_neg (by rw [hc1]; decide), if_pos (by omega)]
    ·
     repeat refine c_seq ?_
     refine c_no (by exact congrArg Value.bool (decide_eq_false hc3)) ?_
     refine c_skip ?_
     repeat refine c_seq ?_
     refine c_region ?_
     refine l_op (o_val (r_as) ?_)
     first | refine l_end ?_ | refine l_nil ?_
     refine c_ret ?_
     try dsimp only [Exit.then, Exit.inBlock]
     refine e_ret1 (v := VI 0) Try.results54 rfl ?_
     refine ⟨_, rfl, ?_⟩
     refine ⟨?_, H.sub (.cons_cons _ (List.nil_sublist _))⟩
     rw [mayE, if_neg (by rw [hc1]; decide), if_neg (by omega)]
theorem dgo0_ret (w0 : World) (db n c fn fc : Nat) (a fa : Option Addr) (m : Option Nat) (off : Bool) (armed part way writes lives : Int) (h0 : armed = 0) (hdb : (Ch.blk db [.slice a n c, .map m, .bool off, VI armed, VI part, VI way, .slice fa fn fc, VI writes, VI lives] 86).ok w0) :
    Ret Try.prog 58 [.pointer (some ⟨db, 0, none⟩)] w0 fun v w' => v = .bool false ∧ Hp w0 w' [db] [.blk db [.slice a n c, .map m, .bool true, VI armed, VI part, VI way, .slice fa fn fc, VI writes, VI lives] 86] := by
  refine ret_mk Try.func58 rfl Try.ntmps58 (by simp) ?_
  have H := Hp.start w0 (.blk db ([.slice a n c, .map m, .bool off, VI armed, VI part, VI way, .slice fa fn fc, VI writes, VI lives]) 86) db hdb rfl
  repeat refine c_seq ?_
  refine c_region ?_
  refine l_op (o_val (r_as) ?_)
  first | refine l_end ?_ | refine l_nil ?_
  repeat refine c_seq ?_
  refine c_region ?_
  refine l_op (o_val (r_mv) ?_)
  refine l_op (o_val (r_nilc rfl) ?_)
  refine l_op (o_val (r_fa rfl fo86_3) ?_)
  refine l_op (o_val (r_ld (v := VI armed) H (i := 0) rfl rfl ct3 rfl) ?_)
  refine l_op (o_val (r_bin (a := armed) (b := 0) rfl rfl (fun _ => b_eqlB true (decide_eq_true h0))) ?_)
  first | refine l_end ?_ | refine l_nil ?_
  repeat refine c_seq ?_
  refine c_yes rfl ?_
  repeat refine c_seq ?_
  refine c_region ?_
  refine l_op (o_val (r_mv) ?_)
  refine l_op (o_val (r_nilc rfl) ?_)
  refine l_op (o_val (r_fa rfl fo86_2) ?_)
  refine l_op (o_st (v := .bool true) H (i := 0) rfl rfl rfl cs4 rfl (by simp only [List.length_cons, List.length_nil]; omega) (fun w H => ?_))
  replace H : Hp _ w _ ([.blk db ([.slice a n c, .map m, .bool true, VI armed, VI part, VI way, .slice fa fn fc, VI writes, VI lives]) 86]) := H
  first | refine l_end ?_ | refine l_nil ?_
  repeat refine c_seq ?_
  refine c_region ?_
  refine l_op (o_val (r_as) ?_)
  first | refine l_end ?_ | refine l_nil ?_
  refine c_ret ?_
  try dsimp only [Exit.then, Exit.inBlock]
  refine e_ret1 (v := .bool false) Try.results58 rfl ?_
  refine ⟨_, rfl, ?_⟩
  exact ⟨rfl, H.sub (.cons_cons _ (List.nil_sublist _))⟩
theorem dgo1_ret (w0 : World) (db n c fn fc : Nat) (a fa : Option Addr) (m : Option Nat) (off : Bool) (armed part way writes lives : Int) (h0 : ¬ armed = 0) (h1 : armed ≤ 9223372036854775807) (hdb : (Ch.blk db [.slice a n c, .map m, .bool off, VI armed, VI part, VI way, .slice fa fn fc, VI writes, VI lives] 86).ok w0) :
    Ret Try.prog 58 [.pointer (some ⟨db, 0, none⟩)] w0 fun v w' => v = .bool true ∧ Hp w0 w' [db] [.blk db [.slice a n c, .map m, .bool off, VI (dDec armed), VI part, VI way, .slice fa fn fc, VI writes, VI lives] 86] := by
  refine ret_mk Try.func58 rfl Try.ntmps58 (by simp) ?_
  have H := Hp.start w0 (.blk db ([.slice a n c, .map m, .bool off, VI armed, VI part, VI way, .slice fa fn fc, VI writes, VI lives]) 86) db hdb rfl
  repeat refine c_seq ?_
  refine c_region ?_
  refine l_op (o_val (r_as) ?_)
  first | refine l_end ?_ | refine l_nil ?_
  repeat refine c_seq ?_
  refine c_region ?_
  refine l_op (o_val (r_mv) ?_)
  refine l_op (o_val (r_nilc rfl) ?_)
  refine l_op (o_val (r_fa rfl fo86_3) ?_)
  refine l_op (o_val (r_ld (v := VI armed) H (i := 0) rfl rfl ct3 rfl) ?_)
  refine l_op (o_val (r_bin (a := armed) (b := 0) rfl rfl (fun _ => b_eqlB false (decide_eq_false h0))) ?_)
  first | refine l_end ?_ | refine l_nil ?_
  repeat refine c_seq ?_
  refine c_no rfl ?_
  refine c_skip ?_
  repeat refine c_seq ?_
  refine c_region ?_
  refine l_op (o_val (r_mv) ?_)
  refine l_op (o_val (r_nilc rfl) ?_)
  refine l_op (o_val (r_fa rfl fo86_3) ?_)
  refine l_op (o_val (r_ld (v := VI armed) H (i := 0) rfl rfl ct3 rfl) ?_)
  refine l_op (o_val (r_bin (a := armed) (b := 0) rfl rfl (fun _ => b_gtr)) ?_)
  first | refine l_end ?_ | refine l_nil ?_
  by_cases hc1 : 0 < armed
  ·
   repeat refine c_seq ?_
   refine c_yes (by exact congrArg Value.bool (decide_eq_true hc1)) ?_
   repeat refine c_seq ?_
   refine c_region ?_
   refine l_op (o_val (r_mv) ?_)
   refine l_op (o_val (r_nilc rfl) ?_)
   refine l_op (o_val (r_fa rfl fo86_3) ?_)
   refine l_op (o_val (r_ld (v := VI armed) H (i := 0) rfl rfl ct3 rfl) ?_)
   refine l_op (o_val (r_bin (a := armed) (b := 1) rfl rfl (fun _ => b_sub (by omega) (by omega))) ?_)
   refine l_op (o_val (r_nilc rfl) ?_)
   refine l_op (o_val (r_fa rfl fo86_3) ?_)
   refine l_op (o_st (v := VI (armed - 1)) H (i := 0) rfl rfl rfl cs3 rfl (by simp only [List.length_cons, List.length_nil]; omega) (fun w H => ?_))
   replace H : Hp _ w _ ([.blk db ([.slice a n c, .map m, .bool off, VI (armed - 1), VI part, VI way, .slice fa fn fc, VI writes, VI lives]) 86]) := H
   first | refine l_end ?_ | refine l_nil ?_
   repeat refine c_seq ?_
   refine c_region ?_
   refine l_op (o_val (r_as) ?_)
   first | refine l_end ?_ | refine l_nil ?_
   refine c_ret ?_
   try dsimp only [Exit.then, Exit.inBlock]
   refine e_ret1 (v := .bool true) Try.results58 rfl ?_
   refine ⟨_, rfl, ?_⟩
   have e : dDec armed = armed - 1 := by rw [dDec, if_pos (by omega)]
   refine ⟨rfl, ?_⟩
   rw [e]
   exact H.sub (.cons_cons _ (List.nil_sublist _))
  ·
   repeat refine c_seq ?_
   refine c_no (by exact congrArg Value.bool (decide_eq_false hc1)) ?_
   refine c_skip ?_
   repeat refine c_seq ?_
   refine c_region ?_
   refine l_op (o_val (r_as) ?_)
   first | refine l_end ?_ | refine l_nil ?_
   refine c_ret ?_
   try dsimp only [Exit.then, Exit.inBlock]
   refine e_ret1 (v := .bool true) Try.results58 rfl ?_
   refine ⟨_, rfl, ?_⟩
   have e : dDec armed = armed := by rw [dDec, if_neg (by omega)]
   refine ⟨rfl, ?_⟩
   rw [e]
   exact H.sub (.cons_cons _ (List.nil_sublist _))
end Go.Proofs.Ytncmcgcilijfkaa
namespace Go.Proofs.Ytncmcgcilijfkaa
open Go
set_option maxRecDepth 100000
theorem may0 {off : Bool} {n : Nat} {i : Int} (h : mayE off n i = 0) : off = false ∧ 0 ≤ i ∧ i < (n : Int) := by
  rw [mayE] at h
  cases off with
  | true => simp at h
  | false =>
    rw [if_neg (by decide)] at h
    refine ⟨rfl, ?_⟩
    by_cases hc : i < 0 ∨ (n : Int) ≤ i
    · rw [if_pos hc] at h; cases h
    · omega
theorem dleft_same {w0 w' : World} {db : Nat} {z : DW} {D : DD} (hz : z.ok) (hD : z.abs = D) (H : Hp w0 w' (keys (kch db z)) (kch db z)) : DLeft w0 w' db z D := ⟨z, hD, hz, fun _ h => h, H⟩
theorem dWrite_may {z : DW} {i : Int} {l : List UInt8} (h : ¬ mayE z.off z.ls.length i = 0) : dWriteE z.abs i l = mayE z.off z.ls.length i ∧ dWrite z.abs i l = z.abs := by
  rw [mayE_abs] at h ⊢
  exact ⟨by rw [dWriteE, if_pos h], by rw [dWrite, if_pos h]⟩
theorem dWrite_len {z : DW} {i : Int} {l : List UInt8} (h : mayE z.off z.ls.length i = 0) (hl : l.length ≠ 512) : dWriteE z.abs i l = 9 ∧ dWrite z.abs i l = z.abs := by
  rw [mayE_abs] at h
  exact ⟨by rw [dWriteE, if_neg (fun e => e h), if_pos hl], by rw [dWrite, if_neg (fun e => e h), if_pos hl]⟩
theorem dWrite_dead {z : DW} {i : Int} {l : List UInt8} (h : mayE z.off z.ls.length i = 0) (hl : l.length = 512) (ha : z.armed = 0) : dWriteE z.abs i l = 8 ∧ dWrite z.abs i l = { z.abs with off := true, way := i, front := l.take z.part.toNat } := by
  rw [mayE_abs] at h
  exact ⟨by rw [dWriteE, if_neg (fun e => e h), if_neg (fun e => e hl), if_pos (show z.abs.armed = 0 from ha)], by rw [dWrite, if_neg (fun e => e h), if_neg (fun e => e hl), if_pos (show z.abs.armed = 0 from ha)]; rfl⟩
theorem dWrite_goes {z : DW} {i : Int} {l : List UInt8} (h : mayE z.off z.ls.length i = 0) (hl : l.length = 512) (ha : ¬ z.armed = 0) : dWriteE z.abs i l = 0 ∧ dWrite z.abs i l = { z.abs with armed := dDec z.armed, wait := fput z.abs.wait i l, writes := z.writes + 1 } := by
  rw [mayE_abs] at h
  exact ⟨by rw [dWriteE, if_neg (fun e => e h), if_neg (fun e => e hl), if_neg (show ¬ z.abs.armed = 0 from ha)], by rw [dWrite, if_neg (fun e => e h), if_neg (fun e => e hl), if_neg (show ¬ z.abs.armed = 0 from ha)]; rfl⟩
theorem dDec_bd {a : Int} (h : -1 ≤ a ∧ a ≤ 9223372036854775807) : -1 ≤ dDec a ∧ dDec a ≤ 9223372036854775807 := by rw [dDec]; split <;> omega
theorem bclone_ret (w0 : World) (s : Sl) (hs : s.ok w0) (hm : s.len ≤ 1048576) :
    Ret Try.prog 59 [s.v] w0 fun v w' => ∃ a c, v = .slice (hd a) s.len c ∧ Hp w0 w' [] [.own a s.len c (s.l.map V8) 5 1] := by
  refine ret_mk Try.func59 rfl Try.ntmps59 (by simp) ?_
  have H := Hp.refl w0 []
  have hsl0 := hs.ln
  have hsm := hs.le
  have hsx := hs.mx
  repeat refine c_seq ?_
  refine c_region ?_
  refine l_op (o_val (r_as) ?_)
  first | refine l_end ?_ | refine l_nil ?_
  repeat refine c_seq ?_
  refine c_region ?_
  refine l_op (o_val (r_mv) ?_)
  refine l_op (o_val (r_slnil Try.underlying57 (by kernel_rfl) rfl rfl) ?_)
  first | refine l_end ?_ | refine l_nil ?_
  have hc10 := Bool.eq_false_or_eq_true (s.a.isNone)
  rcases hc10 with hc1 | hc1
  ·
   repeat refine c_seq ?_
   refine c_yes (by exact congrArg Value.bool hc1) ?_
   repeat refine c_seq ?_
   refine c_region ?_
   refine l_op (o_val (r_as) ?_)
   first | refine l_end ?_ | refine l_nil ?_
   refine c_ret ?_
   try dsimp only [Exit.then, Exit.inBlock]
   refine e_ret1 (v := .slice none 0 0) Try.results59 rfl ?_
   refine ⟨_, rfl, ?_⟩
   have hl0 : s.l = [] := by
     rcases hs.rd with h | ⟨b, o, C, T, fr, ha, _⟩
     · simpa using h
     · rw [ha] at hc1; cases hc1
   have hn0 : s.len = 0 := by rw [← hs.ln, hl0]; rfl
   rw [hl0, hn0]
   exact ⟨none, 0, rfl, H.nilEnd 5 1⟩
  ·
   repeat refine c_seq ?_
   refine c_no (by exact congrArg Value.bool hc1) ?_
   refine c_skip ?_
   repeat refine c_seq ?_
   refine c_region ?_
   refine l_op (o_bslB (([] : List UInt8)) H sl57 zc5 rfl rfl (by decide) (fun b2 w H hb2 => ?_))
   replace H : Hp _ w _ ([.own (some b2) 0 0 ((([] : List UInt8)).map V8) 5 1]) := H
   refine l_op (o_val (r_mv) ?_)
   refine l_op (o_appB (s := s) (l' := s.l) (len' := s.len) rfl (Nat.zero_add _) H (i := 0) rfl sl57 Try.underlying57 rfl rfl (hs.up H (fun _ => apart_nil _)) (by omega) (fun a3 c4 w H => ?_))
   replace H : Hp _ w _ ([.own a3 s.len c4 ((s.l).map V8) 5 1]) := H
   refine l_op (o_val (r_as) ?_)
   first | refine l_end ?_ | refine l_nil ?_
   refine c_ret ?_
   try dsimp only [Exit.then, Exit.inBlock]
   refine e_ret1 (v := .slice (hd a3) s.len c4) Try.results59 rfl ?_
   refine ⟨_, rfl, ?_⟩
   exact ⟨_, _, rfl, H.sub (.cons_cons _ (List.nil_sublist _))⟩
theorem dread_ret (w0 : World) (db : Nat) (z : DW) (hO : Own w0 (kch db z)) (hz : z.ok) (i : Int) :
    Ret Try.prog 29 [.pointer (some ⟨db, 0, none⟩), VI i] w0 fun v w' => ∃ a n c l, v = .tuple #[.slice (hd a) n c, VI (dMay z.abs i)] ∧ n = l.length ∧ (dMay z.abs i = 0 → l = dRead z.abs i) ∧ (dMay z.abs i ≠ 0 → l = []) ∧ Hp w0 w' (keys (kch db z)) (.own a n c (l.map V8) 5 1 :: kch db z) := by
  refine ret_mk Try.func29 rfl Try.ntmps29 (by simp) ?_
  have H : Hp w0 w0 (keys (kch db z)) (Ch.blk db ([.slice (hd (some z.a1)) z.ls.length z.c1, .map (some z.mb), .bool z.off, VI z.armed, VI z.part, VI z.way, .slice (hd z.fa) z.fl.length z.fc, VI z.writes, VI z.lives]) 86 :: Ch.own (some z.a1) z.ls.length z.c1 ((z.ls).flatMap slE) 57 1 :: Ch.obj z.mb (mobj kI z.M z.mc) :: Ch.own z.fa z.fl.length z.fc ((z.fl).map V8) 5 1 :: z.T) := hO.start
  have hzn := hz.n
  have hza := hz.armed
  have hzp := hz.part
  have hzw := hz.way
  have hzf := hz.fl
  have hzl := z.alen
  have hmL : maxLen = 9223372036854775807 := rfl
  repeat refine c_seq ?_
  refine c_region ?_
  refine l_op (o_val (r_as) ?_)
  refine l_op (o_val (r_as) ?_)
  first | refine l_end ?_ | refine l_nil ?_
  repeat refine c_seq ?_
  refine c_region ?_
  refine l_op (o_val (r_mv) ?_)
  refine l_op (o_val (r_mv) ?_)
  refine l_op (o_callR Try.func54 rfl rfl rfl (dmay_ret _ _ z.ls.length z.c1 z.fl.length z.fc (hd (some z.a1)) (hd z.fa) (some z.mb) z.off z.armed z.part z.way z.writes z.lives i (by omega) (H.has _ (List.mem_of_getElem? (i := 0) rfl))) ?_)
  rintro _ w ⟨rfl, Hc⟩
  replace H := (H.callA (i := 0) rfl rfl rfl Hc)
  clear Hc
  replace H : Hp _ w _ (Ch.blk db ([.slice (hd (some z.a1)) z.ls.length z.c1, .map (some z.mb), .bool z.off, VI z.armed, VI z.part, VI z.way, .slice (hd z.fa) z.fl.length z.fc, VI z.writes, VI z.lives]) 86 :: Ch.own (some z.a1) z.ls.length z.c1 ((z.ls).flatMap slE) 57 1 :: Ch.obj z.mb (mobj kI z.M z.mc) :: Ch.own z.fa z.fl.length z.fc ((z.fl).map V8) 5 1 :: z.T) := H
  refine l_op (o_val (r_as) ?_)
  first | refine l_end ?_ | refine l_nil ?_
  repeat refine c_seq ?_
  refine c_region ?_
  refine l_op (o_val (r_mv) ?_)
  refine l_op (o_val (r_bin (a := mayE z.off z.ls.length i) (b := 0) rfl rfl (fun _ => b_neq)) ?_)
  first | refine l_end ?_ | refine l_nil ?_
  by_cases hc1 : mayE z.off z.ls.length i ≠ 0
  ·
   repeat refine c_seq ?_
   refine c_yes (by exact congrArg Value.bool (decide_eq_true hc1)) ?_
   repeat refine c_seq ?_
   refine c_region ?_
   refine l_op (o_val (r_mv) ?_)
   refine l_op (o_val (r_as) ?_)
   refine l_op (o_val (r_as) ?_)
   first | refine l_end ?_ | refine l_nil ?_
   refine c_ret ?_
   try dsimp only [Exit.then, Exit.inBlock]
   refine e_retN (vs := [.slice none 0 0, VI (mayE z.off z.ls.length i)]) _ Try.results29 rfl (resT (v := .slice none 0 0) rfl (resT (v := VI (mayE z.off z.ls.length i)) rfl (resZ))) ?_
   refine ⟨_, rfl, ?_⟩
   have hme := mayE_abs z i
   refine ⟨none, 0, 0, [], ?_, rfl, fun h => by omega, fun _ => rfl, (H.sub (.cons_cons _ (.cons_cons _ (.cons_cons _ (.cons_cons _ (List.Sublist.refl _)))))).nilOwn 5 1⟩
   rw [← hme]; rfl
  ·
   repeat refine c_seq ?_
   refine c_no (by exact congrArg Value.bool (decide_eq_false hc1)) ?_
   refine c_skip ?_
   have hm4 := may0 (show mayE z.off z.ls.length i = 0 by omega)
   repeat refine c_seq ?_
   refine c_region ?_
   refine l_op (o_val (r_mv) ?_)
   refine l_op (o_val (r_nilc rfl) ?_)
   refine l_op (o_val (r_fa rfl fo86_1) ?_)
   refine l_op (o_val (r_ld (v := .map (some z.mb)) H (i := 0) rfl rfl ct84 rfl) ?_)
   refine l_op (o_val (r_mv) ?_)
   refine l_op (o_val (r_lookT (k := i) nilS hz.hF H (i := 2) rfl Try.underlying84 (keyI (by kernel_rfl)) zv_sl rfl rfl) ?_)
   refine l_op (o_val (r_mv) ?_)
   refine l_op (o_val (r_ext rfl rfl) ?_)
   refine l_op (o_val (r_ext rfl rfl) ?_)
   refine l_op (o_val (r_as) ?_)
   refine l_op (o_val (r_as) ?_)
   first | refine l_end ?_ | refine l_nil ?_
   repeat refine c_seq ?_
   refine c_region ?_
   refine l_op (o_val (r_mv) ?_)
   first | refine l_end ?_ | refine l_nil ?_
   have hc20 := Bool.eq_false_or_eq_true ((z.F i).isSome)
   rcases hc20 with hc2 | hc2
   ·
    repeat refine c_seq ?_
    refine c_yes (by exact congrArg Value.bool hc2) ?_
    repeat refine c_seq ?_
    refine c_region ?_
    refine l_op (o_val (r_mv) ?_)
    refine l_op (o_callR Try.func55 rfl rfl rfl (whole_ret _ ((z.F i).getD nilS) (sec_ok (T := z.T) H (by intro q hq; repeat (first | exact hq | apply List.mem_cons_of_mem)) (by first | exact sec_getD (fun s hs => (hz.hw _ s hs).2.2) | exact (hz.hw _ _ (by assumption)).2.2))) ?_)
    rintro _ w ⟨sb3, rfl, Hc⟩
    replace H : Hp _ w _ (Ch.own (some sb3) 512 512 ((wh (((z.F i).getD nilS).l)).map V8) 5 1 :: Ch.blk db ([.slice (hd (some z.a1)) z.ls.length z.c1, .map (some z.mb), .bool z.off, VI z.armed, VI z.part, VI z.way, .slice (hd z.fa) z.fl.length z.fc, VI z.writes, VI z.lives]) 86 :: Ch.own (some z.a1) z.ls.length z.c1 ((z.ls).flatMap slE) 57 1 :: Ch.obj z.mb (mobj kI z.M z.mc) :: Ch.own z.fa z.fl.length z.fc ((z.fl).map V8) 5 1 :: z.T) := (H.call Hc).rot
    clear Hc
    refine l_op (o_val (r_as) ?_)
    refine l_op (o_val (r_as) ?_)
    first | refine l_end ?_ | refine l_nil ?_
    refine c_ret ?_
    try dsimp only [Exit.then, Exit.inBlock]
    refine e_retN (vs := [.slice (hd (some sb3)) 512 512, VI 0]) _ Try.results29 rfl (resT (v := .slice (hd (some sb3)) 512 512) rfl (resT (v := VI 0) rfl (resZ))) ?_
    refine ⟨_, rfl, ?_⟩
    have hme := mayE_abs z i
    have hm0 : mayE z.off z.ls.length i = 0 := by omega
    obtain ⟨hm1, hm2, hm3⟩ := may0 hm0
    have hget : ∃ e, z.ls[i.toNat]? = some e := ⟨_, List.getElem?_eq_getElem (by omega)⟩
    obtain ⟨eg, heg⟩ := hget
    have hrd := dRead_eq hz hm2 hm3 heg
    obtain ⟨sg, hsg⟩ := Option.isSome_iff_exists.1 hc2
    rw [hsg] at hrd
    have hl : wh (((z.F i).getD nilS).l) = dRead z.abs i := by rw [hrd, hsg]; rfl
    refine ⟨(some sb3), 512, 512, wh (((z.F i).getD nilS).l), ?_, (wh_len _).symm, fun _ => hl, fun h => absurd (by omega) h, ?_⟩
    · rw [← hme, hm0]
    · exact (Hp.permT (L := [.own (some sb3) 512 512 ((wh (((z.F i).getD nilS).l)).map V8) 5 1, .blk db ([.slice (hd (some z.a1)) z.ls.length z.c1, .map (some z.mb), .bool z.off, VI z.armed, VI z.part, VI z.way, .slice (hd z.fa) z.fl.length z.fc, VI z.writes, VI z.lives]) 86, .own (some z.a1) z.ls.length z.c1 ((z.ls).flatMap slE) 57 1, .obj z.mb (mobj kI z.M z.mc), .own z.fa z.fl.length z.fc ((z.fl).map V8) 5 1]) (T := z.T) H (.refl _)).sub (.cons_cons _ (.cons_cons _ (.cons_cons _ (.cons_cons _ (.cons_cons _ ((List.Sublist.refl _)))))))
   ·
    repeat refine c_seq ?_
    refine c_no (by exact congrArg Value.bool hc2) ?_
    refine c_skip ?_
    repeat refine c_seq ?_
    refine c_region ?_
    refine l_op (o_val (r_mv) ?_)
    refine l_op (o_val (r_nilc rfl) ?_)
    refine l_op (o_val (r_fa rfl fo86_0) ?_)
    refine l_op (o_val (r_ld (v := .slice (hd (some z.a1)) z.ls.length z.c1) H (i := 0) rfl rfl ct83 rfl) ?_)
    refine l_op (o_val (r_mv) ?_)
    have ah5 := H.ownAddr (i := 1) rfl (by omega)
    obtain ⟨ab4, ah5⟩ := ah5
    refine l_op (o_val (r_isN ((i).toNat) rfl rfl el83 ah5 (by omega) (by (try simp only [Sl.cut]); omega)) ?_)
    have he7 : ∃ c, (z.ls)[(i).toNat]? = some c := ⟨_, List.getElem?_eq_getElem (by have := ((H.glOwn (i := 1) rfl (by decide) (fun _ _ => rfl))).ln; (try dsimp only at this ⊢); omega)⟩
    obtain ⟨e6, he7⟩ := he7
    have hez8 := ((H.glOwn (i := 1) rfl (by decide) (fun _ _ => rfl))).sz e6 (List.mem_of_getElem? he7)
    have hsc_e6 : Sec z.T e6 := hz.hl _ (List.mem_of_getElem? he7)
    refine l_op (o_val (r_gc (v := e6.v) (s := (⟨hd (some z.a1), z.ls.length, z.c1, z.ls⟩ : Gl Sl)) (j := (i).toNat) (H.glOwn (i := 1) rfl (by decide) (fun _ _ => rfl)) ah5 rfl ct57 he7 rfl) ?_)
    refine l_op (o_callR Try.func55 rfl rfl rfl (whole_ret _ e6 (sec_ok (T := z.T) H (by intro q hq; repeat (first | exact hq | apply List.mem_cons_of_mem)) hsc_e6)) ?_)
    rintro _ w ⟨sb9, rfl, Hc⟩
    replace H : Hp _ w _ (Ch.own (some sb9) 512 512 ((wh e6.l).map V8) 5 1 :: Ch.blk db ([.slice (hd (some z.a1)) z.ls.length z.c1, .map (some z.mb), .bool z.off, VI z.armed, VI z.part, VI z.way, .slice (hd z.fa) z.fl.length z.fc, VI z.writes, VI z.lives]) 86 :: Ch.own (some z.a1) z.ls.length z.c1 ((z.ls).flatMap slE) 57 1 :: Ch.obj z.mb (mobj kI z.M z.mc) :: Ch.own z.fa z.fl.length z.fc ((z.fl).map V8) 5 1 :: z.T) := (H.call Hc).rot
    clear Hc
    refine l_op (o_val (r_as) ?_)
    refine l_op (o_val (r_as) ?_)
    first | refine l_end ?_ | refine l_nil ?_
    refine c_ret ?_
    try dsimp only [Exit.then, Exit.inBlock]
    refine e_retN (vs := [.slice (hd (some sb9)) 512 512, VI 0]) _ Try.results29 rfl (resT (v := .slice (hd (some sb9)) 512 512) rfl (resT (v := VI 0) rfl (resZ))) ?_
    refine ⟨_, rfl, ?_⟩
    have hme := mayE_abs z i
    have hm0 : mayE z.off z.ls.length i = 0 := by omega
    obtain ⟨hm1, hm2, hm3⟩ := may0 hm0
    have hget : ∃ e, z.ls[i.toNat]? = some e := ⟨_, List.getElem?_eq_getElem (by omega)⟩
    obtain ⟨eg, heg⟩ := hget
    have hrd := dRead_eq hz hm2 hm3 heg
    have hsg : z.F i = none := by
      cases h : z.F i with
      | none => rfl
      | some _ => rw [h] at hc2; cases hc2
    rw [hsg] at hrd
    have hee : eg = e6 := Option.some.inj (heg.symm.trans he7)
    have hl : wh e6.l = dRead z.abs i := by rw [hrd, hee]
    refine ⟨(some sb9), 512, 512, wh e6.l, ?_, (wh_len _).symm, fun _ => hl, fun h => absurd (by omega) h, ?_⟩
    · rw [← hme, hm0]
    · exact (Hp.permT (L := [.own (some sb9) 512 512 ((wh e6.l).map V8) 5 1, .blk db ([.slice (hd (some z.a1)) z.ls.length z.c1, .map (some z.mb), .bool z.off, VI z.armed, VI z.part, VI z.way, .slice (hd z.fa) z.fl.length z.fc, VI z.writes, VI z.lives]) 86, .own (some z.a1) z.ls.length z.c1 ((z.ls).flatMap slE) 57 1, .obj z.mb (mobj kI z.M z.mc), .own z.fa z.fl.length z.fc ((z.fl).map V8) 5 1]) (T := z.T) H (.refl _)).sub (.cons_cons _ (.cons_cons _ (.cons_cons _ (.cons_cons _ (.cons_cons _ ((List.Sublist.refl _)))))))
theorem dwrite_ret (w0 : World) (db : Nat) (z : DW) (hO : Own w0 (kch db z)) (hz : z.ok) (i : Int) (b : Sl) (hb : b.ok w0) (hap : b.l ≠ [] → Apart b.a (keys (kch db z))) (hwr : 0 ≤ z.writes ∧ z.writes ≤ 4611686018427387904) :
    Ret Try.prog 34 [.pointer (some ⟨db, 0, none⟩), VI i, b.v] w0 fun v w' => v = VI (dWriteE z.abs i b.l) ∧ DLeft w0 w' db z (dWrite z.abs i b.l) := by
  refine ret_mk Try.func34 rfl Try.ntmps34 (by simp) ?_
  have H : Hp w0 w0 (keys (kch db z)) (Ch.blk db ([.slice (hd (some z.a1)) z.ls.length z.c1, .map (some z.mb), .bool z.off, VI z.armed, VI z.part, VI z.way, .slice (hd z.fa) z.fl.length z.fc, VI z.writes, VI z.lives]) 86 :: Ch.own (some z.a1) z.ls.length z.c1 ((z.ls).flatMap slE) 57 1 :: Ch.obj z.mb (mobj kI z.M z.mc) :: Ch.own z.fa z.fl.length z.fc ((z.fl).map V8) 5 1 :: z.T) := hO.start
  have hzn := hz.n
  have hza := hz.armed
  have hzp := hz.part
  have hzw := hz.way
  have hzf := hz.fl
  have hzl := z.alen
  have hmL : maxLen = 9223372036854775807 := rfl
  have hbl := hb.ln
  have hbe := hb.le
  have hbx := hb.mx
  repeat refine c_seq ?_
  refine c_region ?_
  refine l_op (o_val (r_as) ?_)
  first | refine l_end ?_ | refine l_nil ?_
  repeat refine c_seq ?_
  refine c_region ?_
  refine l_op (o_val (r_mv) ?_)
  refine l_op (o_val (r_mv) ?_)
  refine l_op (o_callR Try.func54 rfl rfl rfl (dmay_ret _ _ z.ls.length z.c1 z.fl.length z.fc (hd (some z.a1)) (hd z.fa) (some z.mb) z.off z.armed z.part z.way z.writes z.lives i (by omega) (H.has _ (List.mem_of_getElem? (i := 0) rfl))) ?_)
  rintro _ w ⟨rfl, Hc⟩
  replace H := (H.callA (i := 0) rfl rfl rfl Hc)
  clear Hc
  replace H : Hp _ w _ (Ch.blk db ([.slice (hd (some z.a1)) z.ls.length z.c1, .map (some z.mb), .bool z.off, VI z.armed, VI z.part, VI z.way, .slice (hd z.fa) z.fl.length z.fc, VI z.writes, VI z.lives]) 86 :: Ch.own (some z.a1) z.ls.length z.c1 ((z.ls).flatMap slE) 57 1 :: Ch.obj z.mb (mobj kI z.M z.mc) :: Ch.own z.fa z.fl.length z.fc ((z.fl).map V8) 5 1 :: z.T) := H
  refine l_op (o_val (r_as) ?_)
  first | refine l_end ?_ | refine l_nil ?_
  repeat refine c_seq ?_
  refine c_region ?_
  refine l_op (o_val (r_mv) ?_)
  refine l_op (o_val (r_bin (a := mayE z.off z.ls.length i) (b := 0) rfl rfl (fun _ => b_neq)) ?_)
  first | refine l_end ?_ | refine l_nil ?_
  by_cases hc1 : mayE z.off z.ls.length i ≠ 0
  ·
   repeat refine c_seq ?_
   refine c_yes (by exact congrArg Value.bool (decide_eq_true hc1)) ?_
   repeat refine c_seq ?_
   refine c_region ?_
   refine l_op (o_val (r_mv) ?_)
   refine l_op (o_val (r_as) ?_)
   first | refine l_end ?_ | refine l_nil ?_
   refine c_ret ?_
   try dsimp only [Exit.then, Exit.inBlock]
   refine e_ret1 (v := VI (mayE z.off z.ls.length i)) Try.results34 rfl ?_
   refine ⟨_, rfl, ?_⟩
   obtain ⟨e1, e2⟩ := dWrite_may (l := b.l) (show ¬ mayE z.off z.ls.length i = 0 by omega)
   rw [e1, e2]
   exact ⟨rfl, dleft_same hz rfl (H.sub (.cons_cons _ (.cons_cons _ (.cons_cons _ (.cons_cons _ (List.Sublist.refl _))))))⟩
  ·
   repeat refine c_seq ?_
   refine c_no (by exact congrArg Value.bool (decide_eq_false hc1)) ?_
   refine c_skip ?_
   repeat refine c_seq ?_
   refine c_region ?_
   refine l_op (o_val (r_mv) ?_)
   refine l_op (o_val (r_lens el57 rfl) ?_)
   refine l_op (o_val (r_bin (a := (b.len : Int)) (b := 512) rfl rfl (fun _ => b_neq)) ?_)
   first | refine l_end ?_ | refine l_nil ?_
   by_cases hc2 : (b.len : Int) ≠ 512
   ·
    repeat refine c_seq ?_
    refine c_yes (by exact congrArg Value.bool (decide_eq_true hc2)) ?_
    repeat refine c_seq ?_
    refine c_region ?_
    refine l_op (o_val (r_as) ?_)
    first | refine l_end ?_ | refine l_nil ?_
    refine c_ret ?_
    try dsimp only [Exit.then, Exit.inBlock]
    refine e_ret1 (v := VI 9) Try.results34 rfl ?_
    refine ⟨_, rfl, ?_⟩
    obtain ⟨e1, e2⟩ := dWrite_len (l := b.l) (show mayE z.off z.ls.length i = 0 by omega) (by omega)
    rw [e1, e2]
    exact ⟨rfl, dleft_same hz rfl (H.sub (.cons_cons _ (.cons_cons _ (.cons_cons _ (.cons_cons _ (List.Sublist.refl _))))))⟩
   ·
    repeat refine c_seq ?_
    refine c_no (by exact congrArg Value.bool (decide_eq_false hc2)) ?_
    refine c_skip ?_
    repeat refine c_seq ?_
    refine c_region ?_
    refine l_op (o_val (r_mv) ?_)
    by_cases hc3 : z.armed = 0
    ·
     refine l_op (o_callR Try.func58 rfl rfl rfl (dgo0_ret _ _ z.ls.length z.c1 z.fl.length z.fc (hd (some z.a1)) (hd z.fa) (some z.mb) z.off z.armed z.part z.way z.writes z.lives (of_decide_eq_true (decide_eq_true hc3)) (H.has _ (List.mem_of_getElem? (i := 0) rfl))) ?_)
     rintro _ w ⟨rfl, Hc⟩
     replace H := (H.callA (i := 0) rfl rfl rfl Hc)
     clear Hc
     replace H : Hp _ w _ (Ch.blk db ([.slice (hd (some z.a1)) z.ls.length z.c1, .map (some z.mb), .bool true, VI z.armed, VI z.part, VI z.way, .slice (hd z.fa) z.fl.length z.fc, VI z.writes, VI z.lives]) 86 :: Ch.own (some z.a1) z.ls.length z.c1 ((z.ls).flatMap slE) 57 1 :: Ch.obj z.mb (mobj kI z.M z.mc) :: Ch.own z.fa z.fl.length z.fc ((z.fl).map V8) 5 1 :: z.T) := H
     refine l_op (o_val (r_not rfl) ?_)
     first | refine l_end ?_ | refine l_nil ?_
     repeat refine c_seq ?_
     refine c_yes rfl ?_
     have hm4 := may0 (show mayE z.off z.ls.length i = 0 by omega)
     repeat refine c_seq ?_
     refine c_region ?_
     refine l_op (o_val (r_mv) ?_)
     refine l_op (o_val (r_mv) ?_)
     refine l_op (o_val (r_mv) ?_)
     refine l_op (o_val (r_mv) ?_)
     refine l_op (o_val (r_mv) ?_)
     refine l_op (o_val (r_nilc rfl) ?_)
     refine l_op (o_val (r_fa rfl fo86_4) ?_)
     refine l_op (o_val (r_ld (v := VI z.part) H (i := 0) rfl rfl ct3 rfl) ?_)
     refine l_op (o_val (r_slS (s := b) 0 ((z.part).toNat) b.cap (lv := none) (hv := some (VI z.part)) (mv := none) rfl el57 rfl rfl rfl (fun w => by exact sbh ((z.part).toNat) (by omega) (by (try simp only [Sl.cut]); omega) w)) ?_)
     refine l_op (o_callR Try.func59 rfl rfl rfl (bclone_ret _ (Sl.cut b 0 ((z.part).toNat) b.cap) ((hb.up H hap).cut (l := 0) (h := (z.part).toNat) (m := b.cap) (by omega) (by (try simp only [Sl.cut]); omega) (by omega) (by (try simp only [Sl.cut]); omega)) (by (try dsimp only [Sl.cut]); omega)) ?_)
     rintro _ w ⟨a4, c5, rfl, Hc⟩
     replace H : Hp _ w _ (Ch.own a4 ((z.part).toNat) c5 ((((b.l).drop 0).take ((z.part).toNat)).map V8) 5 1 :: Ch.blk db ([.slice (hd (some z.a1)) z.ls.length z.c1, .map (some z.mb), .bool true, VI z.armed, VI z.part, VI z.way, .slice (hd z.fa) z.fl.length z.fc, VI z.writes, VI z.lives]) 86 :: Ch.own (some z.a1) z.ls.length z.c1 ((z.ls).flatMap slE) 57 1 :: Ch.obj z.mb (mobj kI z.M z.mc) :: Ch.own z.fa z.fl.length z.fc ((z.fl).map V8) 5 1 :: z.T) := (H.call Hc).rot
     clear Hc
     refine l_op (o_val (r_nilc rfl) ?_)
     refine l_op (o_val (r_fa rfl fo86_5) ?_)
     refine l_op (o_st (v := VI i) H (i := 1) rfl rfl rfl cs3 rfl (by simp only [List.length_cons, List.length_nil]; omega) (fun w H => ?_))
     replace H : Hp _ w _ (Ch.own a4 ((z.part).toNat) c5 ((((b.l).drop 0).take ((z.part).toNat)).map V8) 5 1 :: Ch.blk db ([.slice (hd (some z.a1)) z.ls.length z.c1, .map (some z.mb), .bool true, VI z.armed, VI z.part, VI i, .slice (hd z.fa) z.fl.length z.fc, VI z.writes, VI z.lives]) 86 :: Ch.own (some z.a1) z.ls.length z.c1 ((z.ls).flatMap slE) 57 1 :: Ch.obj z.mb (mobj kI z.M z.mc) :: Ch.own z.fa z.fl.length z.fc ((z.fl).map V8) 5 1 :: z.T) := H
     refine l_op (o_val (r_nilc rfl) ?_)
     refine l_op (o_val (r_fa rfl fo86_6) ?_)
     refine l_op (o_st (v := .slice (hd a4) ((z.part).toNat) c5) H (i := 1) rfl rfl rfl cs57 rfl (by simp only [List.length_cons, List.length_nil]; omega) (fun w H => ?_))
     replace H : Hp _ w _ (Ch.own a4 ((z.part).toNat) c5 ((((b.l).drop 0).take ((z.part).toNat)).map V8) 5 1 :: Ch.blk db ([.slice (hd (some z.a1)) z.ls.length z.c1, .map (some z.mb), .bool true, VI z.armed, VI z.part, VI i, .slice (hd a4) ((z.part).toNat) c5, VI z.writes, VI z.lives]) 86 :: Ch.own (some z.a1) z.ls.length z.c1 ((z.ls).flatMap slE) 57 1 :: Ch.obj z.mb (mobj kI z.M z.mc) :: Ch.own z.fa z.fl.length z.fc ((z.fl).map V8) 5 1 :: z.T) := H
     first | refine l_end ?_ | refine l_nil ?_
     repeat refine c_seq ?_
     refine c_region ?_
     refine l_op (o_val (r_as) ?_)
     first | refine l_end ?_ | refine l_nil ?_
     refine c_ret ?_
     try dsimp only [Exit.then, Exit.inBlock]
     refine e_ret1 (v := VI 8) Try.results34 rfl ?_
     refine ⟨_, rfl, ?_⟩
     obtain ⟨e1, e2⟩ := dWrite_dead (l := b.l) (show mayE z.off z.ls.length i = 0 by omega) (by omega) (by omega)
     rw [e1, e2]
     have hfl : (b.l.take z.part.toNat).length = z.part.toNat := by rw [List.length_take]; omega
     have H2 := (Hp.permT (L := [.own a4 ((z.part).toNat) c5 ((((b.l).drop 0).take ((z.part).toNat)).map V8) 5 1, .blk db ([.slice (hd (some z.a1)) z.ls.length z.c1, .map (some z.mb), .bool true, VI z.armed, VI z.part, VI i, .slice (hd a4) ((z.part).toNat) c5, VI z.writes, VI z.lives]) 86, .own (some z.a1) z.ls.length z.c1 ((z.ls).flatMap slE) 57 1, .obj z.mb (mobj kI z.M z.mc), .own z.fa z.fl.length z.fc ((z.fl).map V8) 5 1]) (T := z.T) H ((perm_front (j := 1) rfl).trans (.cons _ ((perm_front (j := 1) rfl).trans (.cons _ ((perm_front (j := 1) rfl).trans (.cons _ (.refl _)))))))).sub (.cons_cons _ (.cons_cons _ (.cons_cons _ (.cons_cons _ (.cons _ ((List.Sublist.refl _)))))))
     rw [show ((b.l).drop 0).take ((z.part).toNat) = b.l.take z.part.toNat from by simp] at H2
     obtain ⟨q, hq⟩ : ∃ q, b.l.take z.part.toNat = q := ⟨_, rfl⟩
     rw [hq] at hfl H2 ⊢
     rw [← hfl] at H2
     have hm4 := may0 (show mayE z.off z.ls.length i = 0 by omega)
     exact ⟨rfl, ({ z with off := true, way := i, fa := a4, fc := c5, fl := q } : DW), rfl, ⟨hz.n, hz.hl, hz.hF, hz.hM, hz.hw, hz.armed, hz.part, (by show -1 ≤ i ∧ i < (z.ls.length : Int); omega), (by show q.length ≤ 512; omega)⟩, fun _ h => h, H2⟩
    ·
     refine l_op (o_callR Try.func58 rfl rfl rfl (dgo1_ret _ _ z.ls.length z.c1 z.fl.length z.fc (hd (some z.a1)) (hd z.fa) (some z.mb) z.off z.armed z.part z.way z.writes z.lives (of_decide_eq_false (decide_eq_false hc3)) (by omega) (H.has _ (List.mem_of_getElem? (i := 0) rfl))) ?_)
     rintro _ w ⟨rfl, Hc⟩
     replace H := (H.callA (i := 0) rfl rfl rfl Hc)
     clear Hc
     replace H : Hp _ w _ (Ch.blk db ([.slice (hd (some z.a1)) z.ls.length z.c1, .map (some z.mb), .bool z.off, VI (dDec z.armed), VI z.part, VI z.way, .slice (hd z.fa) z.fl.length z.fc, VI z.writes, VI z.lives]) 86 :: Ch.own (some z.a1) z.ls.length z.c1 ((z.ls).flatMap slE) 57 1 :: Ch.obj z.mb (mobj kI z.M z.mc) :: Ch.own z.fa z.fl.length z.fc ((z.fl).map V8) 5 1 :: z.T) := H
     refine l_op (o_val (r_not rfl) ?_)
     first | refine l_end ?_ | refine l_nil ?_
     repeat refine c_seq ?_
     refine c_no rfl ?_
     refine c_skip ?_
     have hm4 := may0 (show mayE z.off z.ls.length i = 0 by omega)
     repeat refine c_seq ?_
     refine wp_held (fun w => Hp w0 w (keys (kch db z)) [.blk db ([.slice (hd (some z.a1)) z.ls.length z.c1, .map (some z.mb), .bool z.off, VI (dDec z.armed), VI z.part, VI z.way, .slice (hd z.fa) z.fl.length z.fc, VI z.writes, VI z.lives]) 86, .own (some z.a1) z.ls.length z.c1 ((z.ls).flatMap slE) 57 1, .own z.fa z.fl.length z.fc ((z.fl).map V8) 5 1]) mixed ?_
     replace H := H.drew
     have HS := H.sub (.cons_cons _ (.cons_cons _ (.cons _ (.cons_cons _ (List.nil_sublist _)))))
     refine t_take 0 rfl (by kernel_rfl) (by kernel_rfl) (by kernel_rfl) (fun _ _ _ h => h) (fun w HS => r_mv) HS ?_
     refine t_take 1 rfl (by kernel_rfl) (by kernel_rfl) (by kernel_rfl) (fun _ _ _ h => h) (fun w HS => r_nilc rfl) HS ?_
     refine t_take 2 rfl (by kernel_rfl) (by kernel_rfl) (by kernel_rfl) (fun _ _ _ h => h) (fun w HS => r_fa rfl fo86_1) HS ?_
     refine t_take 3 rfl (by kernel_rfl) (by kernel_rfl) (by kernel_rfl) (fun _ _ _ h => h) (fun w HS => r_ld (v := .map (some z.mb)) HS (i := 0) rfl rfl ct84 rfl) HS ?_
     refine t_take 4 rfl (by kernel_rfl) (by kernel_rfl) (by kernel_rfl) (fun _ _ _ h => h) (fun w HS => r_mv) HS ?_
     refine t_take 5 rfl (by kernel_rfl) (by kernel_rfl) (by kernel_rfl) (fun _ _ _ h => h) (fun w HS => r_mv) HS ?_
     refine t_step 6 rfl (by kernel_rfl) (o_callR Try.func55 rfl rfl rfl (whole_ret _ b (hb.up H hap)) ?_)
     rintro _ w ⟨sb6, rfl, Hc⟩
     replace H : Hp _ w _ (Ch.own (some sb6) 512 512 ((wh b.l).map V8) 5 1 :: Ch.blk db ([.slice (hd (some z.a1)) z.ls.length z.c1, .map (some z.mb), .bool z.off, VI (dDec z.armed), VI z.part, VI z.way, .slice (hd z.fa) z.fl.length z.fc, VI z.writes, VI z.lives]) 86 :: Ch.own (some z.a1) z.ls.length z.c1 ((z.ls).flatMap slE) 57 1 :: Ch.obj z.mb (mobj kI z.M z.mc) :: Ch.own z.fa z.fl.length z.fc ((z.fl).map V8) 5 1 :: z.T) := (H.call Hc).rot
     clear Hc
     refine ⟨H.sub (.cons _ (.cons_cons _ (.cons_cons _ (.cons _ (.cons_cons _ (List.nil_sublist _)))))), ?_⟩
     replace HS := H.sub (.cons _ (.cons_cons _ (.cons_cons _ (.cons _ (.cons_cons _ (List.nil_sublist _))))))
     refine t_step 7 rfl (by kernel_rfl) (o_mput (kv := kI) (k := i) (v := Sl.v (⟨hd (some sb6), 512, 512, wh b.l⟩)) H (i := 3) rfl Try.underlying84 (keyI (by kernel_rfl)) rfl rfl rfl (fun w H => ?_))
     replace H : Hp _ w _ (Ch.own (some sb6) 512 512 ((wh b.l).map V8) 5 1 :: Ch.blk db ([.slice (hd (some z.a1)) z.ls.length z.c1, .map (some z.mb), .bool z.off, VI (dDec z.armed), VI z.part, VI z.way, .slice (hd z.fa) z.fl.length z.fc, VI z.writes, VI z.lives]) 86 :: Ch.own (some z.a1) z.ls.length z.c1 ((z.ls).flatMap slE) 57 1 :: Ch.obj z.mb (mobj kI (mput i (Sl.v (⟨hd (some sb6), 512, 512, wh b.l⟩)) z.mc z.M) (mclk z.M i z.mc)) :: Ch.own z.fa z.fl.length z.fc ((z.fl).map V8) 5 1 :: z.T) := H
     refine ⟨H.sub (.cons _ (.cons_cons _ (.cons_cons _ (.cons _ (.cons_cons _ (List.nil_sublist _)))))), ?_⟩
     replace HS := H.sub (.cons _ (.cons_cons _ (.cons_cons _ (.cons _ (.cons_cons _ (List.nil_sublist _))))))
     refine t_done (by kernel_rfl) ?_
     clear HS
     repeat refine c_seq ?_
     refine c_region ?_
     refine l_op (o_val (r_mv) ?_)
     refine l_op (o_val (r_nilc rfl) ?_)
     refine l_op (o_val (r_fa rfl fo86_7) ?_)
     refine l_op (o_val (r_ld (v := VI z.writes) H (i := 1) rfl rfl ct3 rfl) ?_)
     refine l_op (o_val (r_bin (a := z.writes) (b := 1) rfl rfl (fun _ => b_add (by omega) (by omega))) ?_)
     refine l_op (o_val (r_nilc rfl) ?_)
     refine l_op (o_val (r_fa rfl fo86_7) ?_)
     refine l_op (o_st (v := VI (z.writes + 1)) H (i := 1) rfl rfl rfl cs3 rfl (by simp only [List.length_cons, List.length_nil]; omega) (fun w H => ?_))
     replace H : Hp _ w _ (Ch.own (some sb6) 512 512 ((wh b.l).map V8) 5 1 :: Ch.blk db ([.slice (hd (some z.a1)) z.ls.length z.c1, .map (some z.mb), .bool z.off, VI (dDec z.armed), VI z.part, VI z.way, .slice (hd z.fa) z.fl.length z.fc, VI (z.writes + 1), VI z.lives]) 86 :: Ch.own (some z.a1) z.ls.length z.c1 ((z.ls).flatMap slE) 57 1 :: Ch.obj z.mb (mobj kI (mput i (Sl.v (⟨hd (some sb6), 512, 512, wh b.l⟩)) z.mc z.M) (mclk z.M i z.mc)) :: Ch.own z.fa z.fl.length z.fc ((z.fl).map V8) 5 1 :: z.T) := H
     first | refine l_end ?_ | refine l_nil ?_
     repeat refine c_seq ?_
     refine c_region ?_
     refine l_op (o_val (r_as) ?_)
     first | refine l_end ?_ | refine l_nil ?_
     refine c_ret ?_
     try dsimp only [Exit.then, Exit.inBlock]
     refine e_ret1 (v := VI 0) Try.results34 rfl ?_
     refine ⟨_, rfl, ?_⟩
     obtain ⟨e1, e2⟩ := dWrite_goes (l := b.l) (show mayE z.off z.ls.length i = 0 by omega) (by omega) (by omega)
     rw [e1, e2]
     have hm4 := may0 (show mayE z.off z.ls.length i = 0 by omega)
     have hnew : Sec (.own (some sb6) 512 512 ((wh b.l).map V8) 5 1 :: z.T) (⟨hd (some sb6), 512, 512, wh b.l⟩ : Sl) := .inr ⟨_, rfl, wh_len _, List.mem_cons_self ..⟩
     have hmono : ∀ c ∈ z.T, c ∈ (.own (some sb6) 512 512 ((wh b.l).map V8) 5 1 :: z.T) := fun c hc => List.mem_cons_of_mem _ hc
     have habs : (fun j => ((fput z.F i (⟨hd (some sb6), 512, 512, wh b.l⟩ : Sl)) j).map (fun s => wh s.l)) = fput z.abs.wait i b.l := by
       funext j
       simp only [fput]
       by_cases hj : j = i
       · rw [if_pos hj, if_pos hj]
         show some (wh (wh b.l)) = some b.l
         rw [wh_wh, wh_of (by omega)]
       · rw [if_neg hj, if_neg hj]; rfl
     refine ⟨rfl, ({ z with armed := dDec z.armed, M := mput i (Sl.v (⟨hd (some sb6), 512, 512, wh b.l⟩)) z.mc z.M, mc := mclk z.M i z.mc, F := fput z.F i (⟨hd (some sb6), 512, 512, wh b.l⟩ : Sl), writes := z.writes + 1, T := .own (some sb6) 512 512 ((wh b.l).map V8) 5 1 :: z.T } : DW), ?_, ⟨hz.n, fun s hs => sec_mono hmono (hz.hl s hs), (hz.hF.put i (⟨hd (some sb6), 512, 512, wh b.l⟩) z.mc), (hz.hM.put i (Sl.v (⟨hd (some sb6), 512, 512, wh b.l⟩))), fun j s hj => ?_, dDec_bd hz.armed, hz.part, hz.way, hz.fl⟩, hmono, (Hp.permT (L := [.own (some sb6) 512 512 ((wh b.l).map V8) 5 1, .blk db ([.slice (hd (some z.a1)) z.ls.length z.c1, .map (some z.mb), .bool z.off, VI (dDec z.armed), VI z.part, VI z.way, .slice (hd z.fa) z.fl.length z.fc, VI (z.writes + 1), VI z.lives]) 86, .own (some z.a1) z.ls.length z.c1 ((z.ls).flatMap slE) 57 1, .obj z.mb (mobj kI (mput i (Sl.v (⟨hd (some sb6), 512, 512, wh b.l⟩)) z.mc z.M) (mclk z.M i z.mc)), .own z.fa z.fl.length z.fc ((z.fl).map V8) 5 1]) (T := z.T) H ((perm_front (j := 1) rfl).trans (.cons _ ((perm_front (j := 1) rfl).trans (.cons _ ((perm_front (j := 1) rfl).trans (.cons _ ((perm_front (j := 1) rfl).trans (.cons _ (.refl _)))))))))).sub (.cons_cons _ (.cons_cons _ (.cons_cons _ (.cons_cons _ (.cons_cons _ ((List.Sublist.refl _)))))))⟩
     · show (⟨_, fun j => ((fput z.F i (⟨hd (some sb6), 512, 512, wh b.l⟩ : Sl)) j).map (fun s => wh s.l), _, _, _, _, _, _, _⟩ : DD) = _
       rw [habs]; rfl
     · simp only [fput] at hj
       by_cases hji : j = i
       · rw [if_pos hji] at hj
         cases hj
         exact ⟨by omega, by show j < (z.ls.length : Int); omega, hnew⟩
       · rw [if_neg hji] at hj
         obtain ⟨g1, g2, g3⟩ := hz.hw j s hj
         exact ⟨g1, g2, sec_mono hmono g3⟩
end Go.Proofs.Ytncmcgcilijfkaa
namespace Go.Proofs.Ytncmcgcilijfkaa
open Go
set_option maxRecDepth 100000
theorem dwrites_ret (w0 : World) (db n c fn fc : Nat) (a fa : Option Addr) (m : Option Nat) (off : Bool) (armed part way writes lives : Int) (hdb : (Ch.blk db [.slice a n c, .map m, .bool off, VI armed, VI part, VI way, .slice fa fn fc, VI writes, VI lives] 86).ok w0) :
    Ret Try.prog 46 [.pointer (some ⟨db, 0, none⟩)] w0 fun v w' => v = VI writes ∧ Hp w0 w' [db] [.blk db [.slice a n c, .map m, .bool off, VI armed, VI part, VI way, .slice fa fn fc, VI writes, VI lives] 86] := by
  refine ret_mk Try.func46 rfl Try.ntmps46 (by simp) ?_
  have H := Hp.start w0 (.blk db ([.slice a n c, .map m, .bool off, VI armed, VI part, VI way, .slice fa fn fc, VI writes, VI lives]) 86) db hdb rfl
  repeat refine c_seq ?_
  refine c_region ?_
  refine l_op (o_val (r_as) ?_)
  first | refine l_end ?_ | refine l_nil ?_
  repeat refine c_seq ?_
  refine c_region ?_
  refine l_op (o_val (r_mv) ?_)
  refine l_op (o_val (r_nilp Try.underlying55 (by kernel_rfl) rfl rfl) ?_)
  first | refine l_end ?_ | refine l_nil ?_
  repeat refine c_seq ?_
  refine c_no rfl ?_
  refine c_skip ?_
  repeat refine c_seq ?_
  refine c_region ?_
  refine l_op (o_val (r_mv) ?_)
  refine l_op (o_val (r_nilc rfl) ?_)
  refine l_op (o_val (r_fa rfl fo86_7) ?_)
  refine l_op (o_val (r_ld (v := VI writes) H (i := 0) rfl rfl ct3 rfl) ?_)
  refine l_op (o_val (r_as) ?_)
  first | refine l_end ?_ | refine l_nil ?_
  refine c_ret ?_
  try dsimp only [Exit.then, Exit.inBlock]
  refine e_ret1 (v := VI writes) Try.results46 rfl ?_
  refine ⟨_, rfl, ?_⟩
  exact ⟨rfl, H.sub (.cons_cons _ (List.nil_sublist _))⟩
theorem dnew_no (w0 : World) (n : Int) (h : n < 32 ∨ 4096 < n) :
    Ret Try.prog 28 [VI n] w0 fun v w' => v = .pointer none ∧ Hp w0 w' [] [] := by
  refine ret_mk Try.func28 rfl Try.ntmps28 (by simp) ?_
  have H := Hp.refl w0 []
  repeat refine c_seq ?_
  refine c_region ?_
  refine l_op (o_val (r_as) ?_)
  first | refine l_end ?_ | refine l_nil ?_
  repeat refine c_seq ?_
  refine c_region ?_
  refine l_op (o_val (r_mv) ?_)
  refine l_op (o_val (r_bin (a := n) (b := 32) rfl rfl (fun _ => b_lss)) ?_)
  refine l_op (o_val (r_mv) ?_)
  by_cases hc1 : n < 32
  ·
   refine l_no rfl rfl (by exact congrArg Value.bool (decide_eq_true hc1)) rfl ?_
   refine l_no rfl rfl (by exact congrArg Value.bool (decide_eq_true hc1)) rfl ?_
   refine l_op (o_val (r_pick (b := true) (congrArg Value.bool (decide_eq_true hc1))) ?_)
   first | refine l_end ?_ | refine l_nil ?_
   repeat refine c_seq ?_
   refine c_yes rfl ?_
   repeat refine c_seq ?_
   refine c_region ?_
   refine l_op (o_val (r_as) ?_)
   first | refine l_end ?_ | refine l_nil ?_
   refine c_ret ?_
   try dsimp only [Exit.then, Exit.inBlock]
   refine e_ret1 (v := .pointer none) Try.results28 rfl ?_
   refine ⟨_, rfl, ?_⟩
   first | exact ⟨rfl, H⟩ | (exfalso; omega)
  ·
   refine l_yes rfl rfl (by exact congrArg Value.bool (decide_eq_false hc1)) (o_val (r_mv) ?_)
   refine l_yes rfl rfl (by exact congrArg Value.bool (decide_eq_false hc1)) (o_val (r_bin (a := n) (b := 4096) rfl rfl (fun _ => b_gtr)) ?_)
   refine l_op (o_val (r_pick (b := false) (congrArg Value.bool (decide_eq_false hc1))) ?_)
   first | refine l_end ?_ | refine l_nil ?_
   by_cases hc2 : 4096 < n
   ·
    repeat refine c_seq ?_
    refine c_yes (by exact congrArg Value.bool (decide_eq_true hc2)) ?_
    repeat refine c_seq ?_
    refine c_region ?_
    refine l_op (o_val (r_as) ?_)
    first | refine l_end ?_ | refine l_nil ?_
    refine c_ret ?_
    try dsimp only [Exit.then, Exit.inBlock]
    refine e_ret1 (v := .pointer none) Try.results28 rfl ?_
    refine ⟨_, rfl, ?_⟩
    first | exact ⟨rfl, H⟩ | (exfalso; omega)
   ·
    repeat refine c_seq ?_
    refine c_no (by exact congrArg Value.bool (decide_eq_false hc2)) ?_
    refine c_skip ?_
    repeat refine c_seq ?_
    refine c_region ?_
    refine l_op (o_val (r_mv) ?_)
    refine l_op (o_makeS ((n).toNat) H sl83 zc57 rfl rfl (by omega) (by omega) (by omega) (by omega) (fun b3 w H hb3 => ?_))
    replace H : Hp _ w _ ([.own (some b3) ((n).toNat) ((n).toNat) ((List.replicate ((n).toNat) nilS).flatMap slE) 57 1]) := H
    refine l_op (o_mmake kI H (fun b4 w H hb4 => ?_))
    replace H : Hp _ w _ ([_, .obj b4 (mobj kI ([] : List (Int × Value × Nat)) 0)]) := H
    refine l_op (o_val (r_bld' (cells := ([.slice (hd (some b3)) ((n).toNat) ((n).toNat), .map (some b4), .bool false, VI (-1), VI 0, VI (-1), .slice none 0 0, VI 0, VI 0]).toArray) (pv := [(0, .slice (hd (some b3)) ((n).toNat) ((n).toNat)), (1, .map (some b4)), (3, VI (-1)), (5, VI (-1))]) bd86 rfl rfl) ?_)
    refine l_op (o_box (v := .agg ([.slice (hd (some b3)) ((n).toNat) ((n).toNat), .map (some b4), .bool false, VI (-1), VI 0, VI (-1), .slice none 0 0, VI 0, VI 0]).toArray) H rfl (fun b5 w H hb5 => ?_))
    replace H : Hp _ w _ ([_, _, .blk b5 ([.slice (hd (some b3)) ((n).toNat) ((n).toNat), .map (some b4), .bool false, VI (-1), VI 0, VI (-1), .slice none 0 0, VI 0, VI 0]) 86]) := H
    refine l_op (o_val (r_as) ?_)
    first | refine l_end ?_ | refine l_nil ?_
    refine c_ret ?_
    try dsimp only [Exit.then, Exit.inBlock]
    refine e_ret1 (v := .pointer (some ⟨b5, 0, none⟩)) Try.results28 rfl ?_
    refine ⟨_, rfl, ?_⟩
    first | exact ⟨rfl, H⟩ | (exfalso; omega)
theorem dnew_ret (w0 : World) (n : Nat) (hn : 32 ≤ n ∧ n ≤ 4096) :
    Ret Try.prog 28 [VI (n : Int)] w0 fun v w' => ∃ db z, v = .pointer (some ⟨db, 0, none⟩) ∧ z.abs = dNew n ∧ z.ok ∧ z.T = [] ∧ Hp w0 w' [] (kch db z) := by
  refine ret_mk Try.func28 rfl Try.ntmps28 (by simp) ?_
  have H := Hp.refl w0 []
  repeat refine c_seq ?_
  refine c_region ?_
  refine l_op (o_val (r_as) ?_)
  first | refine l_end ?_ | refine l_nil ?_
  repeat refine c_seq ?_
  refine c_region ?_
  refine l_op (o_val (r_mv) ?_)
  refine l_op (o_val (r_bin (a := (n : Int)) (b := 32) rfl rfl (fun _ => b_lss)) ?_)
  refine l_op (o_val (r_mv) ?_)
  by_cases hc1 : (n : Int) < 32
  ·
   refine l_no rfl rfl (by exact congrArg Value.bool (decide_eq_true hc1)) rfl ?_
   refine l_no rfl rfl (by exact congrArg Value.bool (decide_eq_true hc1)) rfl ?_
   refine l_op (o_val (r_pick (b := true) (congrArg Value.bool (decide_eq_true hc1))) ?_)
   first | refine l_end ?_ | refine l_nil ?_
   repeat refine c_seq ?_
   refine c_yes rfl ?_
   repeat refine c_seq ?_
   refine c_region ?_
   refine l_op (o_val (r_as) ?_)
   first | refine l_end ?_ | refine l_nil ?_
   refine c_ret ?_
   try dsimp only [Exit.then, Exit.inBlock]
   refine e_ret1 (v := .pointer none) Try.results28 rfl ?_
   refine ⟨_, rfl, ?_⟩
   exfalso; omega
  ·
   refine l_yes rfl rfl (by exact congrArg Value.bool (decide_eq_false hc1)) (o_val (r_mv) ?_)
   refine l_yes rfl rfl (by exact congrArg Value.bool (decide_eq_false hc1)) (o_val (r_bin (a := (n : Int)) (b := 4096) rfl rfl (fun _ => b_gtr)) ?_)
   refine l_op (o_val (r_pick (b := false) (congrArg Value.bool (decide_eq_false hc1))) ?_)
   first | refine l_end ?_ | refine l_nil ?_
   by_cases hc2 : 4096 < (n : Int)
   ·
    repeat refine c_seq ?_
    refine c_yes (by exact congrArg Value.bool (decide_eq_true hc2)) ?_
    repeat refine c_seq ?_
    refine c_region ?_
    refine l_op (o_val (r_as) ?_)
    first | refine l_end ?_ | refine l_nil ?_
    refine c_ret ?_
    try dsimp only [Exit.then, Exit.inBlock]
    refine e_ret1 (v := .pointer none) Try.results28 rfl ?_
    refine ⟨_, rfl, ?_⟩
    exfalso; omega
   ·
    repeat refine c_seq ?_
    refine c_no (by exact congrArg Value.bool (decide_eq_false hc2)) ?_
    refine c_skip ?_
    repeat refine c_seq ?_
    refine c_region ?_
    refine l_op (o_val (r_mv) ?_)
    refine l_op (o_makeS n H sl83 zc57 rfl rfl (by omega) (by omega) (by omega) (by omega) (fun b3 w H hb3 => ?_))
    replace H : Hp _ w _ ([.own (some b3) n n ((List.replicate n nilS).flatMap slE) 57 1]) := H
    refine l_op (o_mmake kI H (fun b4 w H hb4 => ?_))
    replace H : Hp _ w _ ([_, .obj b4 (mobj kI ([] : List (Int × Value × Nat)) 0)]) := H
    refine l_op (o_val (r_bld' (cells := ([.slice (hd (some b3)) n n, .map (some b4), .bool false, VI (-1), VI 0, VI (-1), .slice none 0 0, VI 0, VI 0]).toArray) (pv := [(0, .slice (hd (some b3)) n n), (1, .map (some b4)), (3, VI (-1)), (5, VI (-1))]) bd86 rfl rfl) ?_)
    refine l_op (o_box (v := .agg ([.slice (hd (some b3)) n n, .map (some b4), .bool false, VI (-1), VI 0, VI (-1), .slice none 0 0, VI 0, VI 0]).toArray) H rfl (fun b5 w H hb5 => ?_))
    replace H : Hp _ w _ ([_, _, .blk b5 ([.slice (hd (some b3)) n n, .map (some b4), .bool false, VI (-1), VI 0, VI (-1), .slice none 0 0, VI 0, VI 0]) 86]) := H
    refine l_op (o_val (r_as) ?_)
    first | refine l_end ?_ | refine l_nil ?_
    refine c_ret ?_
    try dsimp only [Exit.then, Exit.inBlock]
    refine e_ret1 (v := .pointer (some ⟨b5, 0, none⟩)) Try.results28 rfl ?_
    refine ⟨_, rfl, ?_⟩
    replace H := H.nilEnd 5 1
    have H2 := (H.permL ((perm_front (j := 2) rfl).trans (.cons _ (.refl _)))).sub (.cons_cons _ (.cons_cons _ (.cons_cons _ (.cons_cons _ (List.nil_sublist _)))))
    refine ⟨b5, ({ a1 := b3, c1 := n, ls := List.replicate n nilS, mb := b4, M := [], mc := 0, F := fun _ => none, off := false, armed := -1, part := 0, way := -1, fa := none, fc := 0, fl := [], writes := 0, lives := 0, T := [] } : DW), rfl, ?_, ⟨by simp; omega, fun s hs => .inl (List.eq_of_mem_replicate hs), MIs.nil, MOk.nil, fun i s h => (by cases h), (by simp), (by simp), (by simp; omega), (by simp)⟩, rfl, ?_⟩
    · simp [DW.abs, dNew, wh_nil]
    · rw [kch]
      simp only [List.length_replicate]
      exact H2
theorem dnewI_ret (w0 : World) (n : Int) (hn : 32 ≤ n ∧ n ≤ 4096) : Ret Try.prog 28 [VI n] w0 fun v w' => ∃ db z, v = .pointer (some ⟨db, 0, none⟩) ∧ z.abs = dNew n.toNat ∧ z.ok ∧ z.T = [] ∧ Hp w0 w' [] (kch db z) := by
  obtain ⟨m, rfl⟩ := Int.eq_ofNat_of_zero_le (show 0 ≤ n by omega)
  exact dnew_ret w0 m (by omega)
end Go.Proofs.Ytncmcgcilijfkaa
namespace Go.Proofs.Ytncmcgcilijfkaa
open Go
set_option maxRecDepth 100000
theorem full_ret (w0 : World) (s : Sl) (hs : s.ok w0) :
    Ret Try.prog 31 [s.v] w0 fun v w' => ∃ b, v = .slice (some ⟨b, 0, none⟩) 512 512 ∧ Hp w0 w' [] [.own (some b) 512 512 ((wh s.l).map V8) 5 1] := by
  refine ret_mk Try.func31 rfl Try.ntmps31 (by simp) ?_
  have H := Hp.refl w0 []
  have hsl0 := hs.ln
  have hsm := hs.le
  have hsx := hs.mx
  have hmL : maxLen = 9223372036854775807 := rfl
  repeat refine c_seq ?_
  refine c_region ?_
  refine l_op (o_val (r_as) ?_)
  first | refine l_end ?_ | refine l_nil ?_
  repeat refine c_seq ?_
  refine c_region ?_
  refine l_op (o_makeB 512 H sl57 zc5 rfl rfl (by omega) (by omega) (by omega) (fun b1 w H hb1 => ?_))
  replace H : Hp _ w _ ([.own (some b1) 512 512 ((List.replicate 512 (0 : UInt8)).map V8) 5 1]) := H
  refine l_op (o_val (r_as) ?_)
  first | refine l_end ?_ | refine l_nil ?_
  repeat refine c_seq ?_
  refine c_region ?_
  refine l_op (o_val (r_mv) ?_)
  refine l_op (o_val (r_mv) ?_)
  refine l_op (o_copyB (s := s) H (i := 0) rfl Try.underlying57 Try.underlying57 cs5 rfl rfl (hs.up H (fun _ => apart_nil _)) (by omega) (fun w H => ?_))
  replace H : Hp _ w _ ([.own (some b1) 512 512 (((s.l).take (min s.len 512) ++ (List.replicate 512 (0 : UInt8)).drop (min s.len 512)).map V8) 5 1]) := H
  first | refine l_end ?_ | refine l_nil ?_
  repeat refine c_seq ?_
  refine c_region ?_
  refine l_op (o_val (r_mv) ?_)
  refine l_op (o_val (r_as) ?_)
  first | refine l_end ?_ | refine l_nil ?_
  refine c_ret ?_
  try dsimp only [Exit.then, Exit.inBlock]
  refine e_ret1 (v := .slice (hd (some b1)) 512 512) Try.results31 rfl ?_
  refine ⟨_, rfl, ?_⟩
  have hsl := hs.ln
  have e : (s.l).take (min s.len 512) ++ (List.replicate 512 (0 : UInt8)).drop (min s.len 512) = wh s.l := by rw [wh, hsl]
  rw [e] at H
  exact ⟨_, rfl, H.sub (.cons_cons _ (List.nil_sublist _))⟩
theorem b5w : dWriteE (dNew 32) 3 (wh [7]) = 0 := by decide +kernel
theorem b5m : dMay (dWrite (dNew 32) 3 (wh [7])) 3 = 0 := by decide +kernel
theorem b5r : dRead (dWrite (dNew 32) 3 (wh [7])) 3 = wh [7] := by decide +kernel
theorem b5n : (dWrite (dNew 32) 3 (wh [7])).writes = 1 := by decide +kernel
theorem b5l : (dWrite (dNew 32) 3 (wh [7])).last.length = 32 := by decide +kernel
theorem dNew_writes {z : DW} {n : Nat} (h : z.abs = dNew n) : z.writes = 0 := congrArg DD.writes h
theorem begun5_ret (w0 : World) :
    Ret Try.prog 27 [] w0 fun v w' => v = .bool true ∧ Hp w0 w' [] [] := by
  refine ret_mk Try.func27 rfl Try.ntmps27 (by simp) ?_
  have H := Hp.refl w0 []
  repeat refine c_seq ?_
  refine c_region ?_
  refine l_op (o_val (r_as) ?_)
  first | refine l_end ?_ | refine l_nil ?_
  repeat refine c_seq ?_
  refine c_region ?_
  refine l_op (o_callR Try.func28 rfl rfl rfl (dnewI_ret _ 32 (by omega)) ?_)
  rintro _ w ⟨db1, z2, rfl, hza3, hzo4, hzt5, Hc⟩
  replace H : Hp _ w _ (Ch.blk db1 ([.slice (hd (some z2.a1)) z2.ls.length z2.c1, .map (some z2.mb), .bool z2.off, VI z2.armed, VI z2.part, VI z2.way, .slice (hd z2.fa) z2.fl.length z2.fc, VI z2.writes, VI z2.lives]) 86 :: Ch.own (some z2.a1) z2.ls.length z2.c1 ((z2.ls).flatMap slE) 57 1 :: Ch.obj z2.mb (mobj kI z2.M z2.mc) :: Ch.own z2.fa z2.fl.length z2.fc ((z2.fl).map V8) 5 1 :: z2.T) := H.call Hc
  clear Hc
  refine l_op (o_val (r_as) ?_)
  first | refine l_end ?_ | refine l_nil ?_
  have hw0 := dNew_writes hza3
  have hn32 : (dNew (32 : Int).toNat) = dNew 32 := rfl
  rw [hn32] at hza3
  repeat refine c_seq ?_
  refine c_region ?_
  refine l_op (o_val (r_mv) ?_)
  refine l_op (o_bslB ([(7 : UInt8)]) H sl57 zc5 rfl rfl (by decide) (fun b6 w H hb6 => ?_))
  replace H := H.rot
  replace H : Hp _ w _ (Ch.own (some b6) 1 1 (([(7 : UInt8)]).map V8) 5 1 :: Ch.blk db1 ([.slice (hd (some z2.a1)) z2.ls.length z2.c1, .map (some z2.mb), .bool z2.off, VI z2.armed, VI z2.part, VI z2.way, .slice (hd z2.fa) z2.fl.length z2.fc, VI z2.writes, VI z2.lives]) 86 :: Ch.own (some z2.a1) z2.ls.length z2.c1 ((z2.ls).flatMap slE) 57 1 :: Ch.obj z2.mb (mobj kI z2.M z2.mc) :: Ch.own z2.fa z2.fl.length z2.fc ((z2.fl).map V8) 5 1 :: z2.T) := H
  refine l_op (o_callR Try.func31 rfl rfl rfl (full_ret _ ⟨hd (some b6), 1, 1, [(7 : UInt8)]⟩ (H.slOwn (i := 0) rfl)) ?_)
  rintro _ w ⟨fb7, rfl, Hc⟩
  replace H : Hp _ w _ (Ch.own (some fb7) 512 512 ((wh ([(7 : UInt8)])).map V8) 5 1 :: Ch.own (some b6) 1 1 (([(7 : UInt8)]).map V8) 5 1 :: Ch.blk db1 ([.slice (hd (some z2.a1)) z2.ls.length z2.c1, .map (some z2.mb), .bool z2.off, VI z2.armed, VI z2.part, VI z2.way, .slice (hd z2.fa) z2.fl.length z2.fc, VI z2.writes, VI z2.lives]) 86 :: Ch.own (some z2.a1) z2.ls.length z2.c1 ((z2.ls).flatMap slE) 57 1 :: Ch.obj z2.mb (mobj kI z2.M z2.mc) :: Ch.own z2.fa z2.fl.length z2.fc ((z2.fl).map V8) 5 1 :: z2.T) := (H.call Hc).rot
  clear Hc
  refine l_op (o_callR Try.func34 rfl rfl rfl (dwrite_ret _ db1 z2 (H.ownT (L := [.own (some fb7) 512 512 ((wh ([(7 : UInt8)])).map V8) 5 1, .own (some b6) 1 1 (([(7 : UInt8)]).map V8) 5 1, .blk db1 ([.slice (hd (some z2.a1)) z2.ls.length z2.c1, .map (some z2.mb), .bool z2.off, VI z2.armed, VI z2.part, VI z2.way, .slice (hd z2.fa) z2.fl.length z2.fc, VI z2.writes, VI z2.lives]) 86, .own (some z2.a1) z2.ls.length z2.c1 ((z2.ls).flatMap slE) 57 1, .obj z2.mb (mobj kI z2.M z2.mc), .own z2.fa z2.fl.length z2.fc ((z2.fl).map V8) 5 1]) (L1 := [.blk db1 ([.slice (hd (some z2.a1)) z2.ls.length z2.c1, .map (some z2.mb), .bool z2.off, VI z2.armed, VI z2.part, VI z2.way, .slice (hd z2.fa) z2.fl.length z2.fc, VI z2.writes, VI z2.lives]) 86, .own (some z2.a1) z2.ls.length z2.c1 ((z2.ls).flatMap slE) 57 1, .obj z2.mb (mobj kI z2.M z2.mc), .own z2.fa z2.fl.length z2.fc ((z2.fl).map V8) 5 1]) (Lr := ([.own (some fb7) 512 512 ((wh ([(7 : UInt8)])).map V8) 5 1, .own (some b6) 1 1 (([(7 : UInt8)]).map V8) 5 1] : List Ch)) (T := z2.T) ((perm_front (j := 2) rfl).trans (.cons _ ((perm_front (j := 2) rfl).trans (.cons _ ((perm_front (j := 2) rfl).trans (.cons _ ((perm_front (j := 2) rfl).trans (.cons _ (.refl _)))))))))) hzo4 3 ⟨hd (some fb7), 512, 512, wh ([(7 : UInt8)])⟩ (H.slOwn (i := 0) rfl) (fun _ => apart_own (L := [.own (some fb7) 512 512 ((wh ([(7 : UInt8)])).map V8) 5 1, .own (some b6) 1 1 (([(7 : UInt8)]).map V8) 5 1, .blk db1 ([.slice (hd (some z2.a1)) z2.ls.length z2.c1, .map (some z2.mb), .bool z2.off, VI z2.armed, VI z2.part, VI z2.way, .slice (hd z2.fa) z2.fl.length z2.fc, VI z2.writes, VI z2.lives]) 86, .own (some z2.a1) z2.ls.length z2.c1 ((z2.ls).flatMap slE) 57 1, .obj z2.mb (mobj kI z2.M z2.mc), .own z2.fa z2.fl.length z2.fc ((z2.fl).map V8) 5 1]) (L1 := [.blk db1 ([.slice (hd (some z2.a1)) z2.ls.length z2.c1, .map (some z2.mb), .bool z2.off, VI z2.armed, VI z2.part, VI z2.way, .slice (hd z2.fa) z2.fl.length z2.fc, VI z2.writes, VI z2.lives]) 86, .own (some z2.a1) z2.ls.length z2.c1 ((z2.ls).flatMap slE) 57 1, .obj z2.mb (mobj kI z2.M z2.mc), .own z2.fa z2.fl.length z2.fc ((z2.fl).map V8) 5 1]) (Lr := ([.own (some fb7) 512 512 ((wh ([(7 : UInt8)])).map V8) 5 1, .own (some b6) 1 1 (([(7 : UInt8)]).map V8) 5 1] : List Ch)) (T := z2.T) H ((perm_front (j := 2) rfl).trans (.cons _ ((perm_front (j := 2) rfl).trans (.cons _ ((perm_front (j := 2) rfl).trans (.cons _ ((perm_front (j := 2) rfl).trans (.cons _ (.refl _))))))))) (List.mem_of_getElem? (i := 0) rfl)) (by omega)) ?_)
  rintro _ w ⟨rfl, y8, hya9, hyo10, hyt11, Hc⟩
  replace H := H.callT (L1' := [.blk db1 ([.slice (hd (some y8.a1)) y8.ls.length y8.c1, .map (some y8.mb), .bool y8.off, VI y8.armed, VI y8.part, VI y8.way, .slice (hd y8.fa) y8.fl.length y8.fc, VI y8.writes, VI y8.lives]) 86, .own (some y8.a1) y8.ls.length y8.c1 ((y8.ls).flatMap slE) 57 1, .obj y8.mb (mobj kI y8.M y8.mc), .own y8.fa y8.fl.length y8.fc ((y8.fl).map V8) 5 1]) (T' := y8.T) (L := [.own (some fb7) 512 512 ((wh ([(7 : UInt8)])).map V8) 5 1, .own (some b6) 1 1 (([(7 : UInt8)]).map V8) 5 1, .blk db1 ([.slice (hd (some z2.a1)) z2.ls.length z2.c1, .map (some z2.mb), .bool z2.off, VI z2.armed, VI z2.part, VI z2.way, .slice (hd z2.fa) z2.fl.length z2.fc, VI z2.writes, VI z2.lives]) 86, .own (some z2.a1) z2.ls.length z2.c1 ((z2.ls).flatMap slE) 57 1, .obj z2.mb (mobj kI z2.M z2.mc), .own z2.fa z2.fl.length z2.fc ((z2.fl).map V8) 5 1]) (L1 := [.blk db1 ([.slice (hd (some z2.a1)) z2.ls.length z2.c1, .map (some z2.mb), .bool z2.off, VI z2.armed, VI z2.part, VI z2.way, .slice (hd z2.fa) z2.fl.length z2.fc, VI z2.writes, VI z2.lives]) 86, .own (some z2.a1) z2.ls.length z2.c1 ((z2.ls).flatMap slE) 57 1, .obj z2.mb (mobj kI z2.M z2.mc), .own z2.fa z2.fl.length z2.fc ((z2.fl).map V8) 5 1]) (Lr := ([.own (some fb7) 512 512 ((wh ([(7 : UInt8)])).map V8) 5 1, .own (some b6) 1 1 (([(7 : UInt8)]).map V8) 5 1] : List Ch)) (T := z2.T) ((perm_front (j := 2) rfl).trans (.cons _ ((perm_front (j := 2) rfl).trans (.cons _ ((perm_front (j := 2) rfl).trans (.cons _ ((perm_front (j := 2) rfl).trans (.cons _ (.refl _))))))))) Hc (.refl _)
  clear Hc
  replace H : Hp _ w _ (Ch.own (some fb7) 512 512 ((wh ([(7 : UInt8)])).map V8) 5 1 :: Ch.own (some b6) 1 1 (([(7 : UInt8)]).map V8) 5 1 :: Ch.blk db1 ([.slice (hd (some y8.a1)) y8.ls.length y8.c1, .map (some y8.mb), .bool y8.off, VI y8.armed, VI y8.part, VI y8.way, .slice (hd y8.fa) y8.fl.length y8.fc, VI y8.writes, VI y8.lives]) 86 :: Ch.own (some y8.a1) y8.ls.length y8.c1 ((y8.ls).flatMap slE) 57 1 :: Ch.obj y8.mb (mobj kI y8.M y8.mc) :: Ch.own y8.fa y8.fl.length y8.fc ((y8.fl).map V8) 5 1 :: y8.T) := H
  replace hya9 : y8.abs = dWrite z2.abs 3 (wh ([(7 : UInt8)])) := hya9
  refine l_op (o_val (r_as) ?_)
  first | refine l_end ?_ | refine l_nil ?_
  rw [hza3] at hya9
  have hyl := y8.alen
  rw [hya9, b5l] at hyl
  repeat refine c_seq ?_
  refine c_region ?_
  refine l_op (o_val (r_mv) ?_)
  refine l_op (o_callR Try.func29 rfl rfl rfl (dread_ret _ db1 y8 (H.ownT (L := [.own (some fb7) 512 512 ((wh ([(7 : UInt8)])).map V8) 5 1, .own (some b6) 1 1 (([(7 : UInt8)]).map V8) 5 1, .blk db1 ([.slice (hd (some y8.a1)) y8.ls.length y8.c1, .map (some y8.mb), .bool y8.off, VI y8.armed, VI y8.part, VI y8.way, .slice (hd y8.fa) y8.fl.length y8.fc, VI y8.writes, VI y8.lives]) 86, .own (some y8.a1) y8.ls.length y8.c1 ((y8.ls).flatMap slE) 57 1, .obj y8.mb (mobj kI y8.M y8.mc), .own y8.fa y8.fl.length y8.fc ((y8.fl).map V8) 5 1]) (L1 := [.blk db1 ([.slice (hd (some y8.a1)) y8.ls.length y8.c1, .map (some y8.mb), .bool y8.off, VI y8.armed, VI y8.part, VI y8.way, .slice (hd y8.fa) y8.fl.length y8.fc, VI y8.writes, VI y8.lives]) 86, .own (some y8.a1) y8.ls.length y8.c1 ((y8.ls).flatMap slE) 57 1, .obj y8.mb (mobj kI y8.M y8.mc), .own y8.fa y8.fl.length y8.fc ((y8.fl).map V8) 5 1]) (Lr := ([.own (some fb7) 512 512 ((wh ([(7 : UInt8)])).map V8) 5 1, .own (some b6) 1 1 (([(7 : UInt8)]).map V8) 5 1] : List Ch)) (T := y8.T) ((perm_front (j := 2) rfl).trans (.cons _ ((perm_front (j := 2) rfl).trans (.cons _ ((perm_front (j := 2) rfl).trans (.cons _ ((perm_front (j := 2) rfl).trans (.cons _ (.refl _)))))))))) hyo10 3) ?_)
  rintro _ w ⟨a12, n13, c14, rl15, rfl, hrn16, hr017, hr118, Hc⟩
  replace H := H.callT (L1' := [.own a12 n13 c14 ((rl15).map V8) 5 1, .blk db1 ([.slice (hd (some y8.a1)) y8.ls.length y8.c1, .map (some y8.mb), .bool y8.off, VI y8.armed, VI y8.part, VI y8.way, .slice (hd y8.fa) y8.fl.length y8.fc, VI y8.writes, VI y8.lives]) 86, .own (some y8.a1) y8.ls.length y8.c1 ((y8.ls).flatMap slE) 57 1, .obj y8.mb (mobj kI y8.M y8.mc), .own y8.fa y8.fl.length y8.fc ((y8.fl).map V8) 5 1]) (T' := y8.T) (L := [.own (some fb7) 512 512 ((wh ([(7 : UInt8)])).map V8) 5 1, .own (some b6) 1 1 (([(7 : UInt8)]).map V8) 5 1, .blk db1 ([.slice (hd (some y8.a1)) y8.ls.length y8.c1, .map (some y8.mb), .bool y8.off, VI y8.armed, VI y8.part, VI y8.way, .slice (hd y8.fa) y8.fl.length y8.fc, VI y8.writes, VI y8.lives]) 86, .own (some y8.a1) y8.ls.length y8.c1 ((y8.ls).flatMap slE) 57 1, .obj y8.mb (mobj kI y8.M y8.mc), .own y8.fa y8.fl.length y8.fc ((y8.fl).map V8) 5 1]) (L1 := [.blk db1 ([.slice (hd (some y8.a1)) y8.ls.length y8.c1, .map (some y8.mb), .bool y8.off, VI y8.armed, VI y8.part, VI y8.way, .slice (hd y8.fa) y8.fl.length y8.fc, VI y8.writes, VI y8.lives]) 86, .own (some y8.a1) y8.ls.length y8.c1 ((y8.ls).flatMap slE) 57 1, .obj y8.mb (mobj kI y8.M y8.mc), .own y8.fa y8.fl.length y8.fc ((y8.fl).map V8) 5 1]) (Lr := ([.own (some fb7) 512 512 ((wh ([(7 : UInt8)])).map V8) 5 1, .own (some b6) 1 1 (([(7 : UInt8)]).map V8) 5 1] : List Ch)) (T := y8.T) ((perm_front (j := 2) rfl).trans (.cons _ ((perm_front (j := 2) rfl).trans (.cons _ ((perm_front (j := 2) rfl).trans (.cons _ ((perm_front (j := 2) rfl).trans (.cons _ (.refl _))))))))) Hc ((perm_front (j := 2) rfl).trans (.cons _ (.refl _)))
  clear Hc
  replace H : Hp _ w _ (Ch.own a12 n13 c14 ((rl15).map V8) 5 1 :: Ch.own (some fb7) 512 512 ((wh ([(7 : UInt8)])).map V8) 5 1 :: Ch.own (some b6) 1 1 (([(7 : UInt8)]).map V8) 5 1 :: Ch.blk db1 ([.slice (hd (some y8.a1)) y8.ls.length y8.c1, .map (some y8.mb), .bool y8.off, VI y8.armed, VI y8.part, VI y8.way, .slice (hd y8.fa) y8.fl.length y8.fc, VI y8.writes, VI y8.lives]) 86 :: Ch.own (some y8.a1) y8.ls.length y8.c1 ((y8.ls).flatMap slE) 57 1 :: Ch.obj y8.mb (mobj kI y8.M y8.mc) :: Ch.own y8.fa y8.fl.length y8.fc ((y8.fl).map V8) 5 1 :: y8.T) := H
  refine l_op (o_val (r_mv) ?_)
  refine l_op (o_val (r_ext rfl rfl) ?_)
  refine l_op (o_val (r_ext rfl rfl) ?_)
  refine l_op (o_val (r_as) ?_)
  refine l_op (o_val (r_as) ?_)
  first | refine l_end ?_ | refine l_nil ?_
  have hm0 : dMay y8.abs 3 = 0 := by rw [hya9]; exact b5m
  have hr0 : rl15 = wh [7] := by rw [hr017 hm0, hya9]; exact b5r
  have hr1 : n13 = 512 := by rw [hrn16, hr0]; exact wh_len _
  repeat refine c_seq ?_
  refine c_region ?_
  refine l_op (o_val (r_mv) ?_)
  refine l_op (o_callR Try.func30 rfl rfl rfl (dlen_ret _ _ y8.ls.length y8.c1 y8.fl.length y8.fc (hd (some y8.a1)) (hd y8.fa) (some y8.mb) y8.off y8.armed y8.part y8.way y8.writes y8.lives (H.has _ (List.mem_of_getElem? (i := 3) rfl))) ?_)
  rintro _ w ⟨rfl, Hc⟩
  replace H := (H.callA (i := 3) rfl rfl rfl Hc)
  clear Hc
  replace H : Hp _ w _ (Ch.own a12 n13 c14 ((rl15).map V8) 5 1 :: Ch.own (some fb7) 512 512 ((wh ([(7 : UInt8)])).map V8) 5 1 :: Ch.own (some b6) 1 1 (([(7 : UInt8)]).map V8) 5 1 :: Ch.blk db1 ([.slice (hd (some y8.a1)) y8.ls.length y8.c1, .map (some y8.mb), .bool y8.off, VI y8.armed, VI y8.part, VI y8.way, .slice (hd y8.fa) y8.fl.length y8.fc, VI y8.writes, VI y8.lives]) 86 :: Ch.own (some y8.a1) y8.ls.length y8.c1 ((y8.ls).flatMap slE) 57 1 :: Ch.obj y8.mb (mobj kI y8.M y8.mc) :: Ch.own y8.fa y8.fl.length y8.fc ((y8.fl).map V8) 5 1 :: y8.T) := H
  refine l_op (o_val (r_bin (a := (y8.ls.length : Int)) (b := 32) rfl rfl (fun _ => b_eqlB true (decide_eq_true (by omega)))) ?_)
  refine l_op (o_val (r_mv) ?_)
  refine l_yes rfl rfl rfl (o_val (r_mv) ?_)
  refine l_yes rfl rfl rfl (o_val (r_bin (a := dWriteE z2.abs 3 (wh ([(7 : UInt8)]))) (b := 0) rfl rfl (fun _ => b_eqlB true (decide_eq_true (by rw [hza3]; exact b5w)))) ?_)
  refine l_op (o_val (r_pick rfl) ?_)
  refine l_op (o_val (r_mv) ?_)
  refine l_yes rfl rfl rfl (o_val (r_mv) ?_)
  refine l_yes rfl rfl rfl (o_val (r_bin (a := dMay y8.abs 3) (b := 0) rfl rfl (fun _ => b_eqlB true (decide_eq_true hm0))) ?_)
  refine l_op (o_val (r_pick rfl) ?_)
  refine l_op (o_val (r_mv) ?_)
  refine l_yes rfl rfl rfl (o_val (r_mv) ?_)
  refine l_yes rfl rfl rfl (o_val (r_lens el57 rfl) ?_)
  refine l_yes rfl rfl rfl (o_val (r_bin (a := (n13 : Int)) (b := 512) rfl rfl (fun _ => b_eqlB true (decide_eq_true (by omega)))) ?_)
  refine l_op (o_val (r_pick rfl) ?_)
  refine l_op (o_val (r_mv) ?_)
  refine l_yes rfl rfl rfl (o_val (r_mv) ?_)
  have ah20 := H.ownAddr (i := 0) rfl (by omega)
  obtain ⟨ab19, ah20⟩ := ah20
  refine l_yes rfl rfl rfl (o_val (r_isN 0 rfl rfl el57 ah20 (by omega) (by (try simp only [Sl.cut]); omega)) ?_)
  refine l_yes rfl rfl rfl (o_val (r_ldB (s := ⟨hd a12, n13, c14, rl15⟩) (k := 0) (H.slOwn (i := 0) rfl) ah20 rfl ct5 (by (try simp only []); omega)) ?_)
  refine l_yes rfl rfl rfl (o_val (r_bin (a := (((rl15).getD 0 0).toNat : Int)) (b := 7) rfl rfl (fun _ => b_eqlB true (decide_eq_true (by rw [hr0]; rfl)))) ?_)
  refine l_op (o_val (r_pick rfl) ?_)
  refine l_op (o_val (r_mv) ?_)
  refine l_yes rfl rfl rfl (o_callR Try.func28 rfl rfl rfl (dnew_no _ 31 (by omega)) ?_)
  rintro _ w ⟨rfl, Hc⟩
  replace H : Hp _ w _ (Ch.own a12 n13 c14 ((rl15).map V8) 5 1 :: Ch.own (some fb7) 512 512 ((wh ([(7 : UInt8)])).map V8) 5 1 :: Ch.own (some b6) 1 1 (([(7 : UInt8)]).map V8) 5 1 :: Ch.blk db1 ([.slice (hd (some y8.a1)) y8.ls.length y8.c1, .map (some y8.mb), .bool y8.off, VI y8.armed, VI y8.part, VI y8.way, .slice (hd y8.fa) y8.fl.length y8.fc, VI y8.writes, VI y8.lives]) 86 :: Ch.own (some y8.a1) y8.ls.length y8.c1 ((y8.ls).flatMap slE) 57 1 :: Ch.obj y8.mb (mobj kI y8.M y8.mc) :: Ch.own y8.fa y8.fl.length y8.fc ((y8.fl).map V8) 5 1 :: y8.T) := H.keep1 Hc
  clear Hc
  refine l_yes rfl rfl rfl (o_val (r_nilpp Try.underlying55 (by kernel_rfl) rfl rfl) ?_)
  refine l_op (o_val (r_pick rfl) ?_)
  refine l_op (o_val (r_mv) ?_)
  refine l_yes rfl rfl rfl (o_val (r_mv) ?_)
  refine l_yes rfl rfl rfl (o_callR Try.func46 rfl rfl rfl (dwrites_ret _ _ y8.ls.length y8.c1 y8.fl.length y8.fc (hd (some y8.a1)) (hd y8.fa) (some y8.mb) y8.off y8.armed y8.part y8.way y8.writes y8.lives (H.has _ (List.mem_of_getElem? (i := 3) rfl))) ?_)
  rintro _ w ⟨rfl, Hc⟩
  replace H := (H.callA (i := 3) rfl rfl rfl Hc)
  clear Hc
  replace H : Hp _ w _ (Ch.own a12 n13 c14 ((rl15).map V8) 5 1 :: Ch.own (some fb7) 512 512 ((wh ([(7 : UInt8)])).map V8) 5 1 :: Ch.own (some b6) 1 1 (([(7 : UInt8)]).map V8) 5 1 :: Ch.blk db1 ([.slice (hd (some y8.a1)) y8.ls.length y8.c1, .map (some y8.mb), .bool y8.off, VI y8.armed, VI y8.part, VI y8.way, .slice (hd y8.fa) y8.fl.length y8.fc, VI y8.writes, VI y8.lives]) 86 :: Ch.own (some y8.a1) y8.ls.length y8.c1 ((y8.ls).flatMap slE) 57 1 :: Ch.obj y8.mb (mobj kI y8.M y8.mc) :: Ch.own y8.fa y8.fl.length y8.fc ((y8.fl).map V8) 5 1 :: y8.T) := H
  refine l_yes rfl rfl rfl (o_val (r_bin (a := y8.writes) (b := 1) rfl rfl (fun _ => b_eqlB true (decide_eq_true ((congrArg DD.writes hya9).trans b5n)))) ?_)
  refine l_op (o_val (r_pick rfl) ?_)
  refine l_op (o_val (r_as) ?_)
  first | refine l_end ?_ | refine l_nil ?_
  refine c_ret ?_
  try dsimp only [Exit.then, Exit.inBlock]
  refine e_ret1 (v := .bool true) Try.results27 rfl ?_
  refine ⟨_, rfl, ?_⟩
  exact ⟨rfl, H.sub (List.nil_sublist _)⟩
end Go.Proofs.Ytncmcgcilijfkaa
