import Derived.Test.YtjmbbhnpfmblpaaKInt
import Derived.Deep.MidRow
import Derived.Deep.AppendSrc
import Derived.Laws.CopyRow
import Derived.Laws.Tables
import Derived.Laws.NewBlocks
import Derived.Below
/- The memory that a call knows, as a list of chunks; one rule an operation. A library. -/
namespace Go.Proofs.Ytjmbbhnpfmblpaa
open Go

/-- What is known of one block: all its cells; or a slice of the call's own from the block's head on; or another object. -/
inductive Ch where
  | blk (b : Nat) (C : List Value) (T : TypeId)
  | own (a : Option Nat) (len cap : Nat) (xs : List Value) (T : TypeId) (sz : Nat)
  | obj (b : Nat) (o : Obj)
def Ch.key : Ch → Option Nat
  | .blk b _ _ => some b
  | .own a _ _ _ _ _ => a
  | .obj b _ => some b
def Ch.ok (w : World) : Ch → Prop
  | .blk b C T => w.heap[b]? = some (.cells C.toArray T (0, 0))
  | .own none len cap xs _ _ => len = 0 ∧ cap = 0 ∧ xs = []
  | .own (some b) len cap xs T sz => xs.length = len * sz ∧ len ≤ cap ∧ cap ≤ maxLen ∧ ∃ rest, w.heap[b]? = some (.cells (xs ++ rest).toArray T (0, 0)) ∧ (xs ++ rest).length = cap * sz
  | .obj b o => w.heap[b]? = some o
def hd (a : Option Nat) : Option Addr := a.map fun b => ⟨b, 0, none⟩
theorem Ch.ok_of {w w' : World} {c : Ch} (h : c.ok w) (he : ∀ b, c.key = some b → w'.heap[b]? = w.heap[b]?) : c.ok w' := by
  cases c with
  | blk b C T => simp only [Ch.ok] at *; rw [he b rfl]; exact h
  | obj b o => simp only [Ch.ok] at *; rw [he b rfl]; exact h
  | own a len cap xs T sz => cases a with
    | none => exact h
    | some b => simp only [Ch.ok] at *; rw [he b rfl]; exact h
theorem Ch.lt {w : World} {c : Ch} (h : c.ok w) {b : Nat} (hb : c.key = some b) : b < w.heap.size := by
  have aux : ∀ o, w.heap[b]? = some o → b < w.heap.size := fun o ho => (Array.getElem?_eq_some_iff.1 ho).1
  cases c with
  | blk b' C T => cases hb; exact aux _ h
  | obj b' o => cases hb; exact aux _ h
  | own a len cap xs T sz => cases a with
    | none => cases hb
    | some b' => cases hb; obtain ⟨_, _, _, r, h, _⟩ := h; exact aux _ h

/-- w came of w0: of w0's blocks only those of S may have turned; the chunks of L stand. -/
structure Hp (w0 w : World) (S : List Nat) (L : List Ch) : Prop where
  os : w.os = w0.os
  tape : w.tape = w0.tape
  output : w.output = w0.output
  size : w0.heap.size ≤ w.heap.size
  frame : ∀ b, b < w0.heap.size → b ∉ S → w.heap[b]? = w0.heap[b]?
  has : ∀ c ∈ L, c.ok w
  fresh : ∀ c ∈ L, ∀ b, c.key = some b → b ∈ S ∨ w0.heap.size ≤ b
  nd : L.Pairwise fun c e => ∀ b, c.key = some b → e.key ≠ some b

theorem Hp.refl (w : World) (S : List Nat) : Hp w w S [] := ⟨rfl, rfl, rfl, Nat.le_refl _, fun _ _ _ => rfl, (by simp), (by simp), .nil⟩
theorem Hp.start (w : World) (c : Ch) (b : Nat) (h : c.ok w) (hk : c.key = some b) : Hp w w [b] [c] :=
  ⟨rfl, rfl, rfl, Nat.le_refl _, fun _ _ _ => rfl, (by simpa using h), (by simp [hk]), by simp⟩
theorem Hp.drew {w0 w : World} {S L} (h : Hp w0 w S L) : Hp w0 w.drew S L :=
  ⟨h.os, h.tape, h.output, h.size, h.frame, fun c hc => Ch.ok_of (h.has c hc) (fun _ _ => rfl), h.fresh, h.nd⟩
theorem Hp.sub {w0 w : World} {S L L'} (h : Hp w0 w S L) (hs : L'.Sublist L) : Hp w0 w S L' :=
  ⟨h.os, h.tape, h.output, h.size, h.frame, fun c hc => h.has c (hs.subset hc), fun c hc => h.fresh c (hs.subset hc), h.nd.sublist hs⟩
theorem Hp.below {w0 w : World} {L} (h : Hp w0 w [] L) : RowKit.Below w0.heap.size w0 w := ⟨h.os, h.tape, h.output, h.size, fun k hk => h.frame k hk (by simp)⟩
theorem Hp.mono {w0 w : World} {S S' L} (h : Hp w0 w S L) (hs : ∀ b ∈ S, b ∈ S') : Hp w0 w S' L :=
  ⟨h.os, h.tape, h.output, h.size, fun b hb hn => h.frame b hb (fun hm => hn (hs b hm)), h.has, fun c hc b hk => (h.fresh c hc b hk).imp (hs b) id, h.nd⟩

theorem heap_alloc_new' (w : World) (o : Obj) : (w.alloc o).heap[w.heap.size]? = some o := heap_alloc_new w o
theorem heap_alloc_old' (w : World) (o : Obj) (k : Nat) (h : k ≠ w.heap.size) : (w.alloc o).heap[k]? = w.heap[k]? := by
  show (w.heap.push o)[k]? = _
  rw [Array.getElem?_push, if_neg h]

/-- a new block. -/
theorem Hp.new {w0 w : World} {S L} (h : Hp w0 w S L) (o : Obj) (c : Ch) (hk : c.key = some w.heap.size) (hc : c.ok (w.alloc o)) : Hp w0 (w.alloc o) S (L ++ [c]) := by
  refine ⟨h.os, h.tape, h.output, ?_, ?_, ?_, ?_, ?_⟩
  · have := h.size; simp; omega
  · intro b hb hn
    rw [heap_alloc_old' _ _ _ (by have := h.size; omega)]
    exact h.frame b hb hn
  · intro e he
    rcases List.mem_append.1 he with he | he
    · exact Ch.ok_of (h.has e he) fun b hb => heap_alloc_old' _ _ _ (by have := Ch.lt (h.has e he) hb; omega)
    · simp at he; subst he; exact hc
  · intro e he b hb
    rcases List.mem_append.1 he with he | he
    · exact h.fresh e he b hb
    · simp at he; subst he; rw [hk] at hb; cases hb; exact .inr h.size
  · rw [List.pairwise_append]
    refine ⟨h.nd, by simp, fun e he f hf b hb => ?_⟩
    simp at hf; subst hf
    rw [hk]; intro e'; cases e'
    have := Ch.lt (h.has e he) hb; omega
theorem Hp.alloc {w0 w : World} {S L} (h : Hp w0 w S L) (C : List Value) (T : TypeId) : Hp w0 (w.alloc (.cells C.toArray T)) S (L ++ [.blk w.heap.size C T]) :=
  h.new _ _ rfl (heap_alloc_new' w _)

theorem mem_set_cases {α : Type} {L : List α} {i : Nat} {c e : α} (h : e ∈ L.set i c) : e = c ∨ ∃ j, j ≠ i ∧ L[j]? = some e := by
  obtain ⟨j, hj⟩ := List.getElem?_of_mem h
  by_cases hij : i = j
  · subst hij
    rw [List.getElem?_set] at hj
    simp at hj
    exact .inl hj.2.symm
  · rw [List.getElem?_set_ne hij] at hj
    exact .inr ⟨j, Ne.symm hij, hj⟩
theorem pw_ne {L : List Ch} (h : L.Pairwise fun c e => ∀ b, c.key = some b → e.key ≠ some b) {i j : Nat} {c e : Ch} (hi : L[i]? = some c) (hj : L[j]? = some e) (hij : i ≠ j) {b : Nat} (hb : c.key = some b) : e.key ≠ some b := by
  rw [List.pairwise_iff_getElem] at h
  obtain ⟨hi', rfl⟩ := List.getElem?_eq_some_iff.1 hi
  obtain ⟨hj', rfl⟩ := List.getElem?_eq_some_iff.1 hj
  rcases Nat.lt_or_gt_of_ne hij with hlt | hlt
  · exact h i j hi' hj' hlt b hb
  · intro he
    exact h j i hj' hi' hlt b he hb
/-- chunk i turns: the new chunk lies in the old one's block, or in a new one; no other known block turns. -/
theorem Hp.turn {w0 w w' : World} {S L} (h : Hp w0 w S L) {i : Nat} {c c' : Ch} (hi : L[i]? = some c) (hok : c'.ok w') (hk : ∀ b, c'.key = some b → c.key = some b ∨ w.heap.size ≤ b)
    (hos : w'.os = w.os) (htape : w'.tape = w.tape) (hout : w'.output = w.output) (hsize : w.heap.size ≤ w'.heap.size)
    (hother : ∀ b, b < w.heap.size → c.key ≠ some b → w'.heap[b]? = w.heap[b]?) : Hp w0 w' S (L.set i c') := by
  have hmem := List.mem_of_getElem? hi
  refine ⟨hos.trans h.os, htape.trans h.tape, hout.trans h.output, Nat.le_trans h.size hsize, ?_, ?_, ?_, ?_⟩
  · intro b hb hn
    rw [hother b (Nat.lt_of_lt_of_le hb h.size) ?_, h.frame b hb hn]
    intro hc
    rcases h.fresh c hmem b hc with h1 | h1
    · exact hn h1
    · omega
  · intro e he
    rcases mem_set_cases he with rfl | ⟨j, hj, hje⟩
    · exact hok
    · have hm := List.mem_of_getElem? hje
      refine Ch.ok_of (h.has e hm) fun b hb => hother b (Ch.lt (h.has e hm) hb) fun hc => ?_
      exact pw_ne h.nd hi hje (Ne.symm hj) hc hb
  · intro e he b hb
    rcases mem_set_cases he with rfl | ⟨j, hj, hje⟩
    · rcases hk b hb with h1 | h1
      · exact h.fresh c hmem b h1
      · exact .inr (Nat.le_trans h.size h1)
    · exact h.fresh e (List.mem_of_getElem? hje) b hb
  · rw [List.pairwise_iff_getElem]
    intro j k hj hk' hlt b hb
    simp only [List.length_set] at hj hk'
    have key : ∀ m (hm : m < L.length), m ≠ i → (L[m]).key = some b → c'.key ≠ some b := fun m hm hne hb' hc' => by
      have hmok := h.has _ (List.getElem_mem hm)
      rcases hk b hc' with h1 | h1
      · exact pw_ne h.nd hi (List.getElem?_eq_getElem hm) (Ne.symm hne) h1 hb'
      · have := Ch.lt hmok hb'; omega
    rw [List.getElem_set] at hb ⊢
    by_cases h1 : i = j
    · rw [if_pos h1] at hb
      rw [if_neg (by omega)]
      intro he
      exact key k hk' (by omega) he hb
    · rw [if_neg h1] at hb
      by_cases h2 : i = k
      · rw [if_pos h2]; exact key j hj (Ne.symm h1) hb
      · rw [if_neg h2]
        exact (List.pairwise_iff_getElem.1 h.nd) j k hj hk' hlt b hb
/-- a row is laid anew. -/
theorem Hp.row {w0 w : World} {S L} (h : Hp w0 w S L) {i b : Nat} {c c' : Ch} {C C' : List Value} {T : TypeId} (hi : L[i]? = some c) (hk : c.key = some b) (hk' : c'.key = some b)
    (hw : w.heap[b]? = some (.cells C.toArray T (0, 0))) (hok : ∀ w' : World, w'.heap[b]? = some (.cells C'.toArray T (0, 0)) → c'.ok w') : Hp w0 (w.setRow b C'.toArray) S (L.set i c') :=
  h.turn hi (hok _ (setRow_heap w b _ _ T (0, 0) hw)) (fun b' hb' => .inl (by rw [hk] ; rw [hk'] at hb'; exact hb')) rfl rfl rfl (by simp)
    (fun b' _ hne => setRow_other w b b' _ (fun e => hne (by rw [hk, e])))

/-- a call that turns nothing that was there. -/
theorem Hp.call {w0 w w' : World} {S L L'} (h : Hp w0 w S L) (hc : Hp w w' [] L') : Hp w0 w' S (L ++ L') := by
  refine ⟨hc.os.trans h.os, hc.tape.trans h.tape, hc.output.trans h.output, Nat.le_trans h.size hc.size, ?_, ?_, ?_, ?_⟩
  · intro b hb hn
    rw [hc.frame b (Nat.lt_of_lt_of_le hb h.size) (by simp), h.frame b hb hn]
  · intro e he
    rcases List.mem_append.1 he with he | he
    · exact Ch.ok_of (h.has e he) fun b hb => hc.frame b (Ch.lt (h.has e he) hb) (by simp)
    · exact hc.has e he
  · intro e he b hb
    rcases List.mem_append.1 he with he | he
    · exact h.fresh e he b hb
    · rcases hc.fresh e he b hb with h1 | h1
      · simp at h1
      · exact .inr (Nat.le_trans h.size h1)
  · rw [List.pairwise_append]
    refine ⟨h.nd, hc.nd, fun e he f hf b hb hb' => ?_⟩
    rcases hc.fresh f hf b hb' with h1 | h1
    · simp at h1
    · have := Ch.lt (h.has e he) hb; omega
/-- a call that turns chunk i. -/
theorem Hp.callAt {w0 w w' : World} {S L L'} (h : Hp w0 w S L) {i b : Nat} {c c' : Ch} (hi : L[i]? = some c) (hk : c.key = some b) (hk' : c'.key = some b) (hc : Hp w w' [b] (c' :: L')) : Hp w0 w' S (L.set i c' ++ L') := by
  have h1 : Hp w0 w' S (L.set i c') := h.turn hi (hc.has c' (by simp)) (fun b' hb' => .inl (by rw [hk]; rw [hk'] at hb'; exact hb')) hc.os hc.tape hc.output hc.size
    (fun b' hb' hne => hc.frame b' hb' (by simp; intro e; exact hne (by rw [hk, e])))
  have hnd := List.pairwise_cons.1 hc.nd
  refine ⟨h1.os, h1.tape, h1.output, h1.size, h1.frame, ?_, ?_, ?_⟩
  · intro e he
    rcases List.mem_append.1 he with he | he
    · exact h1.has e he
    · exact hc.has e (by simp [he])
  · intro e he b' hb
    rcases List.mem_append.1 he with he | he
    · exact h1.fresh e he b' hb
    · rcases hc.fresh e (by simp [he]) b' hb with h2 | h2
      · simp at h2; subst h2; exact absurd hb (hnd.1 e he _ hk')
      · exact .inr (Nat.le_trans h.size h2)
  · rw [List.pairwise_append]
    refine ⟨h1.nd, hnd.2, fun e he f hf b' hb hb' => ?_⟩
    rcases hc.fresh f (by simp [hf]) b' hb' with h2 | h2
    · simp at h2; subst h2; exact hnd.1 f hf _ hk' hb'
    · rcases mem_set_cases he with rfl | ⟨j, hj, hje⟩
      · rw [hk'] at hb; cases hb; exact hnd.1 f hf _ hk' hb'
      · have := Ch.lt (h.has e (List.mem_of_getElem? hje)) hb; omega

/-! ### what a slice reads -/
/-- from the slice's beginning on the cells are vs. -/
def RdS (w : World) (a : Option Addr) (vs : List Value) : Prop :=
  vs = [] ∨ ∃ b o C T fr, a = some ⟨b, o, none⟩ ∧ w.heap[b]? = some (.cells C T fr) ∧ ∀ i v, vs[i]? = some v → C[o + i]? = some v
def Apart (a : Option Addr) (S : List Nat) : Prop := ∀ x, a = some x → x.block ∉ S
theorem apart_nil (a : Option Addr) : Apart a [] := fun _ _ => by simp
theorem RdS.nil (w : World) (a : Option Addr) : RdS w a [] := .inl rfl
theorem RdS.of_heap {w w' : World} {a : Option Addr} {vs : List Value} (h : RdS w a vs) (he : ∀ x, a = some x → x.block < w.heap.size → w'.heap[x.block]? = w.heap[x.block]?) : RdS w' a vs := by
  rcases h with h | ⟨b, o, C, T, fr, ha, hb, hc⟩
  · exact .inl h
  · exact .inr ⟨b, o, C, T, fr, ha, by rw [he _ ha (Array.getElem?_eq_some_iff.1 hb).1]; exact hb, hc⟩
theorem Hp.rd {w0 w : World} {S L} (h : Hp w0 w S L) {a : Option Addr} {vs : List Value} (hr : RdS w0 a vs) (hap : Apart a S) : RdS w a vs :=
  hr.of_heap fun x hx hlt => h.frame _ hlt (hap x hx)
theorem RdS.cell {w : World} {a : Option Addr} {vs : List Value} (h : RdS w a vs) {i : Nat} {v : Value} (hv : vs[i]? = some v) : ∃ b o, a = some ⟨b, o, none⟩ ∧ w.cell? ⟨b, o + i, none⟩ = some v := by
  rcases h with rfl | ⟨b, o, C, T, fr, ha, hb, hc⟩
  · simp at hv
  · exact ⟨b, o, ha, by simp [World.cell?, hb, hc i v hv]⟩
theorem RdS.drop {w : World} {a : Option Addr} {vs : List Value} (h : RdS w a vs) (k : Nat) : RdS w (a.map (·.add k)) (vs.drop k) := by
  rcases h with rfl | ⟨b, o, C, T, fr, rfl, hb, hc⟩
  · exact .inl (by simp)
  · refine .inr ⟨b, o + k, C, T, fr, ?_, hb, fun i v hv => ?_⟩
    · simp only [Option.map_some, Addr.add]
      by_cases hk : k = 0
      · subst hk; simp
      · rw [if_neg hk]
    · rw [List.getElem?_drop] at hv
      have := hc (k + i) v hv
      rwa [← Nat.add_assoc] at this
theorem RdS.take {w : World} {a : Option Addr} {vs : List Value} (h : RdS w a vs) (k : Nat) : RdS w a (vs.take k) := by
  rcases h with rfl | ⟨b, o, C, T, fr, rfl, hb, hc⟩
  · exact .inl (by simp)
  · refine .inr ⟨b, o, C, T, fr, rfl, hb, fun i v hv => hc i v ?_⟩
    rw [List.getElem?_take] at hv
    split at hv
    · exact hv
    · cases hv
theorem Ch.rd_own {w : World} {a : Option Nat} {len cap : Nat} {xs : List Value} {T sz} (h : (Ch.own a len cap xs T sz).ok w) : RdS w (hd a) xs := by
  cases a with
  | none => exact .inl h.2.2
  | some b =>
    obtain ⟨_, _, _, rest, hb, _⟩ := h
    refine .inr ⟨b, 0, _, T, (0, 0), rfl, hb, fun i v hv => ?_⟩
    have hi : i < xs.length := (List.getElem?_eq_some_iff.1 hv).1
    simp [List.getElem?_append_left hi, hv]
theorem Ch.rd_blk {w : World} {b : Nat} {C : List Value} {T} (h : (Ch.blk b C T).ok w) (o : Nat) : RdS w (some ⟨b, o, none⟩) (C.drop o) :=
  .inr ⟨b, o, _, T, (0, 0), rfl, h, fun i v hv => by simpa [List.getElem?_drop] using hv⟩
theorem Ch.rd_all {w : World} {b : Nat} {C : List Value} {T} (h : (Ch.blk b C T).ok w) : RdS w (some ⟨b, 0, none⟩) C := by simpa using Ch.rd_blk h 0
theorem Hp.own {w0 w : World} {S L} (h : Hp w0 w S L) {i : Nat} {a : Option Nat} {len cap : Nat} {xs : List Value} {T sz} (hi : L[i]? = some (.own a len cap xs T sz)) : RdS w (hd a) xs :=
  Ch.rd_own (h.has _ (List.mem_of_getElem? hi))
theorem Hp.blk {w0 w : World} {S L} (h : Hp w0 w S L) {i b : Nat} {C : List Value} {T} (hi : L[i]? = some (.blk b C T)) : w.heap[b]? = some (.cells C.toArray T (0, 0)) :=
  h.has _ (List.mem_of_getElem? hi)

/-! ### types -/
def cellTy (P : Program) (t : TypeId) : Bool := match P.underlying t with | some (.struct _) | some (.array _ _) => false | some _ => true | none => false
def rowTy (P : Program) (t : TypeId) : Option Nat := match P.underlying t with | some (.struct _) | some (.array _ _) => (P.info? t).map (·.size) | _ => none
def cellSz (P : Program) (t : TypeId) : Option Nat := (P.info? t).map (·.size)
theorem run_isAgg_cell {P : Program} {t : TypeId} (h : cellTy P t = true) (w : World) : (isAgg t).run P w = .ok false w := by
  unfold cellTy at h
  cases hu : P.underlying t with
  | none => simp [hu] at h
  | some d => cases d <;> simp_all [isAgg, run_underlying hu]
theorem run_isAgg_row {P : Program} {t : TypeId} {k : Nat} (h : rowTy P t = some k) (w : World) : (isAgg t).run P w = .ok true w := by
  unfold rowTy at h
  cases hu : P.underlying t with
  | none => simp [hu] at h
  | some d => cases d <;> simp_all [isAgg, run_underlying hu]
theorem sz_of_row {P : Program} {t : TypeId} {k : Nat} (h : rowTy P t = some k) : cellSz P t = some k := by
  unfold rowTy at h
  cases hu : P.underlying t with
  | none => simp [hu] at h
  | some d => cases d <;> simp_all [cellSz]
theorem run_sizeOf_sz {P : Program} {t : TypeId} {k : Nat} (h : cellSz P t = some k) (w : World) : (sizeOf t).run P w = .ok k w := by
  unfold cellSz at h
  cases hi : P.info? t with
  | none => simp [hi] at h
  | some i => simp [hi] at h; simp [sizeOf, typeInfo, hi, h]

theorem run_loadCells_row {P : Program} {w : World} {b o : Nat} {C : List Value} {T : TypeId} {fr : Nat × Nat} (hb : w.heap[b]? = some (.cells C.toArray T fr)) (k : Nat) (hk : o + k ≤ C.length) :
    ∀ i acc, (loadCellsFrom ⟨b, o, none⟩ i k acc).run P w = .ok (acc ++ ((C.drop (o + i)).take k).toArray) w ∨ k + i + o > C.length := by
  induction k with
  | zero => intro i acc; left; simp [loadCellsFrom]
  | succ k ih =>
    intro i acc
    by_cases hlt : k + 1 + i + o > C.length
    · exact .inr hlt
    · left
      have hcell : w.cell? ((⟨b, o, none⟩ : Addr).add i) = some (C[o + i]'(by omega)) := by
        rw [Addr.add_mid]; simp [World.cell?, hb]
        try rw [List.getElem?_eq_getElem (by omega)]
      rcases ih (by omega) (i + 1) (acc.push (C[o + i]'(by omega))) with h | h
      · simp only [loadCellsFrom, Sem.run_bind, run_load, hcell, Result.andThen_ok, h]
        congr 1
        have e1 : C.drop (o + i) = C[o + i]'(by omega) :: C.drop (o + i + 1) := List.drop_eq_getElem_cons (by omega)
        rw [e1, List.take_succ_cons]
        apply Array.ext'
        simp [Nat.add_assoc]
      · omega
theorem run_loadAt_row {P : Program} {w : World} {b o : Nat} {C : List Value} {T : TypeId} {fr : Nat × Nat} {t : TypeId} {k : Nat} (hb : w.heap[b]? = some (.cells C.toArray T fr)) (ht : rowTy P t = some k) (hk : o + k ≤ C.length) :
    (Instr.loadAt t (.pointer (some ⟨b, o, none⟩))).run P w = .ok (.agg ((C.drop o).take k).toArray) w := by
  have h1 := run_isAgg_row ht w
  have h2 := run_sizeOf_sz (sz_of_row ht) w
  rcases run_loadCells_row (P := P) hb k hk 0 #[] with h | h
  · simp [Instr.loadAt, Instr.sureAddr, loadVar, h1, h2, loadCells, h]
  · omega
theorem run_loadAt_cell {P : Program} {w : World} {a : Addr} {t : TypeId} {v : Value} (ht : cellTy P t = true) (hv : w.cell? a = some v) :
    (Instr.loadAt t (.pointer (some a))).run P w = .ok v w := by
  simp [Instr.loadAt, Instr.sureAddr, loadVar, run_isAgg_cell ht w, hv]
theorem run_storeAt_row {P : Program} {w : World} {b o : Nat} {C : List Value} {T : TypeId} {t : TypeId} {v : Value} (hb : w.heap[b]? = some (.cells C.toArray T (0, 0)))
    (hs : cellSz P t = some v.cells.size) (hk : o + v.cells.size ≤ C.length) (h1 : v.cells.all (·.oneCell') = true) :
    (Instr.storeAt t (.pointer (some ⟨b, o, none⟩)) v).run P w = .ok () (w.setRow b (C.take o ++ v.cells.toList ++ C.drop (o + v.cells.size)).toArray) := by
  have h2 := run_sizeOf_sz hs w
  have h3 := run_storeCells_at (P := P) b o T v.cells.toList 0 C.toArray w hb (by simpa using hk) (fun x hx => by
    rw [Array.mem_toList_iff] at hx
    obtain ⟨i, hi, rfl⟩ := Array.getElem_of_mem hx
    exact (Array.all_eq_true.1 h1) i hi)
  simp only [Nat.add_zero, Array.length_toList] at h3
  simp only [List.append_assoc] at h3 ⊢
  simp [Instr.storeAt, Instr.sureAddr, storeVar, h2, h3]

section
variable {P : Program} {Q : Exit → Act → World → Prop} {n : Nat} {σ : Nat → Value} {w w0 : World} {K : Act → World → Prop}
  {ty : TypeId} {pos : String} {aft : Array Edge} {g : Option (Nat × Bool)} {d : Nat} {t yt : TypeId} {x y : Operand} {S : List Nat} {L : List Ch}

def zeroCells (P : Program) (t : TypeId) : Option (List Value) := (P.info? t).bind fun i => i.zero.map fun v => v.cells.toList
theorem run_zero {C : List Value} (h : zeroCells P t = some C) (w : World) : ∃ z, (zeroValue t).run P w = .ok z w ∧ z.cells = C.toArray := by
  unfold zeroCells at h
  cases hi : P.info? t with
  | none => simp [hi] at h
  | some i =>
    cases hz : i.zero with
    | none => simp [hi, hz] at h
    | some z => simp [hi, hz] at h; exact ⟨z, by simp [zeroValue, typeInfo, hi, hz], by rw [← h]⟩
theorem o_alloc {C : List Value} (H : Hp w0 w S L) (hz : zeroCells P t = some C)
    (h : ∀ b w', Hp w0 w' S (L ++ [.blk b C t]) → w0.heap.size ≤ b → K (mk n (up σ d (.pointer (some ⟨b, 0, none⟩)))) w') :
    Oper.wp P ⟨some d, .alloc t, ty, pos, aft, g⟩ (mk n σ) w K Q := by
  obtain ⟨z, hz1, hz2⟩ := run_zero hz w
  refine o_val (v := .pointer (some ⟨w.heap.size, 0, none⟩)) (w' := w.alloc (.cells C.toArray t)) ?_ (h _ _ (H.alloc C t) H.size)
  simp [execOp, Instr.alloc, hz1, newVar, newRow, hz2]
theorem o_box {v : Value} (H : Hp w0 w S L) (hx : ev n σ x = v)
    (h : ∀ b w', Hp w0 w' S (L ++ [.blk b v.cells.toList t]) → w0.heap.size ≤ b → K (mk n (up σ d (.pointer (some ⟨b, 0, none⟩)))) w') :
    Oper.wp P ⟨some d, .box t x, ty, pos, aft, g⟩ (mk n σ) w K Q := by
  refine o_val (v := .pointer (some ⟨w.heap.size, 0, none⟩)) (w' := w.alloc (.cells v.cells t)) ?_ (h _ _ (by simpa using H.alloc v.cells.toList t) H.size)
  simp [execOp, Instr.box, hx, newVar, newRow]
def fieldOff (P : Program) (t : TypeId) (i : Nat) : Option Nat :=
  match P.underlying t with
  | some (.struct fs) => (fs[i]?).bind fun f => (P.info? f.type).bind fun j => if j.size = 0 then none else some f.offset
  | _ => none
theorem o_fa {b o i k : Nat} (hx : ev n σ x = .pointer (some ⟨b, o, none⟩)) (hf : fieldOff P t i = some k) (h : K (mk n (up σ d (.pointer (some ⟨b, o + k, none⟩)))) w) :
    Oper.wp P ⟨some d, .fieldAddr t x i, ty, pos, aft, g⟩ (mk n σ) w K Q := by
  refine o_val ?_ h
  unfold fieldOff at hf
  cases hu : P.underlying t with
  | none => simp [hu] at hf
  | some ds =>
    cases ds <;> simp only [hu] at hf <;> try (cases hf)
    rename_i fs
    cases hfs : fs[i]? with
    | none => simp [hfs] at hf
    | some f =>
      cases hj : P.info? f.type with
      | none => simp [hfs, hj] at hf
      | some j =>
        simp only [hfs, hj, Option.bind_some] at hf
        split at hf
        · cases hf
        · cases hf
          rename_i hsz
          simp [execOp, hx, Instr.fieldAt, run_underlying hu, hfs, Instr.sureAddr, fieldPlace, sizeOf, typeInfo, hj, hsz, Addr.add_mid]
def arrOf (P : Program) (t : TypeId) : Option (Nat × Nat) :=
  match P.underlying t with
  | some (.array len e) => (P.info? e).map fun i => (len, i.size)
  | _ => none
def eltOf (P : Program) (t : TypeId) : Option Nat :=
  match P.underlying t with
  | some (.slice e) => (P.info? e).map fun i => i.size
  | _ => none
/-- an element's address, of an array. -/
theorem o_ia {b o len sz : Nat} {k : IntKind} {i : Int} (hx : ev n σ x = .pointer (some ⟨b, o, none⟩)) (hy : ev n σ y = .int k i) (ha : arrOf P t = some (len, sz)) (h0 : 0 ≤ i) (h1 : i < len)
    (h : K (mk n (up σ d (.pointer (some ⟨b, o + i.toNat * sz, none⟩)))) w) : Oper.wp P ⟨some d, .indexAddr t x y, ty, pos, aft, g⟩ (mk n σ) w K Q := by
  refine o_val ?_ h
  unfold arrOf at ha
  cases hu : P.underlying t with
  | none => simp [hu] at ha
  | some ds =>
    cases ds <;> simp only [hu] at ha <;> try (cases ha)
    rename_i l e
    cases hj : P.info? e with
    | none => simp [hj] at ha
    | some j =>
      simp only [hj, Option.map_some, Option.some.injEq, Prod.mk.injEq] at ha
      obtain ⟨rfl, rfl⟩ := ha
      simp [execOp, hx, hy, Instr.indexAt, run_underlying hu, asIntOf, Instr.sureAddr, h0, h1, sizeOf, typeInfo, hj, Addr.add_mid]
/-- .. of a slice. -/
theorem o_is {a : Option Addr} {len cap sz : Nat} {k : IntKind} {i : Int} {vs : List Value} (hx : ev n σ x = .slice a len cap) (hy : ev n σ y = .int k i) (ha : eltOf P t = some sz) (h0 : 0 ≤ i) (h1 : i < len)
    (hs : 0 < sz) (hr : RdS w a vs) (hl : len * sz ≤ vs.length)
    (h : ∀ b o, a = some ⟨b, o, none⟩ → K (mk n (up σ d (.pointer (some ⟨b, o + i.toNat * sz, none⟩)))) w) : Oper.wp P ⟨some d, .indexAddr t x y, ty, pos, aft, g⟩ (mk n σ) w K Q := by
  rcases hr with rfl | ⟨b, o, C, T, fr, rfl, hb, hc⟩
  · simp only [List.length_nil, Nat.le_zero, Nat.mul_eq_zero] at hl; omega
  refine o_val ?_ (h b o rfl)
  unfold eltOf at ha
  cases hu : P.underlying t with
  | none => simp [hu] at ha
  | some ds =>
    cases ds <;> simp only [hu] at ha <;> try (cases ha)
    rename_i e
    cases hj : P.info? e with
    | none => simp [hj] at ha
    | some j =>
      simp only [hj, Option.map_some, Option.some.injEq] at ha
      subst ha
      simp [execOp, hx, hy, Instr.indexAt, run_underlying hu, asIntOf, h0, h1, sizeOf, typeInfo, hj, Addr.add_mid]
/-- a load of one cell, of a known block. -/
theorem o_ld {b o i : Nat} {C : List Value} {T : TypeId} {v : Value} (H : Hp w0 w S L) (hi : L[i]? = some (.blk b C T)) (hx : ev n σ x = .pointer (some ⟨b, o, none⟩)) (ht : cellTy P t = true) (hv : C[o]? = some v)
    (h : K (mk n (up σ d v)) w) : Oper.wp P ⟨some d, .load t x, ty, pos, aft, g⟩ (mk n σ) w K Q :=
  o_val (by
    have hc : w.cell? ⟨b, o, none⟩ = some v := by simp [World.cell?, H.blk hi, hv]
    simp [execOp, hx, run_loadAt_cell ht hc]) h
/-- .. of a row of cells. -/
theorem o_ldr {b o i k : Nat} {C : List Value} {T : TypeId} (H : Hp w0 w S L) (hi : L[i]? = some (.blk b C T)) (hx : ev n σ x = .pointer (some ⟨b, o, none⟩)) (ht : rowTy P t = some k) (hk : o + k ≤ C.length)
    (h : K (mk n (up σ d (.agg ((C.drop o).take k).toArray))) w) : Oper.wp P ⟨some d, .load t x, ty, pos, aft, g⟩ (mk n σ) w K Q :=
  o_val (by simp [execOp, hx, run_loadAt_row (H.blk hi) ht hk]) h
/-- a load of one cell, of what a slice reads. -/
theorem o_lds {b o i : Nat} {a : Option Addr} {vs : List Value} {v : Value} (hr : RdS w a vs) (ha : a = some ⟨b, o, none⟩) (hx : ev n σ x = .pointer (some ⟨b, o + i, none⟩)) (ht : cellTy P t = true) (hv : vs[i]? = some v)
    (h : K (mk n (up σ d v)) w) : Oper.wp P ⟨some d, .load t x, ty, pos, aft, g⟩ (mk n σ) w K Q :=
  o_val (by
    obtain ⟨b', o', ha', hc⟩ := hr.cell hv
    rw [ha] at ha'; cases ha'
    simp [execOp, hx, run_loadAt_cell ht hc]) h
/-- .. of a row of cells. -/
theorem o_ldsr {b o i k : Nat} {a : Option Addr} {vs : List Value} (hr : RdS w a vs) (ha : a = some ⟨b, o, none⟩) (hx : ev n σ x = .pointer (some ⟨b, o + i, none⟩)) (ht : rowTy P t = some k) (hk0 : 0 < k) (hk : i + k ≤ vs.length)
    (h : K (mk n (up σ d (.agg ((vs.drop i).take k).toArray))) w) : Oper.wp P ⟨some d, .load t x, ty, pos, aft, g⟩ (mk n σ) w K Q := by
  rcases hr with rfl | ⟨b', o', C, T, fr, ha', hb, hc⟩
  · simp at hk; omega
  · rw [ha] at ha'; cases ha'
    refine o_val ?_ h
    have hlen : o + vs.length ≤ C.size := by
      have := hc (vs.length - 1) (vs[vs.length - 1]'(by omega)) (List.getElem?_eq_getElem (by omega))
      have := (Array.getElem?_eq_some_iff.1 this).1
      omega
    have e := run_loadAt_row (P := P) (t := t) (k := k) (b := b) (o := o + i) (C := C.toList) (T := T) (fr := fr) (w := w) (by simpa using hb) ht (by simp; omega)
    have e2 : (C.toList.drop (o + i)).take k = (vs.drop i).take k := by
      apply List.ext_getElem?
      intro j
      by_cases hj : j < k
      · rw [List.getElem?_take_of_lt hj, List.getElem?_take_of_lt hj, List.getElem?_drop, List.getElem?_drop, List.getElem?_eq_getElem (l := vs) (by omega)]
        have := hc (i + j) _ (List.getElem?_eq_getElem (by omega))
        simpa [Nat.add_assoc] using this
      · simp [List.getElem?_take, hj]
    rw [e2] at e
    simp [execOp, hx, e]
end
end Go.Proofs.Ytjmbbhnpfmblpaa
