import Derived.Test.YtjmbbhnpfmblpaaKYield
/- Tests whose outcome is known; a library. -/
namespace Go.Proofs.Ytjmbbhnpfmblpaa
open Go
section
variable {P : Program} {Q : Exit → Act → World → Prop} {n : Nat} {σ : Nat → Value} {w : World} {K : Act → World → Prop}
  {ty : TypeId} {pos : String} {aft : Array Edge} {g : Option (Nat × Bool)} {d : Nat} {t yt : TypeId} {x y : Operand}
theorem o_eqaT {e : TypeId} {m : Nat} (a b : List UInt8) (hab : a = b) (hu : P.underlying t = some (.array m e)) (he : P.underlying e = some (.int .u8)) (hc : cellSz P e = some 1) (hx : ev n σ x = .agg (a.map V8).toArray) (hy : ev n σ y = .agg (b.map V8).toArray) (ha : a.length = m)
    (h : K (mk n (up σ d (.bool true))) w) : Oper.wp P ⟨some d, .binOp .eql t x y yt, ty, pos, aft, g⟩ (mk n σ) w K Q :=
  o_eqa hu he hc hx hy ha (by rw [← hab]; exact ha) (by rw [decide_eq_true hab]; exact h)
theorem b_lssB {k : IntKind} {a b : Int} (v : Bool) (h : decide (a < b) = v) : (binOp .lss t (.int k a) (.int k b)).run P w = .ok (.bool v) w := by rw [← h]; exact b_lss
theorem b_leqB {k : IntKind} {a b : Int} (v : Bool) (h : decide (a ≤ b) = v) : (binOp .leq t (.int k a) (.int k b)).run P w = .ok (.bool v) w := by rw [← h]; exact b_leq
theorem b_gtrB {k : IntKind} {a b : Int} (v : Bool) (h : decide (b < a) = v) : (binOp .gtr t (.int k a) (.int k b)).run P w = .ok (.bool v) w := by rw [← h]; exact b_gtr
theorem b_geqB {k : IntKind} {a b : Int} (v : Bool) (h : decide (b ≤ a) = v) : (binOp .geq t (.int k a) (.int k b)).run P w = .ok (.bool v) w := by rw [← h]; exact b_geq
theorem b_eqlB {k : IntKind} {a b : Int} (v : Bool) (h : decide (a = b) = v) : (binOp .eql t (.int k a) (.int k b)).run P w = .ok (.bool v) w := by rw [← h]; exact b_eql
theorem b_neqB {k : IntKind} {a b : Int} (v : Bool) (h : decide (a ≠ b) = v) : (binOp .neq t (.int k a) (.int k b)).run P w = .ok (.bool v) w := by rw [← h]; exact b_neq
end
theorem all1 {α : Type} {p : α → Prop} {a : α} (ha : p a) : ∀ x ∈ [a], p x := by
  intro x hx
  rw [List.mem_singleton] at hx
  rw [hx]; exact ha
theorem all2 {α : Type} {p : α → Prop} {a b : α} (ha : p a) (hb : p b) : ∀ x ∈ [a, b], p x := by
  intro x hx
  simp only [List.mem_cons, List.not_mem_nil, or_false] at hx
  rcases hx with h | h <;> rw [h] <;> assumption
end Go.Proofs.Ytjmbbhnpfmblpaa
