import Derived.Test.YtjmbbhnpfmblpaaK6
/- Rules for operations whose guard is the result of an operation that was itself skipped. A library. -/
namespace Go.Proofs.Ytjmbbhnpfmblpaa
open Go
section
variable {P : Program} {Q : Exit → Act → World → Prop} {n : Nat} {σ : Nat → Value} {w : World} {ty : TypeId} {pos : String} {aft : Array Edge} {d : Nat} {Qs : Act → Prop}
theorem yielded_non (ops : Array Oper) (j d : Nat) (h : (ops[j]?).bind (·.dst) = some d) (hd : Nat.blt d n = true) (hv : σ d = undef) :
    yielded ops (mk n σ).tmps j = none := by
  have hd' : d < n := by rw [Nat.blt_eq] at hd; exact hd
  unfold yielded
  simp [h, mk, hd', hv, undef]
theorem l_non {ops : Array Oper} {rest : List Oper} {op : Op} {j e : Nat} {b : Bool}
    (he : (ops[j]?).bind (·.dst) = some e) (hb : Nat.blt e n = true) (hv : σ e = undef)
    (h : wpList P ops Q rest (mk n (up σ d undef)) w) : wpList P ops Q (⟨some d, op, ty, pos, aft, some (j, b)⟩ :: rest) (mk n σ) w := by
  have hw := yielded_non ops j e he hb hv
  unfold wpList
  rw [if_neg (by simp [Region.wanted, hw]), mk_put]
  exact h
theorem s_non {ops : Array Oper} {rest : List Oper} {oo : Op} {j e : Nat} {b : Bool}
    (he : (ops[j]?).bind (·.dst) = some e) (hb : Nat.blt e n = true) (hv : σ e = undef)
    (h : wpStill P ops w Qs rest (mk n (up σ d undef))) : wpStill P ops w Qs (⟨some d, oo, ty, pos, aft, some (j, b)⟩ :: rest) (mk n σ) := by
  have hw := yielded_non ops j e he hb hv
  unfold wpStill
  rw [if_neg (by simp [Region.wanted, hw]), mk_put]
  exact h
end
end Go.Proofs.Ytjmbbhnpfmblpaa
