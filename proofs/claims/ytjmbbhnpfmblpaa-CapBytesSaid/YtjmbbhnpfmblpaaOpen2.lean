import Derived.Test.YtjmbbhnpfmblpaaOpen
/- Arguments opened: names of 32 bytes. -/
namespace Go.Proofs.Ytjmbbhnpfmblpaa
open Go Go.ChangeShapes Go.WideShapes Go.ChangeAt Go.RowKit Go.Deep Go.ChangeMaps
set_option maxRecDepth 100000
section
variable {H : Type} {enc : TypeId × Value → H} {W : World} {base : Nat} {spare : Nat → Bool} {held : Bool}
theorem cellsId : Try.prog.cellsOf 31 = 32 := by kernel_rfl
def byteOf : Value → UInt8
  | .int _ n => UInt8.ofNat n.toNat
  | _ => 0
theorem byteOf_V8 {n : Int} (h : (Lit.int .u8 n).wf = true) : V8 (byteOf (.int .u8 n)) = .int .u8 n := by
  have := bounds_u8 h
  simp only [byteOf, V8, UInt8.toNat_ofNat']
  congr 1; omega
theorem trod_id {fuel : Nat} {cs : List Value} {x : DataW H × List MemPlace} (h : DataW.trod enc Try.prog W base spare held fuel 31 cs = some x) : ∃ l : List UInt8, cs = l.map V8 ∧ l.length = 32 := by
  obtain ⟨xs, m, _, _, hl, hx, hi⟩ := DataW.trod_array Try.underlying31 h
  rw [cellsId] at hl
  refine ⟨cs.map byteOf, ?_, by simp [hl]⟩
  apply List.ext_getElem?
  intro i
  by_cases hlt : i < 32
  · have h1 := hi i hlt
    rw [cells5, Nat.mul_one, List.getElem?_eq_getElem (by omega)] at h1
    obtain ⟨n, hn, _, hw⟩ := DataW.trod_int Try.underlying5 h1
    have h2 : cs[i]? = some (.int .u8 n) := by
      have := congrArg (·[0]?) hn
      simpa [List.getElem?_take, List.getElem?_drop] using this
    simp only [List.getElem?_map, h2, Option.map_some, byteOf_V8 hw]
  · rw [List.getElem?_eq_none (by omega), List.getElem?_eq_none (by simp; omega)]
theorem open_id {base0 : Nat} {v : Value} {d : DataW H} {p : List MemPlace} (_ : Value.okWide Try.prog W .any base0 31 v) (h : DataW.Trod enc Try.prog W base spare held 31 v d p) : ∃ l : List UInt8, v = .agg (l.map V8).toArray ∧ l.length = 32 := by
  obtain ⟨fuel, hf⟩ := h
  obtain ⟨l, hl, h32⟩ := trod_id hf
  refine ⟨l, ?_, h32⟩
  have hs : v.cells.size = 32 := by
    have := congrArg List.length hl
    simpa [h32] using this
  cases v <;> simp only [Value.cells, List.size_toArray, List.length_cons, List.length_nil] at hs hl <;> first | omega | skip
  congr 1
  apply Array.ext'
  simpa using hl
end
end Go.Proofs.Ytjmbbhnpfmblpaa
