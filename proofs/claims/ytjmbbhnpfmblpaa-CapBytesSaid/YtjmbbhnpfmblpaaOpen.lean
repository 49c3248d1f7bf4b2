import Derived.Test.YtjmbbhnpfmblpaaLaw
import Derived.OpenShut
/- Arguments opened: what each kind reads. -/
namespace Go.Proofs.Ytjmbbhnpfmblpaa
open Go Go.ChangeShapes Go.WideShapes Go.ChangeAt Go.RowKit Go.Deep
set_option maxRecDepth 100000
section
variable {H : Type} {enc : TypeId × Value → H} {W : World}
theorem rd_of_cells {a : Addr} {vs : List Value} (h : ∀ i v, vs[i]? = some v → W.cell? (a.add i) = some v) : RdS W (some a) vs := by
  cases vs with
  | nil => exact .inl rfl
  | cons v0 vs =>
    obtain ⟨b, o, spot⟩ := a
    have h0 := h 0 v0 rfl
    have hspot : spot = none := by simpa [Addr.add] using World.cell?_spot h0
    subst hspot
    have ha : ∀ i, (⟨b, o, none⟩ : Addr).add i = ⟨b, o + i, none⟩ := fun i => Addr.add_mid ..
    rw [ha] at h0
    cases hb : W.heap[b]? with
    | none => simp [World.cell?, hb] at h0
    | some ob =>
      cases ob with
      | cells C T fr =>
        refine .inr ⟨b, o, C, T, fr, rfl, hb, fun i v hv => ?_⟩
        have := h i v hv
        rw [ha] at this
        simpa [World.cell?, hb] using this
      | _ => simp [World.cell?, hb] at h0
theorem sl_of_ints {a : Addr} {len cap : Nat} {zs : List Int} (hl : len ≤ cap) (hm : cap ≤ maxLen) (hz : zs.length = cap) (hcell : ∀ i, i < zs.length → W.cell? (a.add i) = some (.int .u8 (zs.getD i 0))) (hwz : ∀ n ∈ zs, (Lit.int .u8 n).wf = true) :
    (⟨some a, len, cap, (zs.take len).map fun n => UInt8.ofNat n.toNat⟩ : Sl).ok W := by
  refine ⟨rd_of_cells fun i v hv => ?_, by simp; omega, hl, Nat.le_trans hl hm⟩
  simp only [List.getElem?_map, Option.map_map] at hv
  obtain ⟨n, hn, rfl⟩ := Option.map_eq_some_iff.1 hv
  have hi : i < zs.length := by
    have := (List.getElem?_eq_some_iff.1 hn).1
    simp at this; omega
  have hn' : zs[i]? = some n := by
    rw [List.getElem?_take] at hn
    split at hn
    · exact hn
    · cases hn
  have hmem : n ∈ zs := List.mem_of_getElem? hn'
  have hr := range_u8 hwz i
  rw [hn'] at hr
  simp only [Option.getD_some] at hr
  rw [hcell i hi]
  have e : zs.getD i 0 = n := by rw [List.getD_eq_getElem?_getD, hn']; rfl
  rw [e]
  simp only [Function.comp, V8, UInt8.toNat_ofNat']
  congr 2
  omega
theorem cells5 : Try.prog.cellsOf 5 = 1 := by kernel_rfl
theorem open_sl {base : Nat} {spare : Nat → Bool} {held : Bool} {fuel : Nat} {v : Value} {x : DataW H × List MemPlace} (hsp : spare = fun _ => true) (h : DataW.trod enc Try.prog W base spare held fuel 29 [v] = some x) : ∃ s : Sl, v = s.v ∧ s.ok W := by
  subst hsp
  rcases open_ints Try.underlying29 Try.underlying5 cells5 h with ⟨hcs, _⟩ | ⟨a, len, cap, zs, hcs, _, hl, hm, hz, _, hcell, hwz⟩
  · simp only [List.cons.injEq, and_true] at hcs
    exact ⟨⟨none, 0, 0, []⟩, hcs, .inl rfl, rfl, Nat.le_refl _, by decide⟩
  · simp only [List.cons.injEq, and_true] at hcs
    simp only [if_true] at hz
    exact ⟨⟨some a, len, cap, _⟩, hcs, sl_of_ints hl hm hz hcell hwz⟩
/-- a slice of bytes. -/
theorem open_u8s {base : Nat} {v : Value} {d : DataW H} {p : List MemPlace} (hval : Value.okWide Try.prog W .any base 29 v) (h : DataW.Trod enc Try.prog W 0 (fun _ => true) true 29 v d p) : ∃ s : Sl, v = s.v ∧ s.ok W := by
  obtain ⟨a, len, cap, rfl⟩ := okWide_slice Try.underlying29 hval
  obtain ⟨fuel, hf⟩ := h
  exact open_sl rfl hf
theorem cells29 : Try.prog.cellsOf 29 = 1 := by kernel_rfl
instance : Inhabited Sl := ⟨⟨none, 0, 0, []⟩⟩
/-- a list of slices of bytes. -/
theorem open_parts {base : Nat} {v : Value} {d : DataW H} {p : List MemPlace} (hval : Value.okWide Try.prog W .any base 22 v) (h : DataW.Trod enc Try.prog W 0 (fun _ => true) true 22 v d p) :
    ∃ (a : Option Addr) (len cap : Nat) (ps : List Sl), v = .slice a len cap ∧ RdS W a (ps.map Sl.v) ∧ ps.length = len ∧ (∀ p ∈ ps, p.ok W) ∧ len ≤ cap ∧ cap ≤ maxLen := by
  obtain ⟨a, len, cap, rfl⟩ := okWide_slice Try.underlying22 hval
  obtain ⟨fuel, hf⟩ := h
  rcases open_slice1 Try.underlying22 cells29 hf with ⟨hcs, _⟩ | ⟨a, len, cap, m, n, V, D, Pl, hcs, _, hl, hm, hmm, _, hx⟩
  · simp [Value.cells] at hcs
    obtain ⟨rfl, rfl, rfl⟩ := hcs
    exact ⟨none, 0, 0, [], rfl, .inl rfl, rfl, by simp, Nat.le_refl _, by decide⟩
  · simp [Value.cells] at hcs
    obtain ⟨rfl, rfl, rfl⟩ := hcs
    simp only [if_true] at hmm
    have hs : ∀ i, i < m → ∃ s : Sl, V i = s.v ∧ s.ok W := fun i hi => open_sl rfl (hx i hi).2
    obtain ⟨F, hF⟩ := choose_lt (α := Sl) (p := fun i s => V i = s.v ∧ s.ok W) hs
    refine ⟨some a, len, cap, (List.range len).map F, rfl, rd_of_cells fun i v hv => ?_, by simp, ?_, hl, hm⟩
    · simp only [List.map_map, List.getElem?_map, Option.map_eq_some_iff] at hv
      obtain ⟨j, hj, rfl⟩ := hv
      have hlt : i < len := by
        have := (List.getElem?_eq_some_iff.1 hj).1
        simpa using this
      rw [List.getElem?_range hlt] at hj
      cases hj
      rw [(hx i (by omega)).1, (hF i (by omega)).1]
      rfl
    · intro p hp
      simp only [List.mem_map, List.mem_range] at hp
      obtain ⟨i, hi, rfl⟩ := hp
      exact (hF i (by omega)).2
theorem cells3 : Try.prog.cellsOf 3 = 1 := by kernel_rfl
/-- a slice of numbers. -/
theorem open_nums {base : Nat} {v : Value} {d : DataW H} {p : List MemPlace} (hval : Value.okWide Try.prog W .any base 39 v) (h : DataW.Trod enc Try.prog W 0 (fun _ => true) true 39 v d p) :
    ∃ (a : Option Addr) (len cap : Nat) (zs : List Int), v = .slice a len cap ∧ RdS W a (zs.map VI) ∧ zs.length = len := by
  obtain ⟨a, len, cap, rfl⟩ := okWide_slice Try.underlying39 hval
  obtain ⟨fuel, hf⟩ := h
  rcases open_ints Try.underlying39 Try.underlying3 cells3 hf with ⟨hcs, _⟩ | ⟨a, len, cap, zs, hcs, _, hl, hm, hz, _, hcell, hwz⟩
  · simp [Value.cells] at hcs
    obtain ⟨rfl, rfl, rfl⟩ := hcs
    exact ⟨none, 0, 0, [], rfl, .inl rfl, rfl⟩
  · simp [Value.cells] at hcs
    obtain ⟨rfl, rfl, rfl⟩ := hcs
    simp only [if_true] at hz
    refine ⟨some a, len, cap, zs.take len, rfl, rd_of_cells fun i v hv => ?_, by simp; omega⟩
    rw [List.getElem?_map] at hv
    obtain ⟨n, hn, rfl⟩ := Option.map_eq_some_iff.1 hv
    rw [List.getElem?_take] at hn
    split at hn
    · have hi := (List.getElem?_eq_some_iff.1 hn).1
      rw [hcell i hi, List.getD_eq_getElem?_getD, hn]; rfl
    · cases hn
end
end Go.Proofs.Ytjmbbhnpfmblpaa
