import Derived.Test.YtjmbbhnpfmblpaaOpen2
import Derived.Test.YtjmbbhnpfmblpaaCap3
/- Arguments opened: caveats, tokens. -/
namespace Go.Proofs.Ytjmbbhnpfmblpaa
open Go Go.ChangeShapes Go.WideShapes Go.ChangeAt Go.RowKit Go.Deep Go.ChangeMaps
set_option maxRecDepth 100000
section
variable {H : Type} {enc : TypeId × Value → H} {W : World} {base : Nat} {spare : Nat → Bool} {held : Bool}
/-- a slice of structs, of which each row can be opened. -/
theorem open_rows {P : Program} {α : Type} [Inhabited α] {en : α → List Value} {sz : Nat} {t e : TypeId} {fuel : Nat} {cs : List Value} {x : DataW H × List MemPlace} (ht : P.underlying t = some (.slice e)) (hsz : P.cellsOf e = sz) (hz : 0 < sz)
    (hrow : ∀ (fuel : Nat) (cs : List Value) (x : DataW H × List MemPlace), DataW.trod enc P W base spare held fuel e cs = some x → ∃ c : α, cs = en c ∧ (en c).length = sz)
    (h : DataW.trod enc P W base spare held fuel t cs = some x) : ∃ g : Gl α, cs = [g.v] ∧ g.ok en sz W := by
  rcases DataW.trod_slice ht h with ⟨rfl, _⟩ | ⟨a, len, cap, elems, rest, n, _, rfl, _, _, hl, hm, hlen, hel, _, _⟩
  · exact ⟨⟨none, 0, 0, []⟩, rfl, Gl.ok_nil _⟩
  · have hs : ∀ i, i < len → ∃ c : α, (∀ j v, (en c)[j]? = some v → W.cell? (a.add (i * sz + j)) = some v) ∧ (en c).length = sz := by
      intro i hi
      have h1 := hel i hi
      rw [List.getElem?_eq_getElem (by omega), hsz] at h1
      obtain ⟨cs, hcs, htr⟩ := Option.bind_eq_some_iff.1 h1
      obtain ⟨c, rfl, hc⟩ := hrow _ _ _ htr
      refine ⟨c, fun j v hv => ?_, hc⟩
      have hlt : j < sz := by rw [← hc]; exact (List.getElem?_eq_some_iff.1 hv).1
      obtain ⟨_, _, hq⟩ := World.cells?_some hcs
      have := hq j hlt
      rw [hv, Addr.add_add] at this
      exact this
    obtain ⟨F, hF⟩ := choose_lt (α := α) (p := fun i c => (∀ j v, (en c)[j]? = some v → W.cell? (a.add (i * sz + j)) = some v) ∧ (en c).length = sz) hs
    have hsz' : ∀ c ∈ (List.range len).map F, (en c).length = sz := by
      intro c hc
      simp only [List.mem_map, List.mem_range] at hc
      obtain ⟨i, hi, rfl⟩ := hc
      exact (hF i hi).2
    refine ⟨⟨some a, len, cap, (List.range len).map F⟩, rfl, ⟨rd_of_cells fun i v hv => ?_, by simp, hl, hm, hsz'⟩⟩
    have hlt : i < len * sz := by
      have := (List.getElem?_eq_some_iff.1 hv).1
      rw [flat_len hsz'] at this; simpa using this
    have hq : i / sz < len := Nat.div_lt_of_lt_mul (by rw [Nat.mul_comm]; exact hlt)
    have hk : ((List.range len).map F)[i / sz]? = some (F (i / sz)) := by simp [hq]
    have hrow' := flat_at hsz' hk
    have hv' : (en (F (i / sz)))[i % sz]? = some v := by
      rw [← hrow', List.getElem?_take_of_lt (Nat.mod_lt _ hz), List.getElem?_drop, Nat.div_add_mod']
      exact hv
    have := (hF (i / sz) hq).1 _ _ hv'
    rwa [Nat.div_add_mod'] at this
instance : Inhabited Cav := ⟨(0, 0)⟩
theorem cellsCav : Try.prog.cellsOf 78 = 2 := by kernel_rfl
theorem open_u8v {fuel : Nat} {cs : List Value} {x : DataW H × List MemPlace} {t : TypeId} (ht : Try.prog.underlying t = some (.int .u8)) (h : DataW.trod enc Try.prog W base spare held fuel t cs = some x) : ∃ u : UInt8, cs = [V8 u] := by
  obtain ⟨n, rfl, _, hw⟩ := DataW.trod_int ht h
  exact ⟨byteOf (.int .u8 n), by rw [byteOf_V8 hw]⟩
theorem open_u64v {fuel : Nat} {cs : List Value} {x : DataW H × List MemPlace} {t : TypeId} (ht : Try.prog.underlying t = some (.int .u64)) (h : DataW.trod enc Try.prog W base spare held fuel t cs = some x) : ∃ u : UInt64, cs = [V64 u] := by
  obtain ⟨n, rfl, _, hw⟩ := DataW.trod_int ht h
  have hb := bounds_u64 hw
  refine ⟨UInt64.ofNat n.toNat, ?_⟩
  simp only [V64, UInt64.toNat_ofNat']
  congr 2; omega
theorem trod_cav (fuel : Nat) (cs : List Value) (x : DataW H × List MemPlace) (h : DataW.trod enc Try.prog W base spare held fuel 78 cs = some x) : ∃ c : Cav, cs = cavE c ∧ (cavE c).length = 2 := by
  obtain ⟨y0, y1, n, _, hl, h0, h1⟩ := trod_struct2 Try.underlying78 h
  obtain ⟨u, hu⟩ := open_u8v (t := 73) (by kernel_rfl) h0
  obtain ⟨k, hk, _, _⟩ := DataW.trod_int (t := 2) (k := .i64) (by kernel_rfl) h1
  rw [cellsCav] at hl
  have e1 : Try.prog.cellsOf 73 = 1 := by kernel_rfl
  have e2 : Try.prog.cellsOf 2 = 1 := by kernel_rfl
  simp only [e1, e2] at hu hk
  refine ⟨(u, k), ?_, rfl⟩
  match cs, hl with
  | [a, b], _ =>
    simp at hu hk
    simp [cavE, hu, hk]
theorem open_cavs {base0 : Nat} {v : Value} {d : DataW H} {p : List MemPlace} (hval : Value.okWide Try.prog W .any base0 74 v) (h : DataW.Trod enc Try.prog W base spare held 74 v d p) : ∃ g : Gl Cav, v = g.v ∧ g.ok cavE 2 W := by
  obtain ⟨a, len, cap, rfl⟩ := okWide_slice Try.underlying74 hval
  obtain ⟨fuel, hf⟩ := h
  obtain ⟨g, hg, hok⟩ := open_rows Try.underlying74 cellsCav (by decide) trod_cav hf
  refine ⟨g, ?_, hok⟩
  simpa [Value.cells] using hg
theorem open_agg {v : Value} {cs : List Value} (h : v.cells.toList = cs) (hl : 1 < cs.length) : v = .agg cs.toArray := by
  cases v <;> simp only [Value.cells] at h <;> first | (subst h; simp at hl; done) | skip
  subst h; simp
theorem trod_tok {fuel : Nat} {cs : List Value} {x : DataW H × List MemPlace} (h : DataW.trod enc Try.prog W base spare held fuel 76 cs = some x) :
    ∃ t : Tok, cs = [V64 t.serial, .string ⟨t.tenant.toArray⟩, V8 t.rights, VI t.from_, VI t.until_, t.cs.v] ++ t.tag.map V8 ∧ t.cs.ok cavE 2 W ∧ t.tag.length = 32 := by
  obtain ⟨xs, n, _, _, hl, hx, hi⟩ := DataW.trod_struct Try.underlying76 h
  have hs : ∀ i, i < 7 → ∃ y, xs[i]? = some y := fun i hi => ⟨_, List.getElem?_eq_getElem (by rw [hx]; exact hi)⟩
  obtain ⟨y0, e0⟩ := hs 0 (by decide)
  obtain ⟨y1, e1⟩ := hs 1 (by decide)
  obtain ⟨y2, e2⟩ := hs 2 (by decide)
  obtain ⟨y3, e3⟩ := hs 3 (by decide)
  obtain ⟨y4, e4⟩ := hs 4 (by decide)
  obtain ⟨y5, e5⟩ := hs 5 (by decide)
  obtain ⟨y6, e6⟩ := hs 6 (by decide)
  have h0 := (hi 0 _ rfl).trans e0
  have h1 := (hi 1 _ rfl).trans e1
  have h2 := (hi 2 _ rfl).trans e2
  have h3 := (hi 3 _ rfl).trans e3
  have h4 := (hi 4 _ rfl).trans e4
  have h5 := (hi 5 _ rfl).trans e5
  have h6 := (hi 6 _ rfl).trans e6
  obtain ⟨a0, q0⟩ := open_u64v (t := 35) (by kernel_rfl) h0
  obtain ⟨a1, q1, _, _⟩ := DataW.trod_string (t := 9) (by kernel_rfl) h1
  obtain ⟨a2, q2⟩ := open_u8v (t := 73) (by kernel_rfl) h2
  obtain ⟨a3, q3, _, _⟩ := DataW.trod_int (t := 2) (k := .i64) (by kernel_rfl) h3
  obtain ⟨a4, q4, _, _⟩ := DataW.trod_int (t := 2) (k := .i64) (by kernel_rfl) h4
  obtain ⟨a5, q5, ok5⟩ := open_rows Try.underlying74 cellsCav (by decide) trod_cav h5
  obtain ⟨a6, q6, l6⟩ := trod_id h6
  have f1 : Try.prog.cellsOf 35 = 1 := by kernel_rfl
  have f2 : Try.prog.cellsOf 9 = 1 := by kernel_rfl
  have f3 : Try.prog.cellsOf 73 = 1 := by kernel_rfl
  have f4 : Try.prog.cellsOf 2 = 1 := by kernel_rfl
  have f5 : Try.prog.cellsOf 74 = 1 := by kernel_rfl
  have f7 : Try.prog.cellsOf 76 = 38 := by kernel_rfl
  replace q0 : (cs.drop 0).take (Try.prog.cellsOf 35) = _ := q0
  rw [f1] at q0
  replace q1 : (cs.drop 1).take (Try.prog.cellsOf 9) = _ := q1
  rw [f2] at q1
  replace q2 : (cs.drop 2).take (Try.prog.cellsOf 73) = _ := q2
  rw [f3] at q2
  replace q3 : (cs.drop 3).take (Try.prog.cellsOf 2) = _ := q3
  rw [f4] at q3
  replace q4 : (cs.drop 4).take (Try.prog.cellsOf 2) = _ := q4
  rw [f4] at q4
  replace q5 : (cs.drop 5).take (Try.prog.cellsOf 74) = _ := q5
  rw [f5] at q5
  replace q6 : (cs.drop 6).take (Try.prog.cellsOf 31) = _ := q6
  rw [cellsId] at q6
  rw [f7] at hl
  have s : ∀ k v, (cs.drop k).take 1 = [v] → cs.drop k = v :: cs.drop (k + 1) := fun k v h => by
    have := List.take_append_drop 1 (cs.drop k)
    rw [h, List.drop_drop] at this
    exact this.symm
  refine ⟨⟨a0, a1.data.toList, a2, a3, a4, a5, a6⟩, ?_, ok5, l6⟩
  have z : cs.drop 0 = [V64 a0, .string a1, V8 a2, VI a3, VI a4, a5.v] ++ a6.map V8 := by
    rw [s 0 _ q0, s (0 + 1) _ q1, s (0 + 1 + 1) _ q2, s (0 + 1 + 1 + 1) _ q3, s (0 + 1 + 1 + 1 + 1) _ q4, s (0 + 1 + 1 + 1 + 1 + 1) _ q5, ← q6, List.take_of_length_le (by simp; omega)]
    rfl
  rw [List.drop_zero] at z
  exact z
theorem open_tok {base0 : Nat} {v : Value} {d : DataW H} {p : List MemPlace} (_ : Value.okWide Try.prog W .any base0 76 v) (h : DataW.Trod enc Try.prog W base spare held 76 v d p) :
    ∃ t : Tok, v = .agg ([V64 t.serial, .string ⟨t.tenant.toArray⟩, V8 t.rights, VI t.from_, VI t.until_, t.cs.v] ++ t.tag.map V8).toArray ∧ t.cs.ok cavE 2 W ∧ t.tag.length = 32 := by
  obtain ⟨fuel, hf⟩ := h
  obtain ⟨t, ht, h1, h2⟩ := trod_tok hf
  exact ⟨t, open_agg ht (by simp), h1, h2⟩
end
end Go.Proofs.Ytjmbbhnpfmblpaa
