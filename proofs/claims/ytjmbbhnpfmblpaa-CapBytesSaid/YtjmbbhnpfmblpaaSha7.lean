import Derived.Test.YtjmbbhnpfmblpaaSha6
import Derived.Test.YtjmbbhnpfmblpaaShaAbc
/- sha: Of; what stands ahead of each statement of layer 2. -/
namespace Go.Proofs.Ytjmbbhnpfmblpaa
open Go
set_option maxRecDepth 100000
section
variable {P : Program} {Q : Exit → Act → World → Prop} {n : Nat} {σ : Nat → Value} {w w0 : World} {K : Act → World → Prop}
  {ty : TypeId} {pos : String} {aft : Array Edge} {g : Option (Nat × Bool)} {d : Nat} {t : TypeId} {x : Operand} {S : List Nat} {L : List Ch}
/-- a row that was written out as a constant text: marked. -/
def litO (C : List Value) (e : TypeId) : Obj := .cells C.toArray e (C.length, C.length + 1)
theorem o_lit {b i len cap : Nat} {C : List Value} {e : TypeId} (H : Hp w0 w S L) (hi : L[i]? = some (.blk b C e)) (hu : P.underlying t = some (.slice e)) (he : P.underlying e = some (.int .u8)) (hx : ev n σ x = .slice (some ⟨b, 0, none⟩) len cap)
    (h : ∀ w', Hp w0 w' S (L.set i (.obj b (litO C e))) → K (mk n (up σ d (.slice (some ⟨b, 0, none⟩) len cap))) w') :
    Oper.wp P ⟨some d, .convert t t x, ty, pos, aft, g⟩ (mk n σ) w K Q := by
  have hb := H.blk hi
  have hlt : b < w.heap.size := (Array.getElem?_eq_some_iff.1 hb).1
  have hsh : w.shape? b = some (e, C.length) := by simp [World.shape?, hb]
  refine o_val (v := .slice (some ⟨b, 0, none⟩) len cap) (w' := w.freeze ⟨b, C.length, none⟩ 1) ?_ (h _ ?_)
  · simp only [execOp, hx, Sem.run_bind, convert, run_underlying hu, Result.andThen_ok]
    simp [run_underlying he, markStringish, hsh]
  · have hf : ∀ k, (w.freeze ⟨b, C.length, none⟩ 1).heap[k]? = if b = k then some (litO C e) else w.heap[k]? := by
      intro k
      unfold World.freeze
      rw [if_neg (by decide)]
      simp only [Array.getElem?_modify]
      split
      · rename_i hk; subst hk
        rw [hb]; simp [litO]
      · rfl
    refine H.turn hi (c' := .obj b (litO C e)) ?_ (fun b' hb' => .inl hb') rfl rfl rfl ?_ (fun b' _ hne => ?_)
    · simp only [Ch.ok]; rw [hf, if_pos rfl]
    · unfold World.freeze; rw [if_neg (by decide)]; simp
    · rw [hf, if_neg]; intro e'; exact hne (by rw [e']; rfl)
theorem Ch.rd_lit {b : Nat} {C : List Value} {e : TypeId} {w : World} (h : (Ch.obj b (litO C e)).ok w) : RdS w (some ⟨b, 0, none⟩) C :=
  .inr ⟨b, 0, _, e, _, rfl, h, fun i v hv => by simpa using hv⟩
end
/-- a slice of bytes as a world has it. -/
structure Sl where
  a : Option Addr
  len : Nat
  cap : Nat
  l : List UInt8
def Sl.v (s : Sl) : Value := .slice s.a s.len s.cap
structure Sl.ok (s : Sl) (w : World) : Prop where
  rd : RdS w s.a (s.l.map V8)
  ln : s.l.length = s.len
  le : s.len ≤ s.cap
  mx : s.len ≤ 9223372036854775807
theorem Hp.rd' {w0 w : World} {S : List Nat} {L : List Ch} (h : Hp w0 w S L) {a : Option Addr} {vs : List Value} (hr : RdS w0 a vs) (hap : vs ≠ [] → Apart a S) : RdS w a vs := by
  by_cases hv : vs = []
  · exact .inl hv
  · exact h.rd hr (hap hv)
theorem Sl.ok.up {x : Sl} {w0 w : World} {S : List Nat} {L : List Ch} (hx : x.ok w0) (H : Hp w0 w S L) (hap : x.l ≠ [] → Apart x.a S) : x.ok w :=
  ⟨H.rd' hx.rd (fun h => hap (by simpa using h)), hx.ln, hx.le, hx.mx⟩
theorem Sl.ok.apart {x : Sl} {w0 : World} (hx : x.ok w0) {b : Nat} (hb : w0.heap.size ≤ b) : x.l ≠ [] → Apart x.a [b] := by
  intro hne y hy
  rcases hx.rd with h | ⟨b', o, C, T, fr, ha, hh, _⟩
  · exact absurd (by simpa using h) hne
  · rw [ha] at hy
    cases hy
    have := (Array.getElem?_eq_some_iff.1 hh).1
    simp only [List.mem_singleton]; omega
theorem Hp.newer {w0 w : World} {L : List Ch} (H : Hp w0 w [] L) {i b : Nat} {c : Ch} (hi : L[i]? = some c) (hk : c.key = some b) : w0.heap.size ≤ b := by
  rcases H.fresh c (List.mem_of_getElem? hi) b hk with h | h
  · simp at h
  · exact h
def cat (ps : List Sl) : List UInt8 := ps.flatMap (·.l)
theorem cat_succ (ps : List Sl) (i : Nat) (p : Sl) (h : ps[i]? = some p) : cat (ps.take (i + 1)) = cat (ps.take i) ++ p.l := by
  rw [List.take_add_one, h]; simp [cat]
/-- a write into a hash of one's own, of what was there ahead. -/
theorem writeS {w0 w : World} {S : List Nat} {L : List Ch} {hb i : Nat} {s : HS} {x : Sl} (H : Hp w0 w S L) (hi : L[i]? = some (.blk hb (hashH s) 52)) (hwt : s.wt.length = 64) (hx : x.ok w) (hap : x.l ≠ [] → Apart x.a [hb]) :
    Ret Try.prog 35 [.pointer (some ⟨hb, 0, none⟩), x.v] w fun v w' => v = .tuple #[] ∧ Hp w0 w' S (L.set i (.blk hb (hashH (absorb s x.l)) 52)) := by
  refine (write_ret w hb s x.a x.len x.cap x.l hwt (H.has _ (List.mem_of_getElem? hi)) hx.rd hx.ln hx.le hap hx.mx).mono fun v w' ⟨hv, Hc⟩ => ⟨hv, ?_⟩
  have := H.callAt hi rfl rfl Hc
  rw [List.append_nil] at this
  exact this
theorem initH : hashC initS (List.replicate 64 0) 0 = hashH HS.init := rfl
theorem absorb64 (l : List UInt8) : (absorb HS.init l).wt.length = 64 := by rw [absorb_wt]; rfl
theorem of_ret (w0 : World) (pa : Option Addr) (len cap : Nat) (ps : List Sl) (hr : RdS w0 pa (ps.map Sl.v)) (hl : ps.length = len) (hok : ∀ p ∈ ps, p.ok w0) (hmx : len < 9223372036854775807) :
    Ret Try.prog 37 [.slice pa len cap] w0 fun v w' => v = .agg ((digest (absorb HS.init (cat ps))).map V8).toArray ∧ Hp w0 w' [] [] := by
  refine ret_mk Try.func37 rfl Try.ntmps37 (by simp) ?_
  have H := Hp.refl w0 []
  repeat refine c_seq ?_
  refine c_region ?_
  refine l_op (o_alloc H zc31 (fun b2 w H hb2 => ?_))
  first | refine l_end ?_ | refine l_nil ?_
  repeat refine c_seq ?_
  refine c_region ?_
  refine l_op (o_callR Try.func34 rfl rfl rfl (new_ret _) ?_)
  rintro _ w ⟨hb, rfl, Hc⟩
  replace H := H.call Hc
  rw [initH] at H
  clear Hc
  refine l_op (o_as ?_)
  first | refine l_end ?_ | refine l_nil ?_
  repeat refine c_seq ?_
  refine c_region ?_
  refine l_op (o_mv ?_)
  refine l_op (o_lens el22 rfl ?_)
  refine l_op (o_mv ?_)
  first | refine l_end ?_ | refine l_nil ?_
  repeat refine c_seq ?_
  refine c_block ?_
  refine c_loop (ι := Nat) (fun i => [(9, VI i), (8, VI len), (7, .slice pa len cap), (3, .pointer (some ⟨hb, 0, none⟩)), (2, .pointer (some ⟨b2, 0, none⟩))])
    (fun i w => i ≤ len ∧ Hp w0 w [] [.blk b2 (List.replicate 32 (V8 0)) 31, .blk hb (hashH (absorb HS.init (cat (ps.take i)))) 52])
    (fun i => len - i) 0 ⟨rfl, rfl, rfl, rfl, rfl, trivial⟩ ⟨by omega, H⟩ ?_
  clear H
  rintro i τ w ⟨hi, H⟩
  repeat refine c_seq ?_
  refine c_region ?_
  refine l_op (o_bin rfl rfl (fun _ => b_lss) ?_)
  first | refine l_end ?_ | refine l_nil ?_
  repeat refine c_seq ?_
  refine c_ifD rfl (fun hlt => ?_) (fun hlt => ?_)
  · have hlt' : i < len := by omega
    have hgi : ps[i]? = some (ps[i]'(by omega)) := List.getElem?_eq_getElem _
    generalize (ps[i]'(by omega)) = p at hgi
    have hp := hok p (List.mem_of_getElem? hgi)
    have hv : (ps.map Sl.v)[(i : Int).toNat * 1]? = some p.v := by simp [hgi]
    refine c_skip ?_
    repeat refine c_seq ?_
    refine c_block ?_
    repeat refine c_seq ?_
    refine c_region ?_
    refine l_op (o_is rfl rfl el22 (by omega) (by omega) (by decide) (H.rd hr (apart_nil _)) (by simp [hl]) (fun b o ha => ?_))
    refine l_op (o_lds (H.rd hr (apart_nil _)) ha rfl ct29 hv ?_)
    refine l_op (o_as ?_)
    first | refine l_end ?_ | refine l_nil ?_
    repeat refine c_seq ?_
    refine c_region ?_
    refine l_op (o_mv ?_)
    refine l_op (o_mv ?_)
    refine l_op (o_callR Try.func35 rfl rfl rfl (writeS H (i := 1) rfl (absorb64 _) (hp.up H (fun _ => apart_nil _)) (hp.apart (H.newer (i := 1) rfl rfl))) ?_)
    rintro _ w ⟨rfl, Hc⟩
    clear H
    have H := Hc; clear Hc
    rw [← absorb_append, ← cat_succ ps i p hgi] at H
    first | refine l_end ?_ | refine l_nil ?_
    repeat refine c_seq ?_
    refine c_region ?_
    refine l_op (o_bin rfl rfl (fun _ => b_add (by omega) (by omega)) ?_)
    refine l_op (o_mv ?_)
    first | refine l_end ?_ | refine l_nil ?_
    refine round_end (i + 1) ?_ ?_ ?_
    · exact ⟨rfl, rfl, rfl, rfl, rfl, trivial⟩
    · exact ⟨hlt', H⟩
    · show len - (i + 1) < len - i; omega
  · have hi' : i = len := by omega
    subst hi'
    rw [List.take_of_length_le (Nat.le_of_eq hl)] at H
    have hd := digest_length (absorb HS.init (cat ps))
    refine c_exit ?_
    repeat refine c_seq ?_
    refine c_region ?_
    refine l_op (o_mv ?_)
    refine l_op (o_callR Try.func38 rfl rfl rfl (sum_ret _ hb _ (absorb64 _) (H.blk (i := 1) rfl)) ?_)
    rintro _ w ⟨rfl, Hc⟩
    replace H := H.call Hc
    rw [List.append_nil] at H
    refine l_op (o_stw H (i := 0) rfl rfl rfl (by rw [cs31]; simp [hd]) (by rw [List.all_toArray]; simp [Value.oneCell']) (by simp [hd]) (fun w H => ?_))
    first | refine l_end ?_ | refine l_nil ?_
    refine c_ret (e_retc Try.results37 H (i := 0) rfl rfl rt31 (by simp [hd]) ⟨_, rfl, rfl, ?_⟩)
    exact H.sub (List.nil_sublist _)
end Go.Proofs.Ytjmbbhnpfmblpaa
