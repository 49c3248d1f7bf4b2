/- Lemmas for the statement CapReads, part 4: rules of operations, walks through functions, plain laws. -/
import Derived.Test.YtjmbbhnpfmblpaaCapReadsG3
namespace Go.Proofs.Ytjmbbhnpfmblpaa
open Go
set_option maxRecDepth 100000
/-- a slice from its n-th byte on. -/
def Sl.tl (x : Sl) (n : Nat) : Sl := ⟨sa x.a n x.cap 1, x.len - n, x.cap - n, x.l.drop n⟩
theorem tl_cut (x : Sl) (n : Nat) (h : x.l.length = x.len) : x.cut n x.len x.cap = x.tl n := by
  rw [Sl.cut, Sl.tl, List.take_of_length_le (by simp; omega)]
theorem Sl.ok.tl {w : World} {x : Sl} (hx : x.ok w) {n : Nat} (h : n ≤ x.len) : (x.tl n).ok w := by
  rw [← tl_cut x n hx.ln]; exact hx.cut h (Nat.le_refl _) hx.le (Nat.le_refl _)
theorem r_slTl {P : Program} {n : Nat} {σ : Nat → Value} {w : World} {ty : TypeId} {pos : String} {aft : Array Edge} {g : Option (Nat × Bool)} {d : Nat} {t : TypeId} {x : Operand} {lo hi mx : Option Operand} {s : Sl} (l : Nat) {lv hv mv : Option Value} (hl0 : s.l.length = s.len) (hx : ev n σ x = s.v) (ht : eltOf P t = some 1)
    (hl : lo.map (ev n σ) = lv) (hh : hi.map (ev n σ) = hv) (hm : mx.map (ev n σ) = mv) (hb : ∀ w, (Instr.sliceBounds true s.len s.cap lv hv mv).run P w = .ok (l, s.len, s.cap) w) :
    (execOp (ev n σ) ⟨some d, .slice t x lo hi mx, ty, pos, aft, g⟩).run P w = .ok (.value (s.tl l).v) w := by
  rw [← tl_cut s l hl0]
  exact r_slS l s.len s.cap hx ht hl hh hm hb
/-- bytes and a struct lie apart. -/
theorem Sl.ok.apartB {x : Sl} {w : World} (hx : x.ok w) {b : Nat} {C : List Value} {T : TypeId} (hb : w.heap[b]? = some (.cells C.toArray T (0, 0))) (hC : ∀ v ∈ C, ∀ u : UInt8, v ≠ V8 u) : x.l ≠ [] → Apart x.a [b] := by
  intro hne y hy
  rcases hx.rd with h | ⟨b', o, C', T', fr, ha, hh, hc⟩
  · exact absurd (by simpa using h) hne
  · rw [ha] at hy
    cases hy
    simp only [List.mem_singleton]
    intro e
    subst e
    rw [hh] at hb
    cases hb
    obtain ⟨u, r, hl⟩ := List.exists_cons_of_ne_nil hne
    have h0 := hc 0 (V8 u) (by rw [hl]; rfl)
    have hm : V8 u ∈ C := by
      have := List.mem_of_getElem? (by simpa using h0 : C[o + 0]? = some (V8 u))
      exact this
    exact hC _ hm u rfl
theorem tl_zero (x : Sl) : x.tl 0 = x := by
  rw [Sl.tl, sa_zero]; rfl
def numV (n : Nat) (l : List UInt8) : UInt64 := if n ≤ l.length then num l 0 n else 0
def nxl (n : Nat) (l : List UInt8) : List UInt8 := if n ≤ l.length then l.drop n else l
def short (n : Nat) (l : List UInt8) : Bool := decide (l.length < n)
def Sl.nx (x : Sl) (n : Nat) : Sl := if n ≤ x.l.length then x.tl n else x
theorem nx_l (x : Sl) (n : Nat) : (x.nx n).l = nxl n x.l := by unfold Sl.nx nxl; split <;> rfl
theorem Sl.ok.nx {w : World} {x : Sl} (hx : x.ok w) (n : Nat) : (x.nx n).ok w := by
  unfold Sl.nx
  split
  · exact hx.tl (by rw [← hx.ln]; assumption)
  · exact hx
theorem numberB_ret (w0 : World) (b : Nat) (x : Sl) (bad : Bool) (n : Nat) (hx : x.ok w0) (hb : w0.heap[b]? = some (.cells [x.v, .bool bad].toArray 144 (0, 0))) (h1 : 1 ≤ n) (h8 : n ≤ 8) :
    Ret Try.prog 130 [.pointer (some ⟨b, 0, none⟩), VI (n : Int)] w0 fun v w' => v = V64 (numV n x.l) ∧ Hp w0 w' [b] [.blk b [(x.nx n).v, .bool (bad || short n x.l)] 144] := by
  refine ret_mk Try.func130 rfl Try.ntmps130 (by simp) ?_
  have H := Hp.start w0 (.blk b [x.v, .bool bad] 144) b hb rfl
  have hxl := hx.ln
  have hxm := hx.mx
  have hxe := hx.le
  have hap : x.l ≠ [] → Apart x.a [b] := hx.apartB hb (fun v hv u e => by subst e; simp [Sl.v] at hv)
  repeat refine c_seq ?_
  refine c_region ?_
  refine l_op (o_val (r_asV (c64 0 (by decide))) ?_)
  first | refine l_end ?_ | refine l_nil ?_
  repeat refine c_seq ?_
  refine c_region ?_
  refine l_op (o_val (r_mv) ?_)
  refine l_op (o_val (r_nilc rfl) ?_)
  refine l_op (o_val (r_fa rfl fo144_0) ?_)
  refine l_op (o_val (r_ld (v := x.v) H (i := 0) rfl rfl ct29 rfl) ?_)
  refine l_op (o_val (r_mv) ?_)
  by_cases hc1 : 0 + n ≤ x.len
  ·
   refine l_op (o_callR Try.func112 rfl rfl rfl (at_ok _ x (hx.up H hap) 0 n (by omega) (by omega) (by omega) (by (try dsimp only); omega)) ?_)
   rintro _ w ⟨rfl, Hc⟩
   replace H : Hp _ w _ ([.blk b ([x.v, .bool bad]) 144]) := H.call Hc
   clear Hc
   refine l_op (o_val (r_mv) ?_)
   refine l_op (o_val (r_ext rfl rfl) ?_)
   refine l_op (o_val (r_ext rfl rfl) ?_)
   refine l_op (o_val (r_as) ?_)
   refine l_op (o_val (r_as) ?_)
   first | refine l_end ?_ | refine l_nil ?_
   repeat refine c_seq ?_
   refine c_region ?_
   refine l_op (o_val (r_mv) ?_)
   refine l_op (o_val (r_bin (a := 0) (b := 0) rfl rfl (fun _ => b_neqB false (decide_eq_false (by decide)))) ?_)
   first | refine l_end ?_ | refine l_nil ?_
   repeat refine c_seq ?_
   refine c_no rfl ?_
   refine c_skip ?_
   repeat refine c_seq ?_
   refine c_region ?_
   refine l_op (o_val (r_mv) ?_)
   refine l_op (o_val (r_mv) ?_)
   refine l_op (o_val (r_nilc rfl) ?_)
   refine l_op (o_val (r_fa rfl fo144_0) ?_)
   refine l_op (o_val (r_ld (v := x.v) H (i := 0) rfl rfl ct29 rfl) ?_)
   refine l_op (o_val (r_mv) ?_)
   refine l_op (o_val (r_slTl (s := x) n (lv := some (VI (n : Int))) hxl rfl el29 rfl rfl rfl (fun w => by exact sbl n (by omega) (by omega) w)) ?_)
   refine l_op (o_val (r_nilc rfl) ?_)
   refine l_op (o_val (r_fa rfl fo144_0) ?_)
   refine l_op (o_st (v := (x.tl n).v) H (i := 0) rfl rfl rfl cs29 rfl (by simp only [List.length_cons, List.length_nil]; omega) (fun w H => ?_))
   replace H : Hp _ w _ ([.blk b ([(x.tl n).v, .bool bad]) 144]) := H
   first | refine l_end ?_ | refine l_nil ?_
   repeat refine c_seq ?_
   refine c_region ?_
   refine l_op (o_val (r_mv) ?_)
   refine l_op (o_val (r_as) ?_)
   first | refine l_end ?_ | refine l_nil ?_
   refine c_ret ?_
   try dsimp only [Exit.then, Exit.inBlock]
   refine e_ret1 (v := V64 (num (x.l) 0 n)) Try.results130 rfl ?_
   refine ⟨_, rfl, ?_⟩
   refine ⟨?_, ?_⟩
   · rw [numV, if_pos (by omega)]
   · rw [Sl.nx, if_pos (by omega), short, decide_eq_false (by omega), Bool.or_false]; exact H
  ·
   refine l_op (o_callR Try.func112 rfl rfl rfl (at_short _ x (hx.up H hap) 0 n (by omega) (by omega) (by omega) (by (try dsimp only); omega)) ?_)
   rintro _ w ⟨rfl, Hc⟩
   replace H : Hp _ w _ ([.blk b ([x.v, .bool bad]) 144]) := H.call Hc
   clear Hc
   refine l_op (o_val (r_mv) ?_)
   refine l_op (o_val (r_ext rfl rfl) ?_)
   refine l_op (o_val (r_ext rfl rfl) ?_)
   refine l_op (o_val (r_as) ?_)
   refine l_op (o_val (r_as) ?_)
   first | refine l_end ?_ | refine l_nil ?_
   repeat refine c_seq ?_
   refine c_region ?_
   refine l_op (o_val (r_mv) ?_)
   refine l_op (o_val (r_bin (a := 3) (b := 0) rfl rfl (fun _ => b_neqB true (decide_eq_true (by decide)))) ?_)
   first | refine l_end ?_ | refine l_nil ?_
   repeat refine c_seq ?_
   refine c_yes rfl ?_
   repeat refine c_seq ?_
   refine c_region ?_
   refine l_op (o_val (r_mv) ?_)
   refine l_op (o_val (r_nilc rfl) ?_)
   refine l_op (o_val (r_fa rfl fo144_1) ?_)
   refine l_op (o_st (v := .bool true) H (i := 0) rfl rfl rfl cs4 rfl (by simp only [List.length_cons, List.length_nil]; omega) (fun w H => ?_))
   replace H : Hp _ w _ ([.blk b ([x.v, .bool true]) 144]) := H
   first | refine l_end ?_ | refine l_nil ?_
   repeat refine c_seq ?_
   refine c_region ?_
   refine l_op (o_val (r_asV (c64 0 (by decide))) ?_)
   first | refine l_end ?_ | refine l_nil ?_
   refine c_ret ?_
   try dsimp only [Exit.then, Exit.inBlock]
   refine e_ret1 (v := V64 (0 : UInt64)) Try.results130 rfl ?_
   refine ⟨_, rfl, ?_⟩
   refine ⟨?_, ?_⟩
   · rw [numV, if_neg (by omega)]
   · rw [Sl.nx, if_neg (by omega), short, decide_eq_true (by omega), Bool.or_true]; exact H
theorem number_ret {w0 w : World} {S : List Nat} {L : List Ch} {i b : Nat} {x : Sl} {bad : Bool} (H : Hp w0 w S L) (hi : L[i]? = some (.blk b [x.v, .bool bad] 144)) (hx : x.ok w) (n : Nat) (h1 : 1 ≤ n) (h8 : n ≤ 8) :
    Ret Try.prog 130 [.pointer (some ⟨b, 0, none⟩), VI (n : Int)] w fun v w' => v = V64 (numV n x.l) ∧ Hp w0 w' S (L.set i (.blk b [(x.nx n).v, .bool (bad || short n x.l)] 144)) := by
  refine (numberB_ret w b x bad n hx (H.blk hi) h1 h8).mono fun v w' ⟨hv, Hc⟩ => ⟨hv, ?_⟩
  have := H.callAt hi rfl rfl Hc
  rwa [List.append_nil] at this
/-- what text hands back. -/
def TxtRd (l : List UInt8) (bad : Bool) (t l' : List UInt8) (bad' : Bool) : Prop := (bad' = false → bad = false ∧ l = cnt t.length ++ t ++ l') ∧ (∀ c r, l = c :: r → c.toNat < 128 → c.toNat ≤ r.length → bad' = bad ∧ t = r.take c.toNat ∧ l' = r.drop c.toNat) ∧ t.length ≤ 65536
theorem txtRd_ok {l t : List UInt8} {k : Nat} {bad : Bool} (h : TxtOut l t k 0) : TxtRd l bad t (l.drop k) bad := by
  obtain ⟨h1, h2, h3⟩ := h.1 rfl
  refine ⟨fun hb => ⟨hb, by rw [← h3, List.take_append_drop]⟩, fun c r hl hc hcr => ?_, h1⟩
  obtain ⟨_, h4, h5⟩ := h.2 c r hl hc hcr
  refine ⟨rfl, h5, ?_⟩
  rw [h4, hl, Nat.add_comm, List.drop_succ_cons]
theorem txtRd_bad {l t : List UInt8} {k : Nat} {e : Int} {bad : Bool} (h : TxtOut l t k e) (he : ¬ e = 0) : TxtRd l bad [] (l.drop 0) true :=
  ⟨fun h => (by cases h), fun c r hl hc hcr => absurd (h.2 c r hl hc hcr).1 he, Nat.zero_le _⟩
theorem textB_ret (w0 : World) (b : Nat) (x : Sl) (bad : Bool) (hx : x.ok w0) (hm : x.len ≤ 1048576) (hb : w0.heap[b]? = some (.cells [x.v, .bool bad].toArray 144 (0, 0))) :
    Ret Try.prog 131 [.pointer (some ⟨b, 0, none⟩)] w0 fun v w' => ∃ (t : List UInt8) (k : Nat) (bad' : Bool), v = .string ⟨t.toArray⟩ ∧ k ≤ x.len ∧ TxtRd x.l bad t (x.l.drop k) bad' ∧ Hp w0 w' [b] [.blk b [(x.tl k).v, .bool bad'] 144] := by
  refine ret_mk Try.func131 rfl Try.ntmps131 (by simp) ?_
  have H := Hp.start w0 (.blk b [x.v, .bool bad] 144) b hb rfl
  have hxl := hx.ln
  have hxm := hx.mx
  have hxe := hx.le
  have hap : x.l ≠ [] → Apart x.a [b] := hx.apartB hb (fun v hv u e => by subst e; simp [Sl.v] at hv)
  repeat refine c_seq ?_
  refine c_region ?_
  refine l_op (o_val (r_as) ?_)
  first | refine l_end ?_ | refine l_nil ?_
  repeat refine c_seq ?_
  refine c_region ?_
  refine l_op (o_val (r_mv) ?_)
  refine l_op (o_val (r_nilc rfl) ?_)
  refine l_op (o_val (r_fa rfl fo144_0) ?_)
  refine l_op (o_val (r_ld (v := x.v) H (i := 0) rfl rfl ct29 rfl) ?_)
  refine l_op (o_callR Try.func147 rfl rfl rfl (takeText_ret _ x (hx.up H hap) (by (try simp only [Sl.cut]); omega)) ?_)
  rintro _ w ⟨a1, c2, t3, k4, e5, rfl, hto6, Hc⟩
  replace H : Hp _ w _ ([.blk b ([x.v, .bool bad]) 144, .own a1 t3.length c2 ((t3).map V8) 5 1]) := H.call Hc
  clear Hc
  refine l_op (o_val (r_mv) ?_)
  refine l_op (o_val (r_ext rfl rfl) ?_)
  refine l_op (o_val (r_ext rfl rfl) ?_)
  refine l_op (o_val (r_ext rfl rfl) ?_)
  refine l_op (o_val (r_as) ?_)
  refine l_op (o_val (r_as) ?_)
  refine l_op (o_val (r_as) ?_)
  first | refine l_end ?_ | refine l_nil ?_
  repeat refine c_seq ?_
  refine c_region ?_
  refine l_op (o_val (r_mv) ?_)
  refine l_op (o_val (r_bin (a := e5) (b := 0) rfl rfl (fun _ => b_neq)) ?_)
  first | refine l_end ?_ | refine l_nil ?_
  by_cases hc7 : e5 ≠ 0
  ·
   repeat refine c_seq ?_
   refine c_yes (by exact congrArg Value.bool (decide_eq_true hc7)) ?_
   repeat refine c_seq ?_
   refine c_region ?_
   refine l_op (o_val (r_mv) ?_)
   refine l_op (o_val (r_nilc rfl) ?_)
   refine l_op (o_val (r_fa rfl fo144_1) ?_)
   refine l_op (o_st (v := .bool true) H (i := 0) rfl rfl rfl cs4 rfl (by simp only [List.length_cons, List.length_nil]; omega) (fun w H => ?_))
   replace H : Hp _ w _ ([.blk b ([x.v, .bool true]) 144, _]) := H
   first | refine l_end ?_ | refine l_nil ?_
   repeat refine c_seq ?_
   refine c_region ?_
   refine l_op (o_val (r_as) ?_)
   first | refine l_end ?_ | refine l_nil ?_
   refine c_ret ?_
   try dsimp only [Exit.then, Exit.inBlock]
   refine e_ret1 (v := .string ⟨(([] : List UInt8)).toArray⟩) Try.results131 rfl ?_
   refine ⟨_, rfl, ?_⟩
   refine ⟨[], 0, true, rfl, Nat.zero_le _, txtRd_bad hto6 (by omega), ?_⟩
   rw [tl_zero]
   exact H.sub (.cons_cons _ (List.nil_sublist _))
  ·
   repeat refine c_seq ?_
   refine c_no (by exact congrArg Value.bool (decide_eq_false hc7)) ?_
   refine c_skip ?_
   have he0 : e5 = 0 := by omega
   subst he0
   have hkl := (hto6.1 rfl).2.1
   repeat refine c_seq ?_
   refine c_region ?_
   refine l_op (o_val (r_mv) ?_)
   refine l_op (o_val (r_mv) ?_)
   refine l_op (o_val (r_nilc rfl) ?_)
   refine l_op (o_val (r_fa rfl fo144_0) ?_)
   refine l_op (o_val (r_ld (v := x.v) H (i := 0) rfl rfl ct29 rfl) ?_)
   refine l_op (o_val (r_mv) ?_)
   refine l_op (o_val (r_slTl (s := x) k4 (lv := some (VI (k4 : Int))) hxl rfl el29 rfl rfl rfl (fun w => by exact sbl k4 (by omega) (by omega) w)) ?_)
   refine l_op (o_val (r_nilc rfl) ?_)
   refine l_op (o_val (r_fa rfl fo144_0) ?_)
   refine l_op (o_st (v := (x.tl k4).v) H (i := 0) rfl rfl rfl cs29 rfl (by simp only [List.length_cons, List.length_nil]; omega) (fun w H => ?_))
   replace H : Hp _ w _ ([.blk b ([(x.tl k4).v, .bool bad]) 144, _]) := H
   first | refine l_end ?_ | refine l_nil ?_
   repeat refine c_seq ?_
   refine c_region ?_
   refine l_op (o_val (r_mv) ?_)
   refine l_op (o_val (r_b2S (s := ⟨hd a1, t3.length, c2, t3⟩) Try.underlying29 Try.underlying5 Try.underlying9 rfl (H.slOwn (i := 1) rfl)) ?_)
   refine l_op (o_val (r_as) ?_)
   first | refine l_end ?_ | refine l_nil ?_
   refine c_ret ?_
   try dsimp only [Exit.then, Exit.inBlock]
   refine e_ret1 (v := .string ⟨(t3).toArray⟩) Try.results131 rfl ?_
   refine ⟨_, rfl, ?_⟩
   exact ⟨t3, k4, bad, rfl, by omega, txtRd_ok hto6, H.sub (.cons_cons _ (List.nil_sublist _))⟩
theorem textR_ret {w0 w : World} {S : List Nat} {L : List Ch} {i b : Nat} {x : Sl} {bad : Bool} (H : Hp w0 w S L) (hi : L[i]? = some (.blk b [x.v, .bool bad] 144)) (hx : x.ok w) (hm : x.len ≤ 1048576) :
    Ret Try.prog 131 [.pointer (some ⟨b, 0, none⟩)] w fun v w' => ∃ (t : List UInt8) (k : Nat) (bad' : Bool), v = .string ⟨t.toArray⟩ ∧ k ≤ x.len ∧ TxtRd x.l bad t (x.l.drop k) bad' ∧ Hp w0 w' S (L.set i (.blk b [(x.tl k).v, .bool bad'] 144)) := by
  refine (textB_ret w b x bad hx hm (H.blk hi)).mono fun v w' ⟨t, k, bad', hv, ht, hy, Hc⟩ => ⟨t, k, bad', hv, ht, hy, ?_⟩
  have := H.callAt hi rfl rfl Hc
  rwa [List.append_nil] at this
theorem nx_len (x : Sl) (n : Nat) : (x.nx n).len ≤ x.len := by
  unfold Sl.nx; split
  · simp only [Sl.tl]; omega
  · exact Nat.le_refl _
theorem short_iff (n : Nat) (l : List UInt8) : short n l = false ↔ n ≤ l.length := by simp [short]
theorem num8_app (u : UInt64) (r : List UInt8) : numV 8 (be u.toNat 8 ++ r) = u ∧ nxl 8 (be u.toNat 8 ++ r) = r ∧ short 8 (be u.toNat 8 ++ r) = false := by
  have h : 8 ≤ (be u.toNat 8 ++ r).length := by simp [be_len]
  exact ⟨by rw [numV, if_pos h, num_be], by rw [nxl, if_pos h, List.drop_left' (be_len _ _)], (short_iff _ _).2 h⟩
theorem num1_app (c : UInt8) (r : List UInt8) : numV 1 (c :: r) = c.toUInt64 ∧ nxl 1 (c :: r) = r ∧ short 1 (c :: r) = false := by
  have h : 1 ≤ (c :: r).length := by simp
  exact ⟨by rw [numV, if_pos h, num_one], by rw [nxl, if_pos h]; rfl, (short_iff _ _).2 h⟩
theorem num8_of (l : List UInt8) (h : short 8 l = false) : l = be (numV 8 l).toNat 8 ++ nxl 8 l := by
  have h8 := (short_iff _ _).1 h
  rw [numV, if_pos h8, nxl, if_pos h8, num_cut l 0 (by omega), List.drop_zero, List.take_append_drop]
theorem num1_of (l : List UInt8) (h : short 1 l = false) : l = (numV 1 l).toUInt8 :: nxl 1 l := by
  have h1 := (short_iff _ _).1 h
  match l, h1 with
  | c :: r, _ =>
    rw [(num1_app c r).1, (num1_app c r).2.1]
    congr 1; simp
/-- k caveats, read one behind the other. -/
def cavRun (l : List UInt8) (b : Bool) : Nat → List Cav × List UInt8 × Bool
  | 0 => ([], l, b)
  | i + 1 => ((cavRun l b i).1 ++ [((numV 1 (cavRun l b i).2.1).toUInt8, zagU (numV 8 (nxl 1 (cavRun l b i).2.1)))], nxl 8 (nxl 1 (cavRun l b i).2.1), ((cavRun l b i).2.2 || short 1 (cavRun l b i).2.1) || short 8 (nxl 1 (cavRun l b i).2.1))
theorem cavRun_next {l : List UInt8} {b : Bool} {i : Nat} {cs : List Cav} {y : Sl} {bd : Bool} (h : cavRun l b i = (cs, y.l, bd)) :
    cavRun l b (i + 1) = (cs ++ [((numV 1 y.l).toUInt8, zagU (numV 8 (y.nx 1).l))], ((y.nx 1).nx 8).l, (bd || short 1 y.l) || short 8 (y.nx 1).l) := by
  rw [cavRun, h]; simp only [nx_l]
theorem cavRun_of (cs : List Cav) (r : List UInt8) (hf : ∀ c ∈ cs, i64in c.2) : ∀ i, i ≤ cs.length → cavRun (cavsB cs ++ r) false i = (cs.take i, cavsB (cs.drop i) ++ r, false) := by
  intro i
  induction i with
  | zero => intro _; simp [cavRun]
  | succ i ih =>
    intro hi
    have hd : cs.drop i = cs[i] :: cs.drop (i + 1) := List.drop_eq_getElem_cons (by omega)
    have hb : cavsB (cs.drop i) ++ r = cs[i].1 :: (be (zigU cs[i].2).toNat 8 ++ (cavsB (cs.drop (i + 1)) ++ r)) := by
      rw [hd, cavsB, List.flatMap_cons, ← cavsB, cavB, timeB]; simp
    obtain ⟨a1, a2, a3⟩ := num1_app cs[i].1 (be (zigU cs[i].2).toNat 8 ++ (cavsB (cs.drop (i + 1)) ++ r))
    obtain ⟨b1, b2, b3⟩ := num8_app (zigU cs[i].2) (cavsB (cs.drop (i + 1)) ++ r)
    have hi64 := hf cs[i] (List.getElem_mem _)
    have ec : cs[i].1.toUInt64.toUInt8 = cs[i].1 := by simp
    rw [cavRun, ih (by omega)]
    simp only [hb, a1, a2, a3, b1, b2, b3, ec, Bool.or_false, zag_zig _ hi64.1 hi64.2]
    rw [List.take_add_one, List.getElem?_eq_getElem (by omega)]
    rfl
theorem cavRun_sound (l : List UInt8) (b : Bool) : ∀ (i : Nat), (cavRun l b i).2.2 = false → b = false ∧ l = cavsB (cavRun l b i).1 ++ (cavRun l b i).2.1 ∧ (cavRun l b i).1.length = i ∧ ∀ c ∈ (cavRun l b i).1, i64in c.2 := by
  intro i
  induction i with
  | zero => intro h; exact ⟨h, rfl, rfl, fun c hc => by cases hc⟩
  | succ i ih =>
    intro h
    rw [cavRun] at h ⊢
    simp only [Bool.or_eq_false_iff] at h
    obtain ⟨h1, h2, h3, h4⟩ := ih h.1.1
    refine ⟨h1, ?_, by simp [h3], fun c hc => ?_⟩
    · have e1 := num1_of _ h.1.2
      have e8 := num8_of _ h.2
      have eb : cavB ((numV 1 (cavRun l b i).2.1).toUInt8, zagU (numV 8 (nxl 1 (cavRun l b i).2.1))) = (numV 1 (cavRun l b i).2.1).toUInt8 :: be (numV 8 (nxl 1 (cavRun l b i).2.1)).toNat 8 := by
        rw [cavB, timeB, zig_zag]; rfl
      simp only [cavsB, List.flatMap_append, List.flatMap_cons, List.flatMap_nil, List.append_nil, eb]
      rw [← cavsB, List.append_assoc, List.cons_append, ← e8, ← e1, ← h2]
    · simp only [List.mem_append, List.mem_singleton] at hc
      rcases hc with hc | rfl
      · exact h4 c hc
      · exact ⟨zagU_lo _, zagU_hi _⟩
/-- what the head's reading comes to. -/
def HdRd (l : List UInt8) (t l3 : List UInt8) (bd : Bool) : Prop := TxtRd (nxl 8 (nxl 1 l)) ((false || short 1 l) || short 8 (nxl 1 l)) t l3 bd
def hdBad (l3 : List UInt8) (bd : Bool) : Bool := (((bd || short 1 l3) || short 8 (nxl 1 l3)) || short 8 (nxl 8 (nxl 1 l3))) || short 1 (nxl 8 (nxl 8 (nxl 1 l3)))
theorem hd_complete {l t l3 : List UInt8} {bd : Bool} {T : TV} (hT : parseT l = some T) (h : HdRd l t l3 bd) :
    hdBad l3 bd = false ∧ numV 1 l = 1 ∧ numV 8 (nxl 1 l) = T.serial ∧ t = T.tenant ∧ (numV 1 l3).toUInt8 = T.rights ∧ zagU (numV 8 (nxl 1 l3)) = T.from_ ∧ zagU (numV 8 (nxl 8 (nxl 1 l3))) = T.until_ ∧ (numV 1 (nxl 8 (nxl 8 (nxl 1 l3)))).toNat = T.cs.length ∧ nxl 1 (nxl 8 (nxl 8 (nxl 1 l3))) = cavsB T.cs ++ T.tag := by
  obtain ⟨hm, hf, hb⟩ := (parse_iff l T).1 hT
  have hn := may_ten T hm
  have hk := may_cs T hm
  have e0 : l = 1 :: (be T.serial.toNat 8 ++ (UInt8.ofNat T.tenant.length :: (T.tenant ++ (T.rights :: (be (zigU T.from_).toNat 8 ++ (be (zigU T.until_).toNat 8 ++ (UInt8.ofNat T.cs.length :: (cavsB T.cs ++ T.tag)))))))) := by
    rw [← hb]; simp [TV.bytes, headB, timeB, cnt_one _ (show T.tenant.length ≤ 127 by omega)]
  obtain ⟨a1, a2, a3⟩ := num1_app 1 (be T.serial.toNat 8 ++ (UInt8.ofNat T.tenant.length :: (T.tenant ++ (T.rights :: (be (zigU T.from_).toNat 8 ++ (be (zigU T.until_).toNat 8 ++ (UInt8.ofNat T.cs.length :: (cavsB T.cs ++ T.tag))))))))
  obtain ⟨b1, b2, b3⟩ := num8_app T.serial (UInt8.ofNat T.tenant.length :: (T.tenant ++ (T.rights :: (be (zigU T.from_).toNat 8 ++ (be (zigU T.until_).toNat 8 ++ (UInt8.ofNat T.cs.length :: (cavsB T.cs ++ T.tag)))))))
  rw [← e0] at a1 a2 a3
  unfold HdRd at h
  rw [a2, a3, b2, b3] at h
  have hl : (UInt8.ofNat T.tenant.length).toNat = T.tenant.length := by rw [UInt8.toNat_ofNat']; omega
  obtain ⟨c1, c2, c3⟩ := h.2.1 _ _ rfl (by omega) (by rw [hl]; simp)
  rw [hl, List.take_left' rfl] at c2
  rw [hl, List.drop_left' rfl] at c3
  obtain ⟨d1, d2, d3⟩ := num1_app T.rights (be (zigU T.from_).toNat 8 ++ (be (zigU T.until_).toNat 8 ++ (UInt8.ofNat T.cs.length :: (cavsB T.cs ++ T.tag))))
  obtain ⟨f1, f2, f3⟩ := num8_app (zigU T.from_) (be (zigU T.until_).toNat 8 ++ (UInt8.ofNat T.cs.length :: (cavsB T.cs ++ T.tag)))
  obtain ⟨g1, g2, g3⟩ := num8_app (zigU T.until_) (UInt8.ofNat T.cs.length :: (cavsB T.cs ++ T.tag))
  obtain ⟨k1, k2, k3⟩ := num1_app (UInt8.ofNat T.cs.length) (cavsB T.cs ++ T.tag)
  have ek : (UInt8.ofNat T.cs.length).toUInt64.toNat = T.cs.length := by rw [UInt8.toNat_toUInt64, UInt8.toNat_ofNat']; omega
  unfold hdBad
  rw [c3, d1, d2, d3, f1, f2, f3, g1, g2, g3, k1, k2, k3, a1, a2, b1, c1, ek, zag_zig _ hf.f.1 hf.f.2, zag_zig _ hf.u.1 hf.u.2]
  exact ⟨rfl, rfl, rfl, c2, by simp, rfl, rfl, rfl, rfl⟩
theorem take_sound {l t l3 : List UInt8} {bd : Bool} {k : Nat} (h : HdRd l t l3 bd) (h1 : (numV 1 l).toNat = 1) (hk : (numV 1 (nxl 8 (nxl 8 (nxl 1 l3)))).toNat = k) (hbad : (cavRun (nxl 1 (nxl 8 (nxl 8 (nxl 1 l3)))) (hdBad l3 bd) k).2.2 = false) (h32 : (cavRun (nxl 1 (nxl 8 (nxl 8 (nxl 1 l3)))) (hdBad l3 bd) k).2.1.length = 32)
    (hm : (⟨numV 8 (nxl 1 l), t, (numV 1 l3).toUInt8, zagU (numV 8 (nxl 1 l3)), zagU (numV 8 (nxl 8 (nxl 1 l3))), (cavRun (nxl 1 (nxl 8 (nxl 8 (nxl 1 l3)))) (hdBad l3 bd) k).1, (cavRun (nxl 1 (nxl 8 (nxl 8 (nxl 1 l3)))) (hdBad l3 bd) k).2.1⟩ : TV).may = true) :
    parseT l = some ⟨numV 8 (nxl 1 l), t, (numV 1 l3).toUInt8, zagU (numV 8 (nxl 1 l3)), zagU (numV 8 (nxl 8 (nxl 1 l3))), (cavRun (nxl 1 (nxl 8 (nxl 8 (nxl 1 l3)))) (hdBad l3 bd) k).1, (cavRun (nxl 1 (nxl 8 (nxl 8 (nxl 1 l3)))) (hdBad l3 bd) k).2.1⟩ := by
  obtain ⟨q1, q2, q3, q4⟩ := cavRun_sound _ _ k hbad
  unfold hdBad at q1
  simp only [Bool.or_eq_false_iff] at q1
  obtain ⟨⟨⟨⟨s0, s1⟩, s2⟩, s3⟩, s4⟩ := q1
  obtain ⟨s5, s6⟩ := h.1 s0
  simp only [Bool.or_eq_false_iff] at s5
  refine (parse_iff _ _).2 ⟨hm, ⟨⟨zagU_lo _, zagU_hi _⟩, ⟨zagU_lo _, zagU_hi _⟩, q4, h32⟩, ?_⟩
  have c0 : (numV 1 l).toUInt8 = 1 := by apply UInt8.toNat_inj.1; rw [UInt64.toNat_toUInt8, h1]; rfl
  have ck : UInt8.ofNat k = (numV 1 (nxl 8 (nxl 8 (nxl 1 l3)))).toUInt8 := by apply UInt8.toNat_inj.1; rw [UInt64.toNat_toUInt8, UInt8.toNat_ofNat', hk]
  have e := num1_of l s5.1.2
  rw [c0] at e
  have e1 := num8_of _ s5.2
  have e3 := num1_of _ s1
  have e4 := num8_of _ s2
  have e5 := num8_of _ s3
  have e6 := num1_of _ s4
  simp only [TV.bytes, headB, timeB, zig_zag, q3, ck]
  conv => rhs; rw [e, e1, s6, e3, e4, e5, e6, q2]
  simp
end Go.Proofs.Ytjmbbhnpfmblpaa
namespace Go.Proofs.Ytjmbbhnpfmblpaa
open Go
set_option maxRecDepth 100000
theorem may_tagless (T : TV) (cs : Gl Cav) (h : T.may = true) (hl : cs.l = T.cs) (hn : cs.l.length = cs.len) (tag : List UInt8) : mayT ⟨T.serial, T.tenant, T.rights, T.from_, T.until_, cs, tag⟩ = true := by
  rw [mayT_tv _ hn, TV.may]; rw [TV.may] at h
  simp only [Tok.tv, hl]; exact h
theorem capTake_ret (w0 : World) (s : Sl) (hs : s.ok w0) (hm : s.len ≤ 1048576) :
    Ret Try.prog 102 [s.v] w0 fun v w' => (parseT s.l = none ∧ v = .tuple #[.agg (([V64 0, .string ⟨([] : List UInt8).toArray⟩, V8 0, VI 0, VI 0, .slice none 0 0] : List Value) ++ (List.replicate 32 (0 : UInt8)).map V8).toArray, VI 4] ∧ Hp w0 w' [] []) ∨ ∃ (T : TV) (a : Option Nat) (k : Nat), parseT s.l = some T ∧ v = .tuple #[.agg ([V64 T.serial, .string ⟨T.tenant.toArray⟩, V8 T.rights, VI T.from_, VI T.until_, .slice (hd a) T.cs.length k] ++ T.tag.map V8).toArray, VI 0] ∧ Hp w0 w' [] [.own a T.cs.length k (T.cs.flatMap cavE) 78 2] := by
  refine ret_mk Try.func102 rfl Try.ntmps102 (by simp) ?_
  have H := Hp.refl w0 []
  have hsl := hs.ln
  have hse := hs.le
  repeat refine c_seq ?_
  refine c_region ?_
  refine l_op (o_alloc H zc76 (fun b1 w H hb1 => ?_))
  replace H : Hp _ w _ ([.blk b1 ([V64 (0 : UInt64), .string ⟨(([] : List UInt8)).toArray⟩, V8 (0 : UInt8), VI 0, VI 0, .slice none 0 0] ++ (List.replicate 32 (0 : UInt8)).map V8) 76]) := H
  refine l_op (o_val (r_as) ?_)
  first | refine l_end ?_ | refine l_nil ?_
  repeat refine c_seq ?_
  refine c_region ?_
  refine l_op (o_val (r_mv) ?_)
  refine l_op (o_val (r_bld' (cells := ([s.v, .bool false]).toArray) (pv := [(0, s.v)]) bd144 rfl rfl) ?_)
  refine l_op (o_box (v := .agg ([s.v, .bool false]).toArray) H rfl (fun b2 w H hb2 => ?_))
  replace H : Hp _ w _ ([_, .blk b2 ([s.v, .bool false]) 144]) := H
  refine l_op (o_val (r_as) ?_)
  first | refine l_end ?_ | refine l_nil ?_
  repeat refine c_seq ?_
  refine c_region ?_
  refine l_op (o_val (r_mv) ?_)
  refine l_op (o_callR Try.func130 rfl rfl rfl (number_ret (x := s) H (i := 1) rfl (hs.up H (fun _ => apart_nil _)) 1 (by omega) (by omega)) ?_)
  rintro _ w ⟨rfl, Hc⟩
  clear H
  have H := Hc; clear Hc
  replace H : Hp _ w _ ([_, .blk b2 ([(s.nx 1).v, .bool (false || short 1 s.l)]) 144]) := H
  refine l_op (o_val (r_as) ?_)
  first | refine l_end ?_ | refine l_nil ?_
  repeat refine c_seq ?_
  refine c_region ?_
  refine l_op (o_val (r_mv) ?_)
  refine l_op (o_callR Try.func130 rfl rfl rfl (number_ret (x := (s.nx 1)) H (i := 1) rfl ((hs.up H (fun _ => apart_nil _)).nx 1) 8 (by omega) (by omega)) ?_)
  rintro _ w ⟨rfl, Hc⟩
  clear H
  have H := Hc; clear Hc
  replace H : Hp _ w _ ([_, .blk b2 ([((s.nx 1).nx 8).v, .bool ((false || short 1 s.l) || short 8 (s.nx 1).l)]) 144]) := H
  refine l_op (o_val (r_mv) ?_)
  refine l_op (o_callR Try.func131 rfl rfl rfl (textR_ret (x := ((s.nx 1).nx 8)) H (i := 1) rfl (((hs.up H (fun _ => apart_nil _)).nx 1).nx 8) (by have := nx_len (s.nx 1) 8; have := nx_len s 1; omega)) ?_)
  rintro _ w ⟨t3, k4, bd5, rfl, hkl6, htx7, Hc⟩
  clear H
  have H := Hc; clear Hc
  replace H : Hp _ w _ ([_, .blk b2 ([(((s.nx 1).nx 8).tl k4).v, .bool bd5]) 144]) := H
  refine l_op (o_val (r_mv) ?_)
  refine l_op (o_callR Try.func130 rfl rfl rfl (number_ret (x := (((s.nx 1).nx 8).tl k4)) H (i := 1) rfl ((((hs.up H (fun _ => apart_nil _)).nx 1).nx 8).tl (n := k4) hkl6) 1 (by omega) (by omega)) ?_)
  rintro _ w ⟨rfl, Hc⟩
  clear H
  have H := Hc; clear Hc
  replace H : Hp _ w _ ([_, .blk b2 ([((((s.nx 1).nx 8).tl k4).nx 1).v, .bool (bd5 || short 1 (((s.nx 1).nx 8).tl k4).l)]) 144]) := H
  refine l_op (o_val (r_conv Try.underlying35 Try.underlying73 rfl (w_u8_64 _)) ?_)
  refine l_op (o_val (r_bld' (cells := ([V64 (numV 8 (s.nx 1).l), .string ⟨(t3).toArray⟩, V8 ((numV 1 (((s.nx 1).nx 8).tl k4).l).toUInt8), VI 0, VI 0, .slice none 0 0] ++ (List.replicate 32 (0 : UInt8)).map V8).toArray) (pv := [(0, V64 (numV 8 (s.nx 1).l)), (1, .string ⟨(t3).toArray⟩), (2, V8 ((numV 1 (((s.nx 1).nx 8).tl k4).l).toUInt8))]) bd76 rfl rfl) ?_)
  refine l_op (o_alloc H zc76 (fun b8 w H hb8 => ?_))
  replace H : Hp _ w _ ([_, _, .blk b8 ([V64 (0 : UInt64), .string ⟨(([] : List UInt8)).toArray⟩, V8 (0 : UInt8), VI 0, VI 0, .slice none 0 0] ++ (List.replicate 32 (0 : UInt8)).map V8) 76]) := H
  refine l_op (o_stW (C' := [V64 (numV 8 (s.nx 1).l), .string ⟨(t3).toArray⟩, V8 ((numV 1 (((s.nx 1).nx 8).tl k4).l).toUInt8), VI 0, VI 0, .slice none 0 0] ++ (List.replicate 32 (0 : UInt8)).map V8) H (i := 2) rfl rfl rfl cs76 (by simp [Value.oneCell']) (by rw [List.length_append, List.length_map, (show (List.replicate 32 (0 : UInt8)).length = 32 from (List.length_replicate ..))]; rfl) (by rw [List.length_append, List.length_map, (show (List.replicate 32 (0 : UInt8)).length = 32 from (List.length_replicate ..))]; rfl) (fun w H => ?_))
  replace H : Hp _ w _ ([_, _, .blk b8 ([V64 (numV 8 (s.nx 1).l), .string ⟨(t3).toArray⟩, V8 ((numV 1 (((s.nx 1).nx 8).tl k4).l).toUInt8), VI 0, VI 0, .slice none 0 0] ++ (List.replicate 32 (0 : UInt8)).map V8) 76]) := H
  first | refine l_end ?_ | refine l_nil ?_
  repeat refine c_seq ?_
  refine c_region ?_
  refine l_op (o_val (r_mv) ?_)
  refine l_op (o_callR Try.func130 rfl rfl rfl (number_ret (x := ((((s.nx 1).nx 8).tl k4).nx 1)) H (i := 1) rfl (((((hs.up H (fun _ => apart_nil _)).nx 1).nx 8).tl (n := k4) hkl6).nx 1) 8 (by omega) (by omega)) ?_)
  rintro _ w ⟨rfl, Hc⟩
  clear H
  have H := Hc; clear Hc
  replace H : Hp _ w _ ([_, .blk b2 ([(((((s.nx 1).nx 8).tl k4).nx 1).nx 8).v, .bool ((bd5 || short 1 (((s.nx 1).nx 8).tl k4).l) || short 8 ((((s.nx 1).nx 8).tl k4).nx 1).l)]) 144, _]) := H
  refine l_op (o_callR Try.func132 rfl rfl rfl (zag_ret _ (numV 8 ((((s.nx 1).nx 8).tl k4).nx 1).l)) ?_)
  rintro _ w ⟨rfl, Hc⟩
  replace H : Hp _ w _ ([_, _, _]) := H.call Hc
  clear Hc
  refine l_op (o_val (r_mv) ?_)
  refine l_op (o_callR Try.func130 rfl rfl rfl (number_ret (x := (((((s.nx 1).nx 8).tl k4).nx 1).nx 8)) H (i := 1) rfl ((((((hs.up H (fun _ => apart_nil _)).nx 1).nx 8).tl (n := k4) hkl6).nx 1).nx 8) 8 (by omega) (by omega)) ?_)
  rintro _ w ⟨rfl, Hc⟩
  clear H
  have H := Hc; clear Hc
  replace H : Hp _ w _ ([_, .blk b2 ([((((((s.nx 1).nx 8).tl k4).nx 1).nx 8).nx 8).v, .bool (((bd5 || short 1 (((s.nx 1).nx 8).tl k4).l) || short 8 ((((s.nx 1).nx 8).tl k4).nx 1).l) || short 8 (((((s.nx 1).nx 8).tl k4).nx 1).nx 8).l)]) 144, _]) := H
  refine l_op (o_callR Try.func132 rfl rfl rfl (zag_ret _ (numV 8 (((((s.nx 1).nx 8).tl k4).nx 1).nx 8).l)) ?_)
  rintro _ w ⟨rfl, Hc⟩
  replace H : Hp _ w _ ([_, _, _]) := H.call Hc
  clear Hc
  refine l_op (o_val (r_fa rfl fo76_3) ?_)
  refine l_op (o_st (v := VI (zagU (numV 8 ((((s.nx 1).nx 8).tl k4).nx 1).l))) H (i := 2) rfl rfl rfl cs2 rfl (by simp only [List.length_append, List.length_cons, List.length_nil]; omega) (fun w H => ?_))
  replace H : Hp _ w _ ([_, _, .blk b8 ([V64 (numV 8 (s.nx 1).l), .string ⟨(t3).toArray⟩, V8 ((numV 1 (((s.nx 1).nx 8).tl k4).l).toUInt8), VI (zagU (numV 8 ((((s.nx 1).nx 8).tl k4).nx 1).l)), VI 0, .slice none 0 0] ++ (List.replicate 32 (0 : UInt8)).map V8) 76]) := H
  refine l_op (o_val (r_fa rfl fo76_4) ?_)
  refine l_op (o_st (v := VI (zagU (numV 8 (((((s.nx 1).nx 8).tl k4).nx 1).nx 8).l))) H (i := 2) rfl rfl rfl cs2 rfl (by simp only [List.length_append, List.length_cons, List.length_nil]; omega) (fun w H => ?_))
  replace H : Hp _ w _ ([_, _, .blk b8 ([V64 (numV 8 (s.nx 1).l), .string ⟨(t3).toArray⟩, V8 ((numV 1 (((s.nx 1).nx 8).tl k4).l).toUInt8), VI (zagU (numV 8 ((((s.nx 1).nx 8).tl k4).nx 1).l)), VI (zagU (numV 8 (((((s.nx 1).nx 8).tl k4).nx 1).nx 8).l)), .slice none 0 0] ++ (List.replicate 32 (0 : UInt8)).map V8) 76]) := H
  first | refine l_end ?_ | refine l_nil ?_
  repeat refine c_seq ?_
  refine c_region ?_
  refine l_op (o_val (r_mv) ?_)
  refine l_op (o_callR Try.func130 rfl rfl rfl (number_ret (x := ((((((s.nx 1).nx 8).tl k4).nx 1).nx 8).nx 8)) H (i := 1) rfl (((((((hs.up H (fun _ => apart_nil _)).nx 1).nx 8).tl (n := k4) hkl6).nx 1).nx 8).nx 8) 1 (by omega) (by omega)) ?_)
  rintro _ w ⟨rfl, Hc⟩
  clear H
  have H := Hc; clear Hc
  replace H : Hp _ w _ ([_, .blk b2 ([(((((((s.nx 1).nx 8).tl k4).nx 1).nx 8).nx 8).nx 1).v, .bool ((((bd5 || short 1 (((s.nx 1).nx 8).tl k4).l) || short 8 ((((s.nx 1).nx 8).tl k4).nx 1).l) || short 8 (((((s.nx 1).nx 8).tl k4).nx 1).nx 8).l) || short 1 ((((((s.nx 1).nx 8).tl k4).nx 1).nx 8).nx 8).l)]) 144, _]) := H
  refine l_op (o_val (r_as) ?_)
  first | refine l_end ?_ | refine l_nil ?_
  have htl := htx7.2.2
  have hhd : HdRd s.l t3 (((s.nx 1).nx 8).tl k4).l bd5 := by
    have e : nxl 8 (nxl 1 s.l) = ((s.nx 1).nx 8).l := by simp only [nx_l]
    have e1 : nxl 1 s.l = (s.nx 1).l := by rw [nx_l]
    unfold HdRd; rw [e, e1]; exact htx7
  have hB : ((((bd5 || short 1 (((s.nx 1).nx 8).tl k4).l) || short 8 ((((s.nx 1).nx 8).tl k4).nx 1).l) || short 8 (((((s.nx 1).nx 8).tl k4).nx 1).nx 8).l) || short 1 ((((((s.nx 1).nx 8).tl k4).nx 1).nx 8).nx 8).l) = hdBad (((s.nx 1).nx 8).tl k4).l bd5 := by simp only [hdBad, nx_l]
  have n7 : nxl 8 (nxl 8 (nxl 1 (((s.nx 1).nx 8).tl k4).l)) = ((((((s.nx 1).nx 8).tl k4).nx 1).nx 8).nx 8).l := by simp only [nx_l]
  have n8 : nxl 1 (nxl 8 (nxl 8 (nxl 1 (((s.nx 1).nx 8).tl k4).l))) = (((((((s.nx 1).nx 8).tl k4).nx 1).nx 8).nx 8).nx 1).l := by simp only [nx_l]
  repeat refine c_seq ?_
  refine c_region ?_
  refine l_op (o_val (r_mv) ?_)
  refine l_op (o_val (r_nilc rfl) ?_)
  refine l_op (o_val (r_fa rfl fo144_1) ?_)
  refine l_op (o_val (r_ld (v := .bool ((((bd5 || short 1 (((s.nx 1).nx 8).tl k4).l) || short 8 ((((s.nx 1).nx 8).tl k4).nx 1).l) || short 8 (((((s.nx 1).nx 8).tl k4).nx 1).nx 8).l) || short 1 ((((((s.nx 1).nx 8).tl k4).nx 1).nx 8).nx 8).l)) H (i := 1) rfl rfl ct4 rfl) ?_)
  refine l_op (o_val (r_mv) ?_)
  rcases Bool.eq_false_or_eq_true ((((bd5 || short 1 (((s.nx 1).nx 8).tl k4).l) || short 8 ((((s.nx 1).nx 8).tl k4).nx 1).l) || short 8 (((((s.nx 1).nx 8).tl k4).nx 1).nx 8).l) || short 1 ((((((s.nx 1).nx 8).tl k4).nx 1).nx 8).nx 8).l) with hc9 | hc9
  ·
   refine l_no rfl rfl (by exact congrArg Value.bool hc9) rfl ?_
   refine l_no rfl rfl (by exact congrArg Value.bool hc9) rfl ?_
   refine l_op (o_val (r_pick (b := true) (congrArg Value.bool hc9)) ?_)
   refine l_op (o_val (r_mv) ?_)
   refine l_no rfl rfl rfl rfl ?_
   refine l_no rfl rfl rfl rfl ?_
   refine l_op (o_val (r_pick rfl) ?_)
   first | refine l_end ?_ | refine l_nil ?_
   repeat refine c_seq ?_
   refine c_yes rfl ?_
   repeat refine c_seq ?_
   refine c_region ?_
   refine l_op (o_val (r_bld' (cells := ([V64 (0 : UInt64), .string ⟨(([] : List UInt8)).toArray⟩, V8 (0 : UInt8), VI 0, VI 0, .slice none 0 0] ++ (List.replicate 32 (0 : UInt8)).map V8).toArray) (pv := []) bd76 rfl rfl) ?_)
   refine l_op (o_stW (C' := [V64 (0 : UInt64), .string ⟨(([] : List UInt8)).toArray⟩, V8 (0 : UInt8), VI 0, VI 0, .slice none 0 0] ++ (List.replicate 32 (0 : UInt8)).map V8) H (i := 0) rfl rfl rfl cs76 (by simp [Value.oneCell']) (by rw [List.length_append, List.length_map, (show (List.replicate 32 (0 : UInt8)).length = 32 from (List.length_replicate ..))]; rfl) (by rw [List.length_append, List.length_map, (show (List.replicate 32 (0 : UInt8)).length = 32 from (List.length_replicate ..))]; rfl) (fun w H => ?_))
   replace H : Hp _ w _ [_, _, _] := H
   refine l_op (o_val (r_as) ?_)
   first | refine l_end ?_ | refine l_nil ?_
   refine c_ret ?_
   try dsimp only [Exit.then, Exit.inBlock]
   refine e_retN (vs := [.agg ([V64 (0 : UInt64), .string ⟨(([] : List UInt8)).toArray⟩, V8 (0 : UInt8), VI 0, VI 0, .slice none 0 0] ++ (List.replicate 32 (0 : UInt8)).map V8).toArray, VI 4]) _ Try.results102 rfl (H.resR (C := [V64 (0 : UInt64), .string ⟨(([] : List UInt8)).toArray⟩, V8 (0 : UInt8), VI 0, VI 0, .slice none 0 0] ++ (List.replicate 32 (0 : UInt8)).map V8) (i := 0) rfl rfl rt76 (by rw [List.length_append, List.length_map, (show (List.replicate 32 (0 : UInt8)).length = 32 from (List.length_replicate ..))]; rfl) (resT (v := VI 4) rfl (resZ))) ?_
   refine ⟨_, rfl, ?_⟩
   refine .inl ⟨?_, rfl, H.sub (List.nil_sublist _)⟩
   cases hp : parseT s.l with
   | none => rfl
   | some T =>
     exfalso
     obtain ⟨z1, z2, z3, z4, z5, z6, z7, z8, z9⟩ := hd_complete hp hhd
     have hTm := may_cs T ((parse_iff _ _).1 hp).1
     have z2' := congrArg UInt64.toNat z2
     have e1 : (1 : UInt64).toNat = 1 := rfl
     rw [n7] at z8
     exact Bool.noConfusion ((hc9).symm.trans (hB.trans z1))
  ·
   refine l_yes rfl rfl (by exact congrArg Value.bool hc9) (o_val (r_mv) ?_)
   refine l_yes rfl rfl (by exact congrArg Value.bool hc9) (o_val (r_bin (a := ((numV 1 s.l).toNat : Int)) (b := 1) rfl rfl (fun _ => b_neq)) ?_)
   refine l_op (o_val (r_pick (b := false) (congrArg Value.bool hc9)) ?_)
   refine l_op (o_val (r_mv) ?_)
   by_cases hc10 : ((numV 1 s.l).toNat : Int) ≠ 1
   ·
    refine l_no rfl rfl (by exact congrArg Value.bool (decide_eq_true hc10)) rfl ?_
    refine l_no rfl rfl (by exact congrArg Value.bool (decide_eq_true hc10)) rfl ?_
    refine l_op (o_val (r_pick (b := true) (congrArg Value.bool (decide_eq_true hc10))) ?_)
    first | refine l_end ?_ | refine l_nil ?_
    repeat refine c_seq ?_
    refine c_yes rfl ?_
    repeat refine c_seq ?_
    refine c_region ?_
    refine l_op (o_val (r_bld' (cells := ([V64 (0 : UInt64), .string ⟨(([] : List UInt8)).toArray⟩, V8 (0 : UInt8), VI 0, VI 0, .slice none 0 0] ++ (List.replicate 32 (0 : UInt8)).map V8).toArray) (pv := []) bd76 rfl rfl) ?_)
    refine l_op (o_stW (C' := [V64 (0 : UInt64), .string ⟨(([] : List UInt8)).toArray⟩, V8 (0 : UInt8), VI 0, VI 0, .slice none 0 0] ++ (List.replicate 32 (0 : UInt8)).map V8) H (i := 0) rfl rfl rfl cs76 (by simp [Value.oneCell']) (by rw [List.length_append, List.length_map, (show (List.replicate 32 (0 : UInt8)).length = 32 from (List.length_replicate ..))]; rfl) (by rw [List.length_append, List.length_map, (show (List.replicate 32 (0 : UInt8)).length = 32 from (List.length_replicate ..))]; rfl) (fun w H => ?_))
    replace H : Hp _ w _ [_, _, _] := H
    refine l_op (o_val (r_as) ?_)
    first | refine l_end ?_ | refine l_nil ?_
    refine c_ret ?_
    try dsimp only [Exit.then, Exit.inBlock]
    refine e_retN (vs := [.agg ([V64 (0 : UInt64), .string ⟨(([] : List UInt8)).toArray⟩, V8 (0 : UInt8), VI 0, VI 0, .slice none 0 0] ++ (List.replicate 32 (0 : UInt8)).map V8).toArray, VI 4]) _ Try.results102 rfl (H.resR (C := [V64 (0 : UInt64), .string ⟨(([] : List UInt8)).toArray⟩, V8 (0 : UInt8), VI 0, VI 0, .slice none 0 0] ++ (List.replicate 32 (0 : UInt8)).map V8) (i := 0) rfl rfl rt76 (by rw [List.length_append, List.length_map, (show (List.replicate 32 (0 : UInt8)).length = 32 from (List.length_replicate ..))]; rfl) (resT (v := VI 4) rfl (resZ))) ?_
    refine ⟨_, rfl, ?_⟩
    refine .inl ⟨?_, rfl, H.sub (List.nil_sublist _)⟩
    cases hp : parseT s.l with
    | none => rfl
    | some T =>
      exfalso
      obtain ⟨z1, z2, z3, z4, z5, z6, z7, z8, z9⟩ := hd_complete hp hhd
      have hTm := may_cs T ((parse_iff _ _).1 hp).1
      have z2' := congrArg UInt64.toNat z2
      have e1 : (1 : UInt64).toNat = 1 := rfl
      rw [n7] at z8
      omega
   ·
    refine l_yes rfl rfl (by exact congrArg Value.bool (decide_eq_false hc10)) (o_val (r_mv) ?_)
    refine l_yes rfl rfl (by exact congrArg Value.bool (decide_eq_false hc10)) (o_val (r_bin (a := ((numV 1 ((((((s.nx 1).nx 8).tl k4).nx 1).nx 8).nx 8).l).toNat : Int)) (b := 8) rfl rfl (fun _ => b_gtr)) ?_)
    refine l_op (o_val (r_pick (b := false) (congrArg Value.bool (decide_eq_false hc10))) ?_)
    first | refine l_end ?_ | refine l_nil ?_
    by_cases hc11 : 8 < ((numV 1 ((((((s.nx 1).nx 8).tl k4).nx 1).nx 8).nx 8).l).toNat : Int)
    ·
     repeat refine c_seq ?_
     refine c_yes (by exact congrArg Value.bool (decide_eq_true hc11)) ?_
     repeat refine c_seq ?_
     refine c_region ?_
     refine l_op (o_val (r_bld' (cells := ([V64 (0 : UInt64), .string ⟨(([] : List UInt8)).toArray⟩, V8 (0 : UInt8), VI 0, VI 0, .slice none 0 0] ++ (List.replicate 32 (0 : UInt8)).map V8).toArray) (pv := []) bd76 rfl rfl) ?_)
     refine l_op (o_stW (C' := [V64 (0 : UInt64), .string ⟨(([] : List UInt8)).toArray⟩, V8 (0 : UInt8), VI 0, VI 0, .slice none 0 0] ++ (List.replicate 32 (0 : UInt8)).map V8) H (i := 0) rfl rfl rfl cs76 (by simp [Value.oneCell']) (by rw [List.length_append, List.length_map, (show (List.replicate 32 (0 : UInt8)).length = 32 from (List.length_replicate ..))]; rfl) (by rw [List.length_append, List.length_map, (show (List.replicate 32 (0 : UInt8)).length = 32 from (List.length_replicate ..))]; rfl) (fun w H => ?_))
     replace H : Hp _ w _ [_, _, _] := H
     refine l_op (o_val (r_as) ?_)
     first | refine l_end ?_ | refine l_nil ?_
     refine c_ret ?_
     try dsimp only [Exit.then, Exit.inBlock]
     refine e_retN (vs := [.agg ([V64 (0 : UInt64), .string ⟨(([] : List UInt8)).toArray⟩, V8 (0 : UInt8), VI 0, VI 0, .slice none 0 0] ++ (List.replicate 32 (0 : UInt8)).map V8).toArray, VI 4]) _ Try.results102 rfl (H.resR (C := [V64 (0 : UInt64), .string ⟨(([] : List UInt8)).toArray⟩, V8 (0 : UInt8), VI 0, VI 0, .slice none 0 0] ++ (List.replicate 32 (0 : UInt8)).map V8) (i := 0) rfl rfl rt76 (by rw [List.length_append, List.length_map, (show (List.replicate 32 (0 : UInt8)).length = 32 from (List.length_replicate ..))]; rfl) (resT (v := VI 4) rfl (resZ))) ?_
     refine ⟨_, rfl, ?_⟩
     refine .inl ⟨?_, rfl, H.sub (List.nil_sublist _)⟩
     cases hp : parseT s.l with
     | none => rfl
     | some T =>
       exfalso
       obtain ⟨z1, z2, z3, z4, z5, z6, z7, z8, z9⟩ := hd_complete hp hhd
       have hTm := may_cs T ((parse_iff _ _).1 hp).1
       have z2' := congrArg UInt64.toNat z2
       have e1 : (1 : UInt64).toNat = 1 := rfl
       rw [n7] at z8
       omega
    ·
     repeat refine c_seq ?_
     refine c_no (by exact congrArg Value.bool (decide_eq_false hc11)) ?_
     refine c_skip ?_
     have hy0 : ((((((((s.nx 1).nx 8).tl k4).nx 1).nx 8).nx 8).nx 1)).ok w0 := ((((((hs.nx 1).nx 8).tl (n := k4) hkl6).nx 1).nx 8).nx 8).nx 1
     repeat refine c_seq ?_
     refine c_region ?_
     refine l_op (o_val (r_mv) ?_)
     refine l_op (o_val (r_mvV (c64 0 (by decide))) ?_)
     first | refine l_end ?_ | refine l_nil ?_
     repeat refine c_seq ?_
     refine c_block ?_
     repeat refine c_seq ?_
     refine c_loop6 (fun (i : Nat) (yy : Sl) (bb : Bool) (cs : List Cav) (a : Option Nat) (k : Nat) => [(2, .pointer (some ⟨b1, 0, none⟩)), (4, .pointer (some ⟨b2, 0, none⟩)), (6, .pointer (some ⟨b8, 0, none⟩)), (45, V64 (numV 1 ((((((s.nx 1).nx 8).tl k4).nx 1).nx 8).nx 8).l)), (46, V64 (UInt64.ofNat i))])
       (fun (i : Nat) (yy : Sl) (bb : Bool) (cs : List Cav) (a : Option Nat) (k : Nat) w => (i ≤ (numV 1 ((((((s.nx 1).nx 8).tl k4).nx 1).nx 8).nx 8).l).toNat ∧ yy.ok w0 ∧ cavRun (((((((s.nx 1).nx 8).tl k4).nx 1).nx 8).nx 8).nx 1).l ((((bd5 || short 1 (((s.nx 1).nx 8).tl k4).l) || short 8 ((((s.nx 1).nx 8).tl k4).nx 1).l) || short 8 (((((s.nx 1).nx 8).tl k4).nx 1).nx 8).l) || short 1 ((((((s.nx 1).nx 8).tl k4).nx 1).nx 8).nx 8).l) i = (cs, yy.l, bb)) ∧ Hp w0 w [] ([.blk b1 ([V64 (0 : UInt64), .string ⟨(([] : List UInt8)).toArray⟩, V8 (0 : UInt8), VI 0, VI 0, .slice none 0 0] ++ (List.replicate 32 (0 : UInt8)).map V8) 76, .blk b2 ([yy.v, .bool bb]) 144, .blk b8 ([V64 (numV 8 (s.nx 1).l), .string ⟨(t3).toArray⟩, V8 ((numV 1 (((s.nx 1).nx 8).tl k4).l).toUInt8), VI (zagU (numV 8 ((((s.nx 1).nx 8).tl k4).nx 1).l)), VI (zagU (numV 8 (((((s.nx 1).nx 8).tl k4).nx 1).nx 8).l)), .slice (hd a) i k] ++ (List.replicate 32 (0 : UInt8)).map V8) 76, .own a i k ((cs).flatMap cavE) 78 2]))
       (fun (i : Nat) (yy : Sl) (bb : Bool) (cs : List Cav) (a : Option Nat) (k : Nat) => (numV 1 ((((((s.nx 1).nx 8).tl k4).nx 1).nx 8).nx 8).l).toNat - i) 0 (((((((s.nx 1).nx 8).tl k4).nx 1).nx 8).nx 8).nx 1) ((((bd5 || short 1 (((s.nx 1).nx 8).tl k4).l) || short 8 ((((s.nx 1).nx 8).tl k4).nx 1).l) || short 8 (((((s.nx 1).nx 8).tl k4).nx 1).nx 8).l) || short 1 ((((((s.nx 1).nx 8).tl k4).nx 1).nx 8).nx 8).l) ([]) none 0 ⟨rfl, rfl, rfl, rfl, rfl, trivial⟩ ⟨⟨Nat.zero_le _, hy0, rfl⟩, (H.nilEnd 78 2)⟩ ?_
     clear H
     rintro i yy bb cs a k τ w ⟨⟨hi, hy, hrun⟩, H⟩
     have hoi : (UInt64.ofNat i).toNat = i := ofNat_nat _ (by omega)
     repeat refine c_seq ?_
     refine c_region ?_
     refine l_op (o_val (r_bin (a := ((UInt64.ofNat i).toNat : Int)) (b := ((numV 1 ((((((s.nx 1).nx 8).tl k4).nx 1).nx 8).nx 8).l).toNat : Int)) rfl rfl (fun _ => b_lss)) ?_)
     first | refine l_end ?_ | refine l_nil ?_
     by_cases hc12 : ((UInt64.ofNat i).toNat : Int) < ((numV 1 ((((((s.nx 1).nx 8).tl k4).nx 1).nx 8).nx 8).l).toNat : Int)
     ·
      repeat refine c_seq ?_
      refine c_yes (by exact congrArg Value.bool (decide_eq_true hc12)) ?_
      refine c_skip ?_
      repeat refine c_seq ?_
      refine c_block ?_
      repeat refine c_seq ?_
      refine c_region ?_
      refine l_op (o_val (r_mv) ?_)
      refine l_op (o_callR Try.func130 rfl rfl rfl (number_ret (x := yy) H (i := 1) rfl (hy.up H (fun _ => apart_nil _)) 1 (by omega) (by omega)) ?_)
      rintro _ w ⟨rfl, Hc⟩
      clear H
      have H := Hc; clear Hc
      replace H : Hp _ w _ ([_, .blk b2 ([(yy.nx 1).v, .bool (bb || short 1 yy.l)]) 144, _, _]) := H
      refine l_op (o_val (r_conv Try.underlying35 Try.underlying73 rfl (w_u8_64 _)) ?_)
      refine l_op (o_val (r_bld' (cells := ([V8 ((numV 1 yy.l).toUInt8), VI 0]).toArray) (pv := [(0, V8 ((numV 1 yy.l).toUInt8))]) bd78 rfl rfl) ?_)
      refine l_op (o_alloc H zc78 (fun b13 w H hb13 => ?_))
      replace H : Hp _ w _ ([_, _, _, _, .blk b13 ([V8 (0 : UInt8), VI 0]) 78]) := H
      refine l_op (o_stW (C' := [V8 ((numV 1 yy.l).toUInt8), VI 0]) H (i := 4) rfl rfl rfl cs78 (by simp [Value.oneCell']) (by rfl) (by rfl) (fun w H => ?_))
      replace H : Hp _ w _ ([_, _, _, _, .blk b13 ([V8 ((numV 1 yy.l).toUInt8), VI 0]) 78]) := H
      first | refine l_end ?_ | refine l_nil ?_
      repeat refine c_seq ?_
      refine c_region ?_
      refine l_op (o_val (r_mv) ?_)
      refine l_op (o_callR Try.func130 rfl rfl rfl (number_ret (x := (yy.nx 1)) H (i := 1) rfl ((hy.up H (fun _ => apart_nil _)).nx 1) 8 (by omega) (by omega)) ?_)
      rintro _ w ⟨rfl, Hc⟩
      clear H
      have H := Hc; clear Hc
      replace H : Hp _ w _ ([_, .blk b2 ([((yy.nx 1).nx 8).v, .bool ((bb || short 1 yy.l) || short 8 (yy.nx 1).l)]) 144, _, _, _]) := H
      refine l_op (o_callR Try.func132 rfl rfl rfl (zag_ret _ (numV 8 (yy.nx 1).l)) ?_)
      rintro _ w ⟨rfl, Hc⟩
      replace H : Hp _ w _ ([_, _, _, _, _]) := H.call Hc
      clear Hc
      refine l_op (o_val (r_fa rfl fo78_1) ?_)
      refine l_op (o_st (v := VI (zagU (numV 8 (yy.nx 1).l))) H (i := 4) rfl rfl rfl cs2 rfl (by simp only [List.length_cons, List.length_nil]; omega) (fun w H => ?_))
      replace H : Hp _ w _ ([_, _, _, _, .blk b13 ([V8 ((numV 1 yy.l).toUInt8), VI (zagU (numV 8 (yy.nx 1).l))]) 78]) := H
      first | refine l_end ?_ | refine l_nil ?_
      repeat refine c_seq ?_
      refine c_region ?_
      refine l_op (o_val (r_fa rfl fo76_5) ?_)
      refine l_op (o_val (r_ld (v := .slice (hd a) i k) H (i := 2) rfl rfl ct74 rfl) ?_)
      refine l_op (o_val (r_ldA (C := [V8 ((numV 1 yy.l).toUInt8), VI (zagU (numV 8 (yy.nx 1).l))]) H (i := 4) rfl rfl rt78 (by rfl)) ?_)
      refine l_op (o_bslG1 (enc := cavE) (((numV 1 yy.l).toUInt8, zagU (numV 8 (yy.nx 1).l))) H sl74 zc78 (by rfl) (by decide) (by decide) rfl rfl (fun b14 w H hb14 => ?_))
      replace H : Hp _ w _ ([_, _, _, _, _, .own (some b14) 1 1 (([((numV 1 yy.l).toUInt8, zagU (numV 8 (yy.nx 1).l))]).flatMap cavE) 78 2]) := H
      refine l_op (o_appG (enc := cavE) (s := ⟨hd (some b14), 1, 1, [((numV 1 yy.l).toUInt8, zagU (numV 8 (yy.nx 1).l))]⟩) (l' := cs ++ ([((numV 1 yy.l).toUInt8, zagU (numV 8 (yy.nx 1).l))])) (len' := i + 1) rfl rfl H (i := 3) rfl sl74 Try.underlying74 rfl rfl (H.glOwn (i := 5) rfl (by decide) (fun _ _ => rfl)) (by decide) (fun _ _ => rfl) (by omega) (by decide) (fun a15 c16 w H => ?_))
      replace H : Hp _ w _ ([_, _, _, .own a15 (i + 1) c16 ((cs ++ ([((numV 1 yy.l).toUInt8, zagU (numV 8 (yy.nx 1).l))])).flatMap cavE) 78 2, _, _]) := H
      refine l_op (o_val (r_fa rfl fo76_5) ?_)
      refine l_op (o_st (v := .slice (hd a15) (i + 1) c16) H (i := 2) rfl rfl rfl cs74 rfl (by simp only [List.length_append, List.length_cons, List.length_nil]; omega) (fun w H => ?_))
      replace H : Hp _ w _ ([_, _, .blk b8 ([V64 (numV 8 (s.nx 1).l), .string ⟨(t3).toArray⟩, V8 ((numV 1 (((s.nx 1).nx 8).tl k4).l).toUInt8), VI (zagU (numV 8 ((((s.nx 1).nx 8).tl k4).nx 1).l)), VI (zagU (numV 8 (((((s.nx 1).nx 8).tl k4).nx 1).nx 8).l)), .slice (hd a15) (i + 1) c16] ++ (List.replicate 32 (0 : UInt8)).map V8) 76, _, _, _]) := H
      first | refine l_end ?_ | refine l_nil ?_
      repeat refine c_seq ?_
      refine c_region ?_
      refine l_op (o_val (r_bin rfl (c64 1 (by decide)) (fun _ => b_add_u64N)) ?_)
      refine l_op (o_val (r_mv) ?_)
      first | refine l_end ?_ | refine l_nil ?_
      refine round_end (i + 1, ((yy.nx 1).nx 8), (bb || short 1 yy.l) || short 8 (yy.nx 1).l, cs ++ ([((numV 1 yy.l).toUInt8, zagU (numV 8 (yy.nx 1).l))]), a15, c16) ?_ ?_ ?_
      · exact ⟨rfl, rfl, rfl, rfl, show V64 (UInt64.ofNat (i + 1)) = V64 (UInt64.ofNat (i + 1 : Nat)) from congrArg V64 rfl, trivial⟩
      · refine ⟨?_, ?_⟩
        · try dsimp only
          exact ⟨by omega, (hy.nx 1).nx 8, cavRun_next hrun⟩
        · exact H.sub (.cons_cons _ (.cons_cons _ (.cons_cons _ (.cons_cons _ (List.nil_sublist _)))))
      · show (numV 1 ((((((s.nx 1).nx 8).tl k4).nx 1).nx 8).nx 8).l).toNat - (i + 1 : Nat) < (numV 1 ((((((s.nx 1).nx 8).tl k4).nx 1).nx 8).nx 8).l).toNat - i; omega
     ·
      repeat refine c_seq ?_
      refine c_no (by exact congrArg Value.bool (decide_eq_false hc12)) ?_
      refine c_exit ?_
      have hgl : cs.length = i := ((H.glOwn (i := 3) rfl (by decide) (fun _ _ => rfl))).ln
      have hyl := hy.ln
      repeat refine c_seq ?_
      refine c_region ?_
      refine l_op (o_val (r_mv) ?_)
      refine l_op (o_val (r_nilc rfl) ?_)
      refine l_op (o_val (r_fa rfl fo144_1) ?_)
      refine l_op (o_val (r_ld (v := .bool bb) H (i := 1) rfl rfl ct4 rfl) ?_)
      refine l_op (o_val (r_mv) ?_)
      rcases Bool.eq_false_or_eq_true (bb) with hc17 | hc17
      ·
       refine l_no rfl rfl (by exact congrArg Value.bool hc17) rfl ?_
       refine l_no rfl rfl (by exact congrArg Value.bool hc17) rfl ?_
       refine l_no rfl rfl (by exact congrArg Value.bool hc17) rfl ?_
       refine l_no rfl rfl (by exact congrArg Value.bool hc17) rfl ?_
       refine l_no rfl rfl (by exact congrArg Value.bool hc17) rfl ?_
       refine l_no rfl rfl (by exact congrArg Value.bool hc17) rfl ?_
       refine l_op (o_val (r_pick (b := true) (congrArg Value.bool hc17)) ?_)
       refine l_op (o_val (r_mv) ?_)
       refine l_no rfl rfl rfl rfl ?_
       refine l_no rfl rfl rfl rfl ?_
       refine l_no rfl rfl rfl rfl ?_
       refine l_op (o_val (r_pick rfl) ?_)
       first | refine l_end ?_ | refine l_nil ?_
       repeat refine c_seq ?_
       refine c_yes rfl ?_
       repeat refine c_seq ?_
       refine c_region ?_
       refine l_op (o_val (r_bld' (cells := ([V64 (0 : UInt64), .string ⟨(([] : List UInt8)).toArray⟩, V8 (0 : UInt8), VI 0, VI 0, .slice none 0 0] ++ (List.replicate 32 (0 : UInt8)).map V8).toArray) (pv := []) bd76 rfl rfl) ?_)
       refine l_op (o_stW (C' := [V64 (0 : UInt64), .string ⟨(([] : List UInt8)).toArray⟩, V8 (0 : UInt8), VI 0, VI 0, .slice none 0 0] ++ (List.replicate 32 (0 : UInt8)).map V8) H (i := 0) rfl rfl rfl cs76 (by simp [Value.oneCell']) (by rw [List.length_append, List.length_map, (show (List.replicate 32 (0 : UInt8)).length = 32 from (List.length_replicate ..))]; rfl) (by rw [List.length_append, List.length_map, (show (List.replicate 32 (0 : UInt8)).length = 32 from (List.length_replicate ..))]; rfl) (fun w H => ?_))
       replace H : Hp _ w _ [_, _, _, _] := H
       refine l_op (o_val (r_as) ?_)
       first | refine l_end ?_ | refine l_nil ?_
       refine c_ret ?_
       try dsimp only [Exit.then, Exit.inBlock]
       refine e_retN (vs := [.agg ([V64 (0 : UInt64), .string ⟨(([] : List UInt8)).toArray⟩, V8 (0 : UInt8), VI 0, VI 0, .slice none 0 0] ++ (List.replicate 32 (0 : UInt8)).map V8).toArray, VI 4]) _ Try.results102 rfl (H.resR (C := [V64 (0 : UInt64), .string ⟨(([] : List UInt8)).toArray⟩, V8 (0 : UInt8), VI 0, VI 0, .slice none 0 0] ++ (List.replicate 32 (0 : UInt8)).map V8) (i := 0) rfl rfl rt76 (by rw [List.length_append, List.length_map, (show (List.replicate 32 (0 : UInt8)).length = 32 from (List.length_replicate ..))]; rfl) (resT (v := VI 4) rfl (resZ))) ?_
       refine ⟨_, rfl, ?_⟩
       refine .inl ⟨?_, rfl, H.sub (List.nil_sublist _)⟩
       cases hp : parseT s.l with
       | none => rfl
       | some T =>
         exfalso
         obtain ⟨z1, z2, z3, z4, z5, z6, z7, z8, z9⟩ := hd_complete hp hhd
         have hTok := (parse_iff _ _).1 hp
         rw [n7] at z8
         rw [n8] at z9
         have hin : i = T.cs.length := by omega
         have hrc := cavRun_of T.cs T.tag hTok.2.1.c i (by omega)
         rw [hB, z1, z9, hrc] at hrun
         obtain ⟨q1, q2⟩ := Prod.mk.inj hrun
         obtain ⟨q2, q3⟩ := Prod.mk.inj q2
         have hr1 : cs = T.cs := q1.symm.trans (by rw [hin]; exact List.take_length)
         have hr2 : yy.l = T.tag := q2.symm.trans (by rw [hin, List.drop_length]; rfl)
         have hr3 : bb = false := q3.symm
         rw [hr3] at hc17; cases hc17
      ·
       refine l_yes rfl rfl (by exact congrArg Value.bool hc17) (o_val (r_mv) ?_)
       refine l_yes rfl rfl (by exact congrArg Value.bool hc17) (o_val (r_nilc rfl) ?_)
       refine l_yes rfl rfl (by exact congrArg Value.bool hc17) (o_val (r_fa rfl fo144_0) ?_)
       refine l_yes rfl rfl (by exact congrArg Value.bool hc17) (o_val (r_ld (v := yy.v) H (i := 1) rfl rfl ct29 rfl) ?_)
       refine l_yes rfl rfl (by exact congrArg Value.bool hc17) (o_val (r_lens el29 rfl) ?_)
       refine l_yes rfl rfl (by exact congrArg Value.bool hc17) (o_val (r_bin (a := (yy.len : Int)) (b := 32) rfl rfl (fun _ => b_neq)) ?_)
       refine l_op (o_val (r_pick (b := false) (congrArg Value.bool hc17)) ?_)
       refine l_op (o_val (r_mv) ?_)
       by_cases hc18 : (yy.len : Int) ≠ 32
       ·
        refine l_no rfl rfl (by exact congrArg Value.bool (decide_eq_true hc18)) rfl ?_
        refine l_no rfl rfl (by exact congrArg Value.bool (decide_eq_true hc18)) rfl ?_
        refine l_no rfl rfl (by exact congrArg Value.bool (decide_eq_true hc18)) rfl ?_
        refine l_op (o_val (r_pick (b := true) (congrArg Value.bool (decide_eq_true hc18))) ?_)
        first | refine l_end ?_ | refine l_nil ?_
        repeat refine c_seq ?_
        refine c_yes rfl ?_
        repeat refine c_seq ?_
        refine c_region ?_
        refine l_op (o_val (r_bld' (cells := ([V64 (0 : UInt64), .string ⟨(([] : List UInt8)).toArray⟩, V8 (0 : UInt8), VI 0, VI 0, .slice none 0 0] ++ (List.replicate 32 (0 : UInt8)).map V8).toArray) (pv := []) bd76 rfl rfl) ?_)
        refine l_op (o_stW (C' := [V64 (0 : UInt64), .string ⟨(([] : List UInt8)).toArray⟩, V8 (0 : UInt8), VI 0, VI 0, .slice none 0 0] ++ (List.replicate 32 (0 : UInt8)).map V8) H (i := 0) rfl rfl rfl cs76 (by simp [Value.oneCell']) (by rw [List.length_append, List.length_map, (show (List.replicate 32 (0 : UInt8)).length = 32 from (List.length_replicate ..))]; rfl) (by rw [List.length_append, List.length_map, (show (List.replicate 32 (0 : UInt8)).length = 32 from (List.length_replicate ..))]; rfl) (fun w H => ?_))
        replace H : Hp _ w _ [_, _, _, _] := H
        refine l_op (o_val (r_as) ?_)
        first | refine l_end ?_ | refine l_nil ?_
        refine c_ret ?_
        try dsimp only [Exit.then, Exit.inBlock]
        refine e_retN (vs := [.agg ([V64 (0 : UInt64), .string ⟨(([] : List UInt8)).toArray⟩, V8 (0 : UInt8), VI 0, VI 0, .slice none 0 0] ++ (List.replicate 32 (0 : UInt8)).map V8).toArray, VI 4]) _ Try.results102 rfl (H.resR (C := [V64 (0 : UInt64), .string ⟨(([] : List UInt8)).toArray⟩, V8 (0 : UInt8), VI 0, VI 0, .slice none 0 0] ++ (List.replicate 32 (0 : UInt8)).map V8) (i := 0) rfl rfl rt76 (by rw [List.length_append, List.length_map, (show (List.replicate 32 (0 : UInt8)).length = 32 from (List.length_replicate ..))]; rfl) (resT (v := VI 4) rfl (resZ))) ?_
        refine ⟨_, rfl, ?_⟩
        refine .inl ⟨?_, rfl, H.sub (List.nil_sublist _)⟩
        cases hp : parseT s.l with
        | none => rfl
        | some T =>
          exfalso
          obtain ⟨z1, z2, z3, z4, z5, z6, z7, z8, z9⟩ := hd_complete hp hhd
          have hTok := (parse_iff _ _).1 hp
          rw [n7] at z8
          rw [n8] at z9
          have hin : i = T.cs.length := by omega
          have hrc := cavRun_of T.cs T.tag hTok.2.1.c i (by omega)
          rw [hB, z1, z9, hrc] at hrun
          obtain ⟨q1, q2⟩ := Prod.mk.inj hrun
          obtain ⟨q2, q3⟩ := Prod.mk.inj q2
          have hr1 : cs = T.cs := q1.symm.trans (by rw [hin]; exact List.take_length)
          have hr2 : yy.l = T.tag := q2.symm.trans (by rw [hin, List.drop_length]; rfl)
          have hr3 : bb = false := q3.symm
          have h32 := hTok.2.1.tag
          have := hy.ln
          rw [hr2] at this
          omega
       ·
        refine l_yes rfl rfl (by exact congrArg Value.bool (decide_eq_false hc18)) (o_val (r_ldA (C := [V64 (numV 8 (s.nx 1).l), .string ⟨(t3).toArray⟩, V8 ((numV 1 (((s.nx 1).nx 8).tl k4).l).toUInt8), VI (zagU (numV 8 ((((s.nx 1).nx 8).tl k4).nx 1).l)), VI (zagU (numV 8 (((((s.nx 1).nx 8).tl k4).nx 1).nx 8).l)), .slice (hd a) i k] ++ (List.replicate 32 (0 : UInt8)).map V8) H (i := 2) rfl rfl rt76 (by rw [List.length_append, List.length_map, (show (List.replicate 32 (0 : UInt8)).length = 32 from (List.length_replicate ..))]; rfl)) ?_)
        refine l_yes rfl rfl (by exact congrArg Value.bool (decide_eq_false hc18)) (o_callR Try.func75 rfl rfl rfl (may_ret _ (⟨numV 8 (s.nx 1).l, t3, (numV 1 (((s.nx 1).nx 8).tl k4).l).toUInt8, zagU (numV 8 ((((s.nx 1).nx 8).tl k4).nx 1).l), zagU (numV 8 (((((s.nx 1).nx 8).tl k4).nx 1).nx 8).l), ⟨hd a, i, k, cs⟩, List.replicate 32 (0 : UInt8)⟩ : Tok) (H.glOwn (i := 3) rfl (by decide) (fun _ _ => rfl)) (show (List.replicate 32 (0 : UInt8)).length = 32 from (List.length_replicate ..)) (by first | omega | (dsimp only; omega) | simp)) ?_)
        rintro _ w ⟨rfl, Hc⟩
        replace H : Hp _ w _ ([_, _, _, _]) := H.call Hc
        clear Hc
        refine l_yes rfl rfl (by exact congrArg Value.bool (decide_eq_false hc18)) (o_val (r_not rfl) ?_)
        refine l_op (o_val (r_pick (b := false) (congrArg Value.bool (decide_eq_false hc18))) ?_)
        first | refine l_end ?_ | refine l_nil ?_
        rcases Bool.eq_false_or_eq_true (mayT (⟨numV 8 (s.nx 1).l, t3, (numV 1 (((s.nx 1).nx 8).tl k4).l).toUInt8, zagU (numV 8 ((((s.nx 1).nx 8).tl k4).nx 1).l), zagU (numV 8 (((((s.nx 1).nx 8).tl k4).nx 1).nx 8).l), ⟨hd a, i, k, cs⟩, List.replicate 32 (0 : UInt8)⟩ : Tok)) with hc19 | hc19
        ·
         repeat refine c_seq ?_
         refine c_no (by exact congrArg Value.bool (congrArg not hc19)) ?_
         refine c_skip ?_
         repeat refine c_seq ?_
         refine c_region ?_
         refine l_op (o_val (r_mv) ?_)
         refine l_op (o_val (r_nilc rfl) ?_)
         refine l_op (o_val (r_fa rfl fo144_0) ?_)
         refine l_op (o_val (r_ld (v := yy.v) H (i := 1) rfl rfl ct29 rfl) ?_)
         refine l_op (o_val (r_sap Try.underlying31 rfl (by (try simp only [Sl.cut]); omega)) ?_)
         have ah22 := ((hy.up H (fun _ => apart_nil _))).addr (by (try simp only [Sl.cut]); omega)
         obtain ⟨ab20, ao21, ah22⟩ := ah22
         refine l_op (o_val (r_ldSE (s := yy) (k := 32) (hy.up H (fun _ => apart_nil _)) ah22 rfl rt31 (by decide) (by omega)) ?_)
         refine l_op (o_val (r_fa rfl fo76_6) ?_)
         refine l_op (o_stT (pre := [V64 (numV 8 (s.nx 1).l), .string ⟨(t3).toArray⟩, V8 ((numV 1 (((s.nx 1).nx 8).tl k4).l).toUInt8), VI (zagU (numV 8 ((((s.nx 1).nx 8).tl k4).nx 1).l)), VI (zagU (numV 8 (((((s.nx 1).nx 8).tl k4).nx 1).nx 8).l)), .slice (hd a) i k]) (l := List.replicate 32 (0 : UInt8)) (l' := yy.l) H (i := 2) rfl rfl rfl cs31 rfl (show (List.replicate 32 (0 : UInt8)).length = 32 from (List.length_replicate ..)) (show (yy.l).length = 32 from (by omega)) (fun w H => ?_))
         replace H : Hp _ w _ ([_, _, .blk b8 ([V64 (numV 8 (s.nx 1).l), .string ⟨(t3).toArray⟩, V8 ((numV 1 (((s.nx 1).nx 8).tl k4).l).toUInt8), VI (zagU (numV 8 ((((s.nx 1).nx 8).tl k4).nx 1).l)), VI (zagU (numV 8 (((((s.nx 1).nx 8).tl k4).nx 1).nx 8).l)), .slice (hd a) i k] ++ (yy.l).map V8) 76, _]) := H
         first | refine l_end ?_ | refine l_nil ?_
         repeat refine c_seq ?_
         refine c_region ?_
         refine l_op (o_val (r_ldA (C := [V64 (numV 8 (s.nx 1).l), .string ⟨(t3).toArray⟩, V8 ((numV 1 (((s.nx 1).nx 8).tl k4).l).toUInt8), VI (zagU (numV 8 ((((s.nx 1).nx 8).tl k4).nx 1).l)), VI (zagU (numV 8 (((((s.nx 1).nx 8).tl k4).nx 1).nx 8).l)), .slice (hd a) i k] ++ (yy.l).map V8) H (i := 2) rfl rfl rt76 (by rw [List.length_append, List.length_map, (show (yy.l).length = 32 from (by omega))]; rfl)) ?_)
         refine l_op (o_stW (C' := [V64 (numV 8 (s.nx 1).l), .string ⟨(t3).toArray⟩, V8 ((numV 1 (((s.nx 1).nx 8).tl k4).l).toUInt8), VI (zagU (numV 8 ((((s.nx 1).nx 8).tl k4).nx 1).l)), VI (zagU (numV 8 (((((s.nx 1).nx 8).tl k4).nx 1).nx 8).l)), .slice (hd a) i k] ++ (yy.l).map V8) H (i := 0) rfl rfl rfl cs76 (by simp [Value.oneCell']) (by rw [List.length_append, List.length_map, (show (List.replicate 32 (0 : UInt8)).length = 32 from (List.length_replicate ..))]; rfl) (by rw [List.length_append, List.length_map, (show (yy.l).length = 32 from (by omega))]; rfl) (fun w H => ?_))
         replace H : Hp _ w _ ([.blk b1 ([V64 (numV 8 (s.nx 1).l), .string ⟨(t3).toArray⟩, V8 ((numV 1 (((s.nx 1).nx 8).tl k4).l).toUInt8), VI (zagU (numV 8 ((((s.nx 1).nx 8).tl k4).nx 1).l)), VI (zagU (numV 8 (((((s.nx 1).nx 8).tl k4).nx 1).nx 8).l)), .slice (hd a) i k] ++ (yy.l).map V8) 76, _, _, _]) := H
         refine l_op (o_val (r_as) ?_)
         first | refine l_end ?_ | refine l_nil ?_
         refine c_ret ?_
         try dsimp only [Exit.then, Exit.inBlock]
         refine e_retN (vs := [.agg ([V64 (numV 8 (s.nx 1).l), .string ⟨(t3).toArray⟩, V8 ((numV 1 (((s.nx 1).nx 8).tl k4).l).toUInt8), VI (zagU (numV 8 ((((s.nx 1).nx 8).tl k4).nx 1).l)), VI (zagU (numV 8 (((((s.nx 1).nx 8).tl k4).nx 1).nx 8).l)), .slice (hd a) i k] ++ (yy.l).map V8).toArray, VI 0]) _ Try.results102 rfl (H.resR (C := [V64 (numV 8 (s.nx 1).l), .string ⟨(t3).toArray⟩, V8 ((numV 1 (((s.nx 1).nx 8).tl k4).l).toUInt8), VI (zagU (numV 8 ((((s.nx 1).nx 8).tl k4).nx 1).l)), VI (zagU (numV 8 (((((s.nx 1).nx 8).tl k4).nx 1).nx 8).l)), .slice (hd a) i k] ++ (yy.l).map V8) (i := 0) rfl rfl rt76 (by rw [List.length_append, List.length_map, (show (yy.l).length = 32 from (by omega))]; rfl) (resT (v := VI 0) rfl (resZ))) ?_
         refine ⟨_, rfl, ?_⟩
         refine .inr ?_
         have hin : (numV 1 ((((((s.nx 1).nx 8).tl k4).nx 1).nx 8).nx 8).l).toNat = i := by omega
         rw [hB] at hrun
         have hp := take_sound (k := i) hhd (by omega) (by rw [n7]; exact hin) (by rw [n8, hrun]; exact hc17) (by rw [n8, hrun]; have := hy.ln; show yy.l.length = 32; omega) (by
           rw [n8, hrun]
           have hmm := hc19
           rw [mayT_tv _ hgl] at hmm
           simp only [nx_l] at hmm ⊢
           exact hmm)
         rw [n8, hrun] at hp
         have hp2 : parseT s.l = some ⟨numV 8 (s.nx 1).l, t3, (numV 1 (((s.nx 1).nx 8).tl k4).l).toUInt8, zagU (numV 8 ((((s.nx 1).nx 8).tl k4).nx 1).l), zagU (numV 8 (((((s.nx 1).nx 8).tl k4).nx 1).nx 8).l), cs, yy.l⟩ := by rw [hp]; simp only [nx_l]
         refine ⟨_, a, k, hp2, ?_, ?_⟩
         · simp only [hgl]
         · simp only [hgl]; exact H.sub (.cons _ (.cons _ (.cons _ (.cons_cons _ (List.nil_sublist _)))))
        ·
         repeat refine c_seq ?_
         refine c_yes (by exact congrArg Value.bool (congrArg not hc19)) ?_
         repeat refine c_seq ?_
         refine c_region ?_
         refine l_op (o_val (r_bld' (cells := ([V64 (0 : UInt64), .string ⟨(([] : List UInt8)).toArray⟩, V8 (0 : UInt8), VI 0, VI 0, .slice none 0 0] ++ (List.replicate 32 (0 : UInt8)).map V8).toArray) (pv := []) bd76 rfl rfl) ?_)
         refine l_op (o_stW (C' := [V64 (0 : UInt64), .string ⟨(([] : List UInt8)).toArray⟩, V8 (0 : UInt8), VI 0, VI 0, .slice none 0 0] ++ (List.replicate 32 (0 : UInt8)).map V8) H (i := 0) rfl rfl rfl cs76 (by simp [Value.oneCell']) (by rw [List.length_append, List.length_map, (show (List.replicate 32 (0 : UInt8)).length = 32 from (List.length_replicate ..))]; rfl) (by rw [List.length_append, List.length_map, (show (List.replicate 32 (0 : UInt8)).length = 32 from (List.length_replicate ..))]; rfl) (fun w H => ?_))
         replace H : Hp _ w _ [_, _, _, _] := H
         refine l_op (o_val (r_as) ?_)
         first | refine l_end ?_ | refine l_nil ?_
         refine c_ret ?_
         try dsimp only [Exit.then, Exit.inBlock]
         refine e_retN (vs := [.agg ([V64 (0 : UInt64), .string ⟨(([] : List UInt8)).toArray⟩, V8 (0 : UInt8), VI 0, VI 0, .slice none 0 0] ++ (List.replicate 32 (0 : UInt8)).map V8).toArray, VI 4]) _ Try.results102 rfl (H.resR (C := [V64 (0 : UInt64), .string ⟨(([] : List UInt8)).toArray⟩, V8 (0 : UInt8), VI 0, VI 0, .slice none 0 0] ++ (List.replicate 32 (0 : UInt8)).map V8) (i := 0) rfl rfl rt76 (by rw [List.length_append, List.length_map, (show (List.replicate 32 (0 : UInt8)).length = 32 from (List.length_replicate ..))]; rfl) (resT (v := VI 4) rfl (resZ))) ?_
         refine ⟨_, rfl, ?_⟩
         refine .inl ⟨?_, rfl, H.sub (List.nil_sublist _)⟩
         cases hp : parseT s.l with
         | none => rfl
         | some T =>
           exfalso
           obtain ⟨z1, z2, z3, z4, z5, z6, z7, z8, z9⟩ := hd_complete hp hhd
           have hTok := (parse_iff _ _).1 hp
           rw [n7] at z8
           rw [n8] at z9
           have hin : i = T.cs.length := by omega
           have hrc := cavRun_of T.cs T.tag hTok.2.1.c i (by omega)
           rw [hB, z1, z9, hrc] at hrun
           obtain ⟨q1, q2⟩ := Prod.mk.inj hrun
           obtain ⟨q2, q3⟩ := Prod.mk.inj q2
           have hr1 : cs = T.cs := q1.symm.trans (by rw [hin]; exact List.take_length)
           have hr2 : yy.l = T.tag := q2.symm.trans (by rw [hin, List.drop_length]; rfl)
           have hr3 : bb = false := q3.symm
           have hmm := may_tagless T ⟨hd a, i, k, cs⟩ hTok.1 hr1 hgl (List.replicate 32 (0 : UInt8))
           rw [← z3, ← z4, ← z5, ← z6, ← z7] at hmm
           simp only [nx_l] at hmm hc19
           rw [hmm] at hc19; cases hc19
end Go.Proofs.Ytjmbbhnpfmblpaa
namespace Go.Proofs.Ytjmbbhnpfmblpaa
open Go
set_option maxRecDepth 100000
theorem rMay_iff (r : UInt8) : rMay r = true ↔ r.toNat ≤ 15 := by
  have e : ∀ n, n < 256 → (rMay (UInt8.ofNat n) = true ↔ n ≤ 15) := by decide
  have := e r.toNat (u8_lt r)
  rwa [UInt8.ofNat_toNat] at this
/-- numbers of a token are such as int64 has. -/
structure Tok.bd (t : Tok) : Prop where
  f : -9223372036854775808 ≤ t.from_ ∧ t.from_ ≤ 9223372036854775807
  u : -9223372036854775808 ≤ t.until_ ∧ t.until_ ≤ 9223372036854775807
  cs : ∀ c ∈ t.cs.l, -9223372036854775808 ≤ c.2 ∧ c.2 ≤ 9223372036854775807
theorem nmay4_ret (w0 : World) (l : List UInt8) (hl : l.length ≤ 1099511627776) :
    Ret Try.prog 124 [.string ⟨(l).toArray⟩] w0 fun v w' => v = .bool (nameMay l) ∧ Hp w0 w' [] [] := by
  refine ret_mk Try.func124 rfl Try.ntmps124 (by simp) ?_
  have H := Hp.refl w0 []
  repeat refine c_seq ?_
  refine c_region ?_
  refine l_op (o_val (r_as) ?_)
  first | refine l_end ?_ | refine l_nil ?_
  repeat refine c_seq ?_
  refine c_region ?_
  refine l_op (o_val (r_mv) ?_)
  refine l_op (o_val (r_lenstr (s := ⟨(l).toArray⟩) Try.underlying9 rfl) ?_)
  refine l_op (o_val (r_bin (a := ((l).length : Int)) (b := 1) rfl rfl (fun _ => b_lss)) ?_)
  refine l_op (o_val (r_mv) ?_)
  by_cases hc1 : ((l).length : Int) < 1
  ·
   refine l_no rfl rfl (by exact congrArg Value.bool (decide_eq_true hc1)) rfl ?_
   refine l_no rfl rfl (by exact congrArg Value.bool (decide_eq_true hc1)) rfl ?_
   refine l_no rfl rfl (by exact congrArg Value.bool (decide_eq_true hc1)) rfl ?_
   refine l_op (o_val (r_pick (b := true) (congrArg Value.bool (decide_eq_true hc1))) ?_)
   refine l_op (o_val (r_mv) ?_)
   refine l_no rfl rfl rfl rfl ?_
   refine l_no rfl rfl rfl rfl ?_
   refine l_no rfl rfl rfl rfl ?_
   refine l_op (o_val (r_pick rfl) ?_)
   refine l_op (o_val (r_mv) ?_)
   refine l_no rfl rfl rfl rfl ?_
   refine l_no rfl rfl rfl rfl ?_
   refine l_no rfl rfl rfl rfl ?_
   refine l_op (o_val (r_pick rfl) ?_)
   first | refine l_end ?_ | refine l_nil ?_
   repeat refine c_seq ?_
   refine c_yes rfl ?_
   repeat refine c_seq ?_
   refine c_region ?_
   refine l_op (o_val (r_as) ?_)
   first | refine l_end ?_ | refine l_nil ?_
   refine c_ret ?_
   try dsimp only [Exit.then, Exit.inBlock]
   refine e_ret1 (v := .bool false) Try.results124 rfl ?_
   refine ⟨_, rfl, ?_⟩
   refine ⟨?_, H⟩
   have e : nameMay l = false := Bool.eq_false_iff.2 fun h => by
     have h2 := (nameMay_iff l).1 h
     exact absurd h2 (by omega)
   rw [e]
  ·
   refine l_yes rfl rfl (by exact congrArg Value.bool (decide_eq_false hc1)) (o_val (r_mv) ?_)
   refine l_yes rfl rfl (by exact congrArg Value.bool (decide_eq_false hc1)) (o_val (r_lenstr (s := ⟨(l).toArray⟩) Try.underlying9 rfl) ?_)
   refine l_yes rfl rfl (by exact congrArg Value.bool (decide_eq_false hc1)) (o_val (r_bin (a := ((l).length : Int)) (b := 16) rfl rfl (fun _ => b_gtr)) ?_)
   refine l_op (o_val (r_pick (b := false) (congrArg Value.bool (decide_eq_false hc1))) ?_)
   refine l_op (o_val (r_mv) ?_)
   by_cases hc2 : 16 < ((l).length : Int)
   ·
    refine l_no rfl rfl (by exact congrArg Value.bool (decide_eq_true hc2)) rfl ?_
    refine l_no rfl rfl (by exact congrArg Value.bool (decide_eq_true hc2)) rfl ?_
    refine l_no rfl rfl (by exact congrArg Value.bool (decide_eq_true hc2)) rfl ?_
    refine l_op (o_val (r_pick (b := true) (congrArg Value.bool (decide_eq_true hc2))) ?_)
    refine l_op (o_val (r_mv) ?_)
    refine l_no rfl rfl rfl rfl ?_
    refine l_no rfl rfl rfl rfl ?_
    refine l_no rfl rfl rfl rfl ?_
    refine l_op (o_val (r_pick rfl) ?_)
    first | refine l_end ?_ | refine l_nil ?_
    repeat refine c_seq ?_
    refine c_yes rfl ?_
    repeat refine c_seq ?_
    refine c_region ?_
    refine l_op (o_val (r_as) ?_)
    first | refine l_end ?_ | refine l_nil ?_
    refine c_ret ?_
    try dsimp only [Exit.then, Exit.inBlock]
    refine e_ret1 (v := .bool false) Try.results124 rfl ?_
    refine ⟨_, rfl, ?_⟩
    refine ⟨?_, H⟩
    have e : nameMay l = false := Bool.eq_false_iff.2 fun h => by
      have h2 := (nameMay_iff l).1 h
      exact absurd h2 (by omega)
    rw [e]
   ·
    refine l_yes rfl rfl (by exact congrArg Value.bool (decide_eq_false hc2)) (o_val (r_mv) ?_)
    refine l_yes rfl rfl (by exact congrArg Value.bool (decide_eq_false hc2)) (o_val (r_idxS (l := l) 0 Try.underlying9 rfl rfl (by omega) (by omega)) ?_)
    refine l_yes rfl rfl (by exact congrArg Value.bool (decide_eq_false hc2)) (o_val (r_bin (a := (((l).getD 0 0).toNat : Int)) (b := 97) rfl rfl (fun _ => b_lss)) ?_)
    refine l_op (o_val (r_pick (b := false) (congrArg Value.bool (decide_eq_false hc2))) ?_)
    refine l_op (o_val (r_mv) ?_)
    by_cases hc3 : (((l).getD 0 0).toNat : Int) < 97
    ·
     refine l_no rfl rfl (by exact congrArg Value.bool (decide_eq_true hc3)) rfl ?_
     refine l_no rfl rfl (by exact congrArg Value.bool (decide_eq_true hc3)) rfl ?_
     refine l_no rfl rfl (by exact congrArg Value.bool (decide_eq_true hc3)) rfl ?_
     refine l_op (o_val (r_pick (b := true) (congrArg Value.bool (decide_eq_true hc3))) ?_)
     first | refine l_end ?_ | refine l_nil ?_
     repeat refine c_seq ?_
     refine c_yes rfl ?_
     repeat refine c_seq ?_
     refine c_region ?_
     refine l_op (o_val (r_as) ?_)
     first | refine l_end ?_ | refine l_nil ?_
     refine c_ret ?_
     try dsimp only [Exit.then, Exit.inBlock]
     refine e_ret1 (v := .bool false) Try.results124 rfl ?_
     refine ⟨_, rfl, ?_⟩
     refine ⟨?_, H⟩
     have e : nameMay l = false := Bool.eq_false_iff.2 fun h => by
       have h2 := (nameMay_iff l).1 h
       exact absurd h2 (by omega)
     rw [e]
    ·
     refine l_yes rfl rfl (by exact congrArg Value.bool (decide_eq_false hc3)) (o_val (r_mv) ?_)
     refine l_yes rfl rfl (by exact congrArg Value.bool (decide_eq_false hc3)) (o_val (r_idxS (l := l) 0 Try.underlying9 rfl rfl (by omega) (by omega)) ?_)
     refine l_yes rfl rfl (by exact congrArg Value.bool (decide_eq_false hc3)) (o_val (r_bin (a := (((l).getD 0 0).toNat : Int)) (b := 122) rfl rfl (fun _ => b_gtr)) ?_)
     refine l_op (o_val (r_pick (b := false) (congrArg Value.bool (decide_eq_false hc3))) ?_)
     first | refine l_end ?_ | refine l_nil ?_
     by_cases hc4 : 122 < (((l).getD 0 0).toNat : Int)
     ·
      repeat refine c_seq ?_
      refine c_yes (by exact congrArg Value.bool (decide_eq_true hc4)) ?_
      repeat refine c_seq ?_
      refine c_region ?_
      refine l_op (o_val (r_as) ?_)
      first | refine l_end ?_ | refine l_nil ?_
      refine c_ret ?_
      try dsimp only [Exit.then, Exit.inBlock]
      refine e_ret1 (v := .bool false) Try.results124 rfl ?_
      refine ⟨_, rfl, ?_⟩
      refine ⟨?_, H⟩
      have e : nameMay l = false := Bool.eq_false_iff.2 fun h => by
        have h2 := (nameMay_iff l).1 h
        exact absurd h2 (by omega)
      rw [e]
     ·
      repeat refine c_seq ?_
      refine c_no (by exact congrArg Value.bool (decide_eq_false hc4)) ?_
      refine c_skip ?_
      repeat refine c_seq ?_
      refine c_region ?_
      refine l_op (o_val (r_as) ?_)
      first | refine l_end ?_ | refine l_nil ?_
      repeat refine c_seq ?_
      refine c_block ?_
      repeat refine c_seq ?_
      refine c_loop (fun (i : Nat) => [(0, .string ⟨(l).toArray⟩), (3, VI (i : Int))])
        (fun (i : Nat) w => (i ≤ l.length ∧ ∀ j, j < i → nm1 (l.getD j 0) = true) ∧ Hp w0 w [] ([]))
        (fun (i : Nat) => l.length - i) 0 ⟨rfl, rfl, trivial⟩ ⟨⟨Nat.zero_le _, fun j hj => absurd hj (by omega)⟩, H⟩ ?_
      clear H
      rintro i τ w ⟨⟨hi, hall⟩, H⟩
      repeat refine c_seq ?_
      refine c_region ?_
      refine l_op (o_val (r_mv) ?_)
      refine l_op (o_val (r_mv) ?_)
      refine l_op (o_val (r_lenstr (s := ⟨(l).toArray⟩) Try.underlying9 rfl) ?_)
      refine l_op (o_val (r_bin (a := (i : Int)) (b := ((l).length : Int)) rfl rfl (fun _ => b_lss)) ?_)
      first | refine l_end ?_ | refine l_nil ?_
      by_cases hc5 : (i : Int) < ((l).length : Int)
      ·
       repeat refine c_seq ?_
       refine c_yes (by exact congrArg Value.bool (decide_eq_true hc5)) ?_
       refine c_skip ?_
       repeat refine c_seq ?_
       refine c_block ?_
       repeat refine c_seq ?_
       refine c_region ?_
       refine l_op (o_val (r_mv) ?_)
       refine l_op (o_val (r_mv) ?_)
       refine l_op (o_val (r_idxS (l := l) i Try.underlying9 rfl rfl (by omega) (by omega)) ?_)
       refine l_op (o_val (r_as) ?_)
       first | refine l_end ?_ | refine l_nil ?_
       repeat refine c_seq ?_
       refine c_region ?_
       refine l_op (o_val (r_mv) ?_)
       refine l_op (o_val (r_bin (a := (((l).getD i 0).toNat : Int)) (b := 97) rfl rfl (fun _ => b_geq)) ?_)
       refine l_op (o_val (r_mv) ?_)
       by_cases hc6 : 97 ≤ (((l).getD i 0).toNat : Int)
       ·
        refine l_yes rfl rfl (by exact congrArg Value.bool (decide_eq_true hc6)) (o_val (r_mv) ?_)
        refine l_yes rfl rfl (by exact congrArg Value.bool (decide_eq_true hc6)) (o_val (r_bin (a := (((l).getD i 0).toNat : Int)) (b := 122) rfl rfl (fun _ => b_leq)) ?_)
        refine l_op (o_val (r_pick (b := true) (congrArg Value.bool (decide_eq_true hc6))) ?_)
        refine l_op (o_val (r_mv) ?_)
        by_cases hc7 : (((l).getD i 0).toNat : Int) ≤ 122
        ·
         refine l_no rfl rfl (by exact congrArg Value.bool (decide_eq_true hc7)) rfl ?_
         refine l_no rfl rfl (by exact congrArg Value.bool (decide_eq_true hc7)) rfl ?_
         refine l_no rfl rfl (by exact congrArg Value.bool (decide_eq_true hc7)) rfl ?_
         refine l_non rfl rfl rfl ?_
         refine l_non rfl rfl rfl ?_
         refine l_no rfl rfl (by exact congrArg Value.bool (decide_eq_true hc7)) rfl ?_
         refine l_op (o_val (r_pick (b := true) (congrArg Value.bool (decide_eq_true hc7))) ?_)
         refine l_op (o_val (r_mv) ?_)
         refine l_no rfl rfl rfl rfl ?_
         refine l_no rfl rfl rfl rfl ?_
         refine l_op (o_val (r_pick rfl) ?_)
         refine l_op (o_val (r_not rfl) ?_)
         first | refine l_end ?_ | refine l_nil ?_
         repeat refine c_seq ?_
         refine c_no rfl ?_
         refine c_skip ?_
         repeat refine c_seq ?_
         refine c_region ?_
         refine l_op (o_val (r_mv) ?_)
         refine l_op (o_val (r_bin (a := (i : Int)) (b := 1) rfl rfl (fun _ => b_add (by omega) (by omega))) ?_)
         refine l_op (o_val (r_as) ?_)
         first | refine l_end ?_ | refine l_nil ?_
         refine round_end (i + 1) ?_ ?_ ?_
         · exact ⟨rfl, show VI ((i : Int) + 1) = VI ((i + 1 : Nat) : Int) from congrArg VI (by omega), trivial⟩
         · refine ⟨?_, ?_⟩
           · try dsimp only
             exact ⟨by omega, fun j hj => by
               by_cases hji : j < i
               · exact hall j hji
               · have e : j = i := by omega
                 rw [e]; exact (nm1_iff _).2 (by omega)⟩
           · exact H
         · show l.length - (i + 1 : Nat) < l.length - i; omega
        ·
         refine l_yes rfl rfl (by exact congrArg Value.bool (decide_eq_false hc7)) (o_val (r_mv) ?_)
         refine l_yes rfl rfl (by exact congrArg Value.bool (decide_eq_false hc7)) (o_val (r_bin (a := (((l).getD i 0).toNat : Int)) (b := 48) rfl rfl (fun _ => b_geq)) ?_)
         refine l_yes rfl rfl (by exact congrArg Value.bool (decide_eq_false hc7)) (o_val (r_mv) ?_)
         by_cases hc8 : 48 ≤ (((l).getD i 0).toNat : Int)
         ·
          refine l_yes rfl rfl (by exact congrArg Value.bool (decide_eq_true hc8)) (o_val (r_mv) ?_)
          refine l_yes rfl rfl (by exact congrArg Value.bool (decide_eq_true hc8)) (o_val (r_bin (a := (((l).getD i 0).toNat : Int)) (b := 57) rfl rfl (fun _ => b_leq)) ?_)
          refine l_yes rfl rfl (by exact congrArg Value.bool (decide_eq_false hc7)) (o_val (r_pick (b := true) (congrArg Value.bool (decide_eq_true hc8))) ?_)
          refine l_op (o_val (r_pick (b := false) (congrArg Value.bool (decide_eq_false hc7))) ?_)
          refine l_op (o_val (r_mv) ?_)
          by_cases hc9 : (((l).getD i 0).toNat : Int) ≤ 57
          ·
           refine l_no rfl rfl (by exact congrArg Value.bool (decide_eq_true hc9)) rfl ?_
           refine l_no rfl rfl (by exact congrArg Value.bool (decide_eq_true hc9)) rfl ?_
           refine l_op (o_val (r_pick (b := true) (congrArg Value.bool (decide_eq_true hc9))) ?_)
           refine l_op (o_val (r_not rfl) ?_)
           first | refine l_end ?_ | refine l_nil ?_
           repeat refine c_seq ?_
           refine c_no rfl ?_
           refine c_skip ?_
           repeat refine c_seq ?_
           refine c_region ?_
           refine l_op (o_val (r_mv) ?_)
           refine l_op (o_val (r_bin (a := (i : Int)) (b := 1) rfl rfl (fun _ => b_add (by omega) (by omega))) ?_)
           refine l_op (o_val (r_as) ?_)
           first | refine l_end ?_ | refine l_nil ?_
           refine round_end (i + 1) ?_ ?_ ?_
           · exact ⟨rfl, show VI ((i : Int) + 1) = VI ((i + 1 : Nat) : Int) from congrArg VI (by omega), trivial⟩
           · refine ⟨?_, ?_⟩
             · try dsimp only
               exact ⟨by omega, fun j hj => by
                 by_cases hji : j < i
                 · exact hall j hji
                 · have e : j = i := by omega
                   rw [e]; exact (nm1_iff _).2 (by omega)⟩
             · exact H
           · show l.length - (i + 1 : Nat) < l.length - i; omega
          ·
           refine l_yes rfl rfl (by exact congrArg Value.bool (decide_eq_false hc9)) (o_val (r_mv) ?_)
           refine l_yes rfl rfl (by exact congrArg Value.bool (decide_eq_false hc9)) (o_val (r_bin (a := (((l).getD i 0).toNat : Int)) (b := 45) rfl rfl (fun _ => b_eql)) ?_)
           refine l_op (o_val (r_pick (b := false) (congrArg Value.bool (decide_eq_false hc9))) ?_)
           refine l_op (o_val (r_not rfl) ?_)
           first | refine l_end ?_ | refine l_nil ?_
           by_cases hc10 : (((l).getD i 0).toNat : Int) = 45
           ·
            repeat refine c_seq ?_
            refine c_no (by exact congrArg Value.bool (congrArg not (decide_eq_true hc10))) ?_
            refine c_skip ?_
            repeat refine c_seq ?_
            refine c_region ?_
            refine l_op (o_val (r_mv) ?_)
            refine l_op (o_val (r_bin (a := (i : Int)) (b := 1) rfl rfl (fun _ => b_add (by omega) (by omega))) ?_)
            refine l_op (o_val (r_as) ?_)
            first | refine l_end ?_ | refine l_nil ?_
            refine round_end (i + 1) ?_ ?_ ?_
            · exact ⟨rfl, show VI ((i : Int) + 1) = VI ((i + 1 : Nat) : Int) from congrArg VI (by omega), trivial⟩
            · refine ⟨?_, ?_⟩
              · try dsimp only
                exact ⟨by omega, fun j hj => by
                  by_cases hji : j < i
                  · exact hall j hji
                  · have e : j = i := by omega
                    rw [e]; exact (nm1_iff _).2 (by omega)⟩
              · exact H
            · show l.length - (i + 1 : Nat) < l.length - i; omega
           ·
            repeat refine c_seq ?_
            refine c_yes (by exact congrArg Value.bool (congrArg not (decide_eq_false hc10))) ?_
            repeat refine c_seq ?_
            refine c_region ?_
            refine l_op (o_val (r_as) ?_)
            first | refine l_end ?_ | refine l_nil ?_
            refine c_ret ?_
            try dsimp only [Exit.then, Exit.inBlock]
            refine e_ret1 (v := .bool false) Try.results124 rfl ?_
            refine ⟨_, rfl, ?_⟩
            refine ⟨?_, H⟩
            have e : nameMay l = false := Bool.eq_false_iff.2 fun h => by
              have h2 := (nameMay_iff l).1 h
              have h3 := (nm1_iff _).1 (h2.2.2.2.2 i (by omega))
              exact absurd h2 (by omega)
            rw [e]
         ·
          refine l_no rfl rfl (by exact congrArg Value.bool (decide_eq_false hc8)) rfl ?_
          refine l_no rfl rfl (by exact congrArg Value.bool (decide_eq_false hc8)) rfl ?_
          refine l_yes rfl rfl (by exact congrArg Value.bool (decide_eq_false hc7)) (o_val (r_pick (b := false) (congrArg Value.bool (decide_eq_false hc8))) ?_)
          refine l_op (o_val (r_pick (b := false) (congrArg Value.bool (decide_eq_false hc7))) ?_)
          refine l_op (o_val (r_mv) ?_)
          refine l_yes rfl rfl rfl (o_val (r_mv) ?_)
          refine l_yes rfl rfl rfl (o_val (r_bin (a := (((l).getD i 0).toNat : Int)) (b := 45) rfl rfl (fun _ => b_eql)) ?_)
          refine l_op (o_val (r_pick rfl) ?_)
          refine l_op (o_val (r_not rfl) ?_)
          first | refine l_end ?_ | refine l_nil ?_
          by_cases hc11 : (((l).getD i 0).toNat : Int) = 45
          ·
           repeat refine c_seq ?_
           refine c_no (by exact congrArg Value.bool (congrArg not (decide_eq_true hc11))) ?_
           refine c_skip ?_
           repeat refine c_seq ?_
           refine c_region ?_
           refine l_op (o_val (r_mv) ?_)
           refine l_op (o_val (r_bin (a := (i : Int)) (b := 1) rfl rfl (fun _ => b_add (by omega) (by omega))) ?_)
           refine l_op (o_val (r_as) ?_)
           first | refine l_end ?_ | refine l_nil ?_
           refine round_end (i + 1) ?_ ?_ ?_
           · exact ⟨rfl, show VI ((i : Int) + 1) = VI ((i + 1 : Nat) : Int) from congrArg VI (by omega), trivial⟩
           · refine ⟨?_, ?_⟩
             · try dsimp only
               exact ⟨by omega, fun j hj => by
                 by_cases hji : j < i
                 · exact hall j hji
                 · have e : j = i := by omega
                   rw [e]; exact (nm1_iff _).2 (by omega)⟩
             · exact H
           · show l.length - (i + 1 : Nat) < l.length - i; omega
          ·
           repeat refine c_seq ?_
           refine c_yes (by exact congrArg Value.bool (congrArg not (decide_eq_false hc11))) ?_
           repeat refine c_seq ?_
           refine c_region ?_
           refine l_op (o_val (r_as) ?_)
           first | refine l_end ?_ | refine l_nil ?_
           refine c_ret ?_
           try dsimp only [Exit.then, Exit.inBlock]
           refine e_ret1 (v := .bool false) Try.results124 rfl ?_
           refine ⟨_, rfl, ?_⟩
           refine ⟨?_, H⟩
           have e : nameMay l = false := Bool.eq_false_iff.2 fun h => by
             have h2 := (nameMay_iff l).1 h
             have h3 := (nm1_iff _).1 (h2.2.2.2.2 i (by omega))
             exact absurd h2 (by omega)
           rw [e]
       ·
        refine l_no rfl rfl (by exact congrArg Value.bool (decide_eq_false hc6)) rfl ?_
        refine l_no rfl rfl (by exact congrArg Value.bool (decide_eq_false hc6)) rfl ?_
        refine l_op (o_val (r_pick (b := false) (congrArg Value.bool (decide_eq_false hc6))) ?_)
        refine l_op (o_val (r_mv) ?_)
        refine l_yes rfl rfl rfl (o_val (r_mv) ?_)
        refine l_yes rfl rfl rfl (o_val (r_bin (a := (((l).getD i 0).toNat : Int)) (b := 48) rfl rfl (fun _ => b_geq)) ?_)
        refine l_yes rfl rfl rfl (o_val (r_mv) ?_)
        by_cases hc12 : 48 ≤ (((l).getD i 0).toNat : Int)
        ·
         refine l_yes rfl rfl (by exact congrArg Value.bool (decide_eq_true hc12)) (o_val (r_mv) ?_)
         refine l_yes rfl rfl (by exact congrArg Value.bool (decide_eq_true hc12)) (o_val (r_bin (a := (((l).getD i 0).toNat : Int)) (b := 57) rfl rfl (fun _ => b_leq)) ?_)
         refine l_yes rfl rfl rfl (o_val (r_pick (b := true) (congrArg Value.bool (decide_eq_true hc12))) ?_)
         refine l_op (o_val (r_pick rfl) ?_)
         refine l_op (o_val (r_mv) ?_)
         by_cases hc13 : (((l).getD i 0).toNat : Int) ≤ 57
         ·
          refine l_no rfl rfl (by exact congrArg Value.bool (decide_eq_true hc13)) rfl ?_
          refine l_no rfl rfl (by exact congrArg Value.bool (decide_eq_true hc13)) rfl ?_
          refine l_op (o_val (r_pick (b := true) (congrArg Value.bool (decide_eq_true hc13))) ?_)
          refine l_op (o_val (r_not rfl) ?_)
          first | refine l_end ?_ | refine l_nil ?_
          repeat refine c_seq ?_
          refine c_no rfl ?_
          refine c_skip ?_
          repeat refine c_seq ?_
          refine c_region ?_
          refine l_op (o_val (r_mv) ?_)
          refine l_op (o_val (r_bin (a := (i : Int)) (b := 1) rfl rfl (fun _ => b_add (by omega) (by omega))) ?_)
          refine l_op (o_val (r_as) ?_)
          first | refine l_end ?_ | refine l_nil ?_
          refine round_end (i + 1) ?_ ?_ ?_
          · exact ⟨rfl, show VI ((i : Int) + 1) = VI ((i + 1 : Nat) : Int) from congrArg VI (by omega), trivial⟩
          · refine ⟨?_, ?_⟩
            · try dsimp only
              exact ⟨by omega, fun j hj => by
                by_cases hji : j < i
                · exact hall j hji
                · have e : j = i := by omega
                  rw [e]; exact (nm1_iff _).2 (by omega)⟩
            · exact H
          · show l.length - (i + 1 : Nat) < l.length - i; omega
         ·
          refine l_yes rfl rfl (by exact congrArg Value.bool (decide_eq_false hc13)) (o_val (r_mv) ?_)
          refine l_yes rfl rfl (by exact congrArg Value.bool (decide_eq_false hc13)) (o_val (r_bin (a := (((l).getD i 0).toNat : Int)) (b := 45) rfl rfl (fun _ => b_eql)) ?_)
          refine l_op (o_val (r_pick (b := false) (congrArg Value.bool (decide_eq_false hc13))) ?_)
          refine l_op (o_val (r_not rfl) ?_)
          first | refine l_end ?_ | refine l_nil ?_
          by_cases hc14 : (((l).getD i 0).toNat : Int) = 45
          ·
           repeat refine c_seq ?_
           refine c_no (by exact congrArg Value.bool (congrArg not (decide_eq_true hc14))) ?_
           refine c_skip ?_
           repeat refine c_seq ?_
           refine c_region ?_
           refine l_op (o_val (r_mv) ?_)
           refine l_op (o_val (r_bin (a := (i : Int)) (b := 1) rfl rfl (fun _ => b_add (by omega) (by omega))) ?_)
           refine l_op (o_val (r_as) ?_)
           first | refine l_end ?_ | refine l_nil ?_
           refine round_end (i + 1) ?_ ?_ ?_
           · exact ⟨rfl, show VI ((i : Int) + 1) = VI ((i + 1 : Nat) : Int) from congrArg VI (by omega), trivial⟩
           · refine ⟨?_, ?_⟩
             · try dsimp only
               exact ⟨by omega, fun j hj => by
                 by_cases hji : j < i
                 · exact hall j hji
                 · have e : j = i := by omega
                   rw [e]; exact (nm1_iff _).2 (by omega)⟩
             · exact H
           · show l.length - (i + 1 : Nat) < l.length - i; omega
          ·
           repeat refine c_seq ?_
           refine c_yes (by exact congrArg Value.bool (congrArg not (decide_eq_false hc14))) ?_
           repeat refine c_seq ?_
           refine c_region ?_
           refine l_op (o_val (r_as) ?_)
           first | refine l_end ?_ | refine l_nil ?_
           refine c_ret ?_
           try dsimp only [Exit.then, Exit.inBlock]
           refine e_ret1 (v := .bool false) Try.results124 rfl ?_
           refine ⟨_, rfl, ?_⟩
           refine ⟨?_, H⟩
           have e : nameMay l = false := Bool.eq_false_iff.2 fun h => by
             have h2 := (nameMay_iff l).1 h
             have h3 := (nm1_iff _).1 (h2.2.2.2.2 i (by omega))
             exact absurd h2 (by omega)
           rw [e]
        ·
         refine l_no rfl rfl (by exact congrArg Value.bool (decide_eq_false hc12)) rfl ?_
         refine l_no rfl rfl (by exact congrArg Value.bool (decide_eq_false hc12)) rfl ?_
         refine l_yes rfl rfl rfl (o_val (r_pick (b := false) (congrArg Value.bool (decide_eq_false hc12))) ?_)
         refine l_op (o_val (r_pick rfl) ?_)
         refine l_op (o_val (r_mv) ?_)
         refine l_yes rfl rfl rfl (o_val (r_mv) ?_)
         refine l_yes rfl rfl rfl (o_val (r_bin (a := (((l).getD i 0).toNat : Int)) (b := 45) rfl rfl (fun _ => b_eql)) ?_)
         refine l_op (o_val (r_pick rfl) ?_)
         refine l_op (o_val (r_not rfl) ?_)
         first | refine l_end ?_ | refine l_nil ?_
         by_cases hc15 : (((l).getD i 0).toNat : Int) = 45
         ·
          repeat refine c_seq ?_
          refine c_no (by exact congrArg Value.bool (congrArg not (decide_eq_true hc15))) ?_
          refine c_skip ?_
          repeat refine c_seq ?_
          refine c_region ?_
          refine l_op (o_val (r_mv) ?_)
          refine l_op (o_val (r_bin (a := (i : Int)) (b := 1) rfl rfl (fun _ => b_add (by omega) (by omega))) ?_)
          refine l_op (o_val (r_as) ?_)
          first | refine l_end ?_ | refine l_nil ?_
          refine round_end (i + 1) ?_ ?_ ?_
          · exact ⟨rfl, show VI ((i : Int) + 1) = VI ((i + 1 : Nat) : Int) from congrArg VI (by omega), trivial⟩
          · refine ⟨?_, ?_⟩
            · try dsimp only
              exact ⟨by omega, fun j hj => by
                by_cases hji : j < i
                · exact hall j hji
                · have e : j = i := by omega
                  rw [e]; exact (nm1_iff _).2 (by omega)⟩
            · exact H
          · show l.length - (i + 1 : Nat) < l.length - i; omega
         ·
          repeat refine c_seq ?_
          refine c_yes (by exact congrArg Value.bool (congrArg not (decide_eq_false hc15))) ?_
          repeat refine c_seq ?_
          refine c_region ?_
          refine l_op (o_val (r_as) ?_)
          first | refine l_end ?_ | refine l_nil ?_
          refine c_ret ?_
          try dsimp only [Exit.then, Exit.inBlock]
          refine e_ret1 (v := .bool false) Try.results124 rfl ?_
          refine ⟨_, rfl, ?_⟩
          refine ⟨?_, H⟩
          have e : nameMay l = false := Bool.eq_false_iff.2 fun h => by
            have h2 := (nameMay_iff l).1 h
            have h3 := (nm1_iff _).1 (h2.2.2.2.2 i (by omega))
            exact absurd h2 (by omega)
          rw [e]
      ·
       repeat refine c_seq ?_
       refine c_no (by exact congrArg Value.bool (decide_eq_false hc5)) ?_
       refine c_exit ?_
       repeat refine c_seq ?_
       refine c_region ?_
       refine l_op (o_val (r_as) ?_)
       first | refine l_end ?_ | refine l_nil ?_
       refine c_ret ?_
       try dsimp only [Exit.then, Exit.inBlock]
       refine e_ret1 (v := .bool true) Try.results124 rfl ?_
       refine ⟨_, rfl, ?_⟩
       refine ⟨?_, H⟩
       rw [(nameMay_iff l).2 ⟨by omega, by omega, by omega, by omega, fun j hj => hall j (by omega)⟩]
theorem may14_ret (w0 : World) (t : Tok) (hc : t.cs.ok cavE 2 w0) (_htag : t.tag.length = 32) (hn : t.tenant.length ≤ 65536) :
    Ret Try.prog 76 [.agg ([V64 t.serial, .string ⟨(t.tenant).toArray⟩, V8 t.rights, VI t.from_, VI t.until_, t.cs.v] ++ (t.tag).map V8).toArray] w0 fun v w' => v = .bool (mayT t) ∧ Hp w0 w' [] [] := by
  refine ret_mk Try.func76 rfl Try.ntmps76 (by simp) ?_
  have H := Hp.refl w0 []
  have hxl := hc.le
  have hxm := hc.mx
  have hmL : maxLen = 9223372036854775807 := rfl
  repeat refine c_seq ?_
  refine c_region ?_
  refine l_op (o_box (v := .agg ([V64 t.serial, .string ⟨(t.tenant).toArray⟩, V8 t.rights, VI t.from_, VI t.until_, t.cs.v] ++ (t.tag).map V8).toArray) H rfl (fun b1 w H hb1 => ?_))
  replace H : Hp _ w _ ([.blk b1 ([V64 t.serial, .string ⟨(t.tenant).toArray⟩, V8 t.rights, VI t.from_, VI t.until_, t.cs.v] ++ (t.tag).map V8) 76]) := H
  refine l_op (o_val (r_as) ?_)
  first | refine l_end ?_ | refine l_nil ?_
  repeat refine c_seq ?_
  refine c_region ?_
  refine l_op (o_val (r_fa rfl fo76_1) ?_)
  refine l_op (o_val (r_ld (v := .string ⟨(t.tenant).toArray⟩) H (i := 0) rfl rfl ct9 rfl) ?_)
  refine l_op (o_val (r_strne (a := t.tenant) (b := ([] : List UInt8)) rfl rfl) ?_)
  refine l_op (o_val (r_mv) ?_)
  by_cases hc2 : t.tenant = ([] : List UInt8)
  ·
   refine l_no rfl rfl (by exact congrArg Value.bool (congrArg not (decide_eq_true hc2))) rfl ?_
   refine l_no rfl rfl (by exact congrArg Value.bool (congrArg not (decide_eq_true hc2))) rfl ?_
   refine l_no rfl rfl (by exact congrArg Value.bool (congrArg not (decide_eq_true hc2))) rfl ?_
   refine l_no rfl rfl (by exact congrArg Value.bool (congrArg not (decide_eq_true hc2))) rfl ?_
   refine l_op (o_val (r_pick (b := false) (congrArg Value.bool (congrArg not (decide_eq_true hc2)))) ?_)
   refine l_op (o_val (r_mv) ?_)
   refine l_yes rfl rfl rfl (o_val (r_fa rfl fo76_2) ?_)
   refine l_yes rfl rfl rfl (o_val (r_ld (v := V8 t.rights) H (i := 0) rfl rfl ct73 rfl) ?_)
   refine l_yes rfl rfl rfl (o_val (r_bin (a := (t.rights.toNat : Int)) (b := 15) rfl rfl (fun _ => b_gtr)) ?_)
   refine l_op (o_val (r_pick rfl) ?_)
   refine l_op (o_val (r_mv) ?_)
   by_cases hc3 : 15 < (t.rights.toNat : Int)
   ·
    refine l_no rfl rfl (by exact congrArg Value.bool (decide_eq_true hc3)) rfl ?_
    refine l_no rfl rfl (by exact congrArg Value.bool (decide_eq_true hc3)) rfl ?_
    refine l_no rfl rfl (by exact congrArg Value.bool (decide_eq_true hc3)) rfl ?_
    refine l_no rfl rfl (by exact congrArg Value.bool (decide_eq_true hc3)) rfl ?_
    refine l_op (o_val (r_pick (b := true) (congrArg Value.bool (decide_eq_true hc3))) ?_)
    first | refine l_end ?_ | refine l_nil ?_
    repeat refine c_seq ?_
    refine c_yes rfl ?_
    repeat refine c_seq ?_
    refine c_region ?_
    refine l_op (o_val (r_as) ?_)
    first | refine l_end ?_ | refine l_nil ?_
    refine c_ret ?_
    try dsimp only [Exit.then, Exit.inBlock]
    refine e_ret1 (v := .bool false) Try.results76 rfl ?_
    refine ⟨_, rfl, ?_⟩
    refine ⟨?_, H.sub (List.nil_sublist _)⟩
    have e : mayT t = false := Bool.eq_false_iff.2 fun h => by
      have h2 := (mayT_iff t).1 h
      have h3 := (rMay_iff _).1 h2.2.1
      omega
    rw [e]
   ·
    refine l_yes rfl rfl (by exact congrArg Value.bool (decide_eq_false hc3)) (o_val (r_fa rfl fo76_5) ?_)
    refine l_yes rfl rfl (by exact congrArg Value.bool (decide_eq_false hc3)) (o_val (r_ld (v := t.cs.v) H (i := 0) rfl rfl ct74 rfl) ?_)
    refine l_yes rfl rfl (by exact congrArg Value.bool (decide_eq_false hc3)) (o_val (r_lens el74 rfl) ?_)
    refine l_yes rfl rfl (by exact congrArg Value.bool (decide_eq_false hc3)) (o_val (r_bin (a := (t.cs.len : Int)) (b := 8) rfl rfl (fun _ => b_gtr)) ?_)
    refine l_op (o_val (r_pick (b := false) (congrArg Value.bool (decide_eq_false hc3))) ?_)
    first | refine l_end ?_ | refine l_nil ?_
    by_cases hc4 : 8 < (t.cs.len : Int)
    ·
     repeat refine c_seq ?_
     refine c_yes (by exact congrArg Value.bool (decide_eq_true hc4)) ?_
     repeat refine c_seq ?_
     refine c_region ?_
     refine l_op (o_val (r_as) ?_)
     first | refine l_end ?_ | refine l_nil ?_
     refine c_ret ?_
     try dsimp only [Exit.then, Exit.inBlock]
     refine e_ret1 (v := .bool false) Try.results76 rfl ?_
     refine ⟨_, rfl, ?_⟩
     refine ⟨?_, H.sub (List.nil_sublist _)⟩
     have e : mayT t = false := Bool.eq_false_iff.2 fun h => by
       have h2 := (mayT_iff t).1 h
       have h3 := (rMay_iff _).1 h2.2.1
       omega
     rw [e]
    ·
     repeat refine c_seq ?_
     refine c_no (by exact congrArg Value.bool (decide_eq_false hc4)) ?_
     refine c_skip ?_
     repeat refine c_seq ?_
     refine c_region ?_
     refine l_op (o_val (r_as) ?_)
     first | refine l_end ?_ | refine l_nil ?_
     repeat refine c_seq ?_
     refine c_block ?_
     repeat refine c_seq ?_
     refine c_loop (fun (i : Nat) => [(1, .pointer (some ⟨b1, 0, none⟩)), (3, VI (i : Int))])
       (fun (i : Nat) w => (i ≤ t.cs.len ∧ ∀ (j : Nat) (c : Cav), j < i → t.cs.l[j]? = some c → rMay c.1 = true) ∧ Hp w0 w [] ([.blk b1 ([V64 t.serial, .string ⟨(t.tenant).toArray⟩, V8 t.rights, VI t.from_, VI t.until_, t.cs.v] ++ (t.tag).map V8) 76]))
       (fun (i : Nat) => t.cs.len - i) 0 ⟨rfl, rfl, trivial⟩ ⟨⟨Nat.zero_le _, fun j c hj => absurd hj (by omega)⟩, H⟩ ?_
     clear H
     rintro i τ w ⟨⟨hi, hall⟩, H⟩
     repeat refine c_seq ?_
     refine c_region ?_
     refine l_op (o_val (r_mv) ?_)
     refine l_op (o_val (r_fa rfl fo76_5) ?_)
     refine l_op (o_val (r_ld (v := t.cs.v) H (i := 0) rfl rfl ct74 rfl) ?_)
     refine l_op (o_val (r_lens el74 rfl) ?_)
     refine l_op (o_val (r_bin (a := (i : Int)) (b := (t.cs.len : Int)) rfl rfl (fun _ => b_lss)) ?_)
     first | refine l_end ?_ | refine l_nil ?_
     by_cases hc5 : (i : Int) < (t.cs.len : Int)
     ·
      repeat refine c_seq ?_
      refine c_yes (by exact congrArg Value.bool (decide_eq_true hc5)) ?_
      refine c_skip ?_
      repeat refine c_seq ?_
      refine c_block ?_
      repeat refine c_seq ?_
      refine c_region ?_
      refine l_op (o_val (r_fa rfl fo76_5) ?_)
      refine l_op (o_val (r_ld (v := t.cs.v) H (i := 0) rfl rfl ct74 rfl) ?_)
      refine l_op (o_val (r_mv) ?_)
      have ah8 := ((hc.up H)).addr (by decide) (by first | omega | (dsimp only; omega))
      obtain ⟨ab6, ao7, ah8⟩ := ah8
      refine l_op (o_val (r_isN i rfl rfl el74 ah8 (by omega) (by (try simp only [Sl.cut]); omega)) ?_)
      refine l_op (o_val (r_fa rfl fo78_0) ?_)
      have he10 : ∃ c, t.cs.l[i]? = some c := ⟨_, List.getElem?_eq_getElem (by have := ((hc.up H)).ln; (try dsimp only at this ⊢); omega)⟩
      obtain ⟨e9, he10⟩ := he10
      have hez11 := ((hc.up H)).sz e9 (List.mem_of_getElem? he10)
      refine l_op (o_val (r_ldFld (v := V8 e9.1) (s := t.cs) (k := i) (off := 0) (hc.up H) ah8 rfl ct73 he10 (by decide) rfl) ?_)
      refine l_op (o_val (r_bin (a := (e9.1.toNat : Int)) (b := 15) rfl rfl (fun _ => b_gtr)) ?_)
      first | refine l_end ?_ | refine l_nil ?_
      by_cases hc12 : 15 < (e9.1.toNat : Int)
      ·
       repeat refine c_seq ?_
       refine c_yes (by exact congrArg Value.bool (decide_eq_true hc12)) ?_
       repeat refine c_seq ?_
       refine c_region ?_
       refine l_op (o_val (r_as) ?_)
       first | refine l_end ?_ | refine l_nil ?_
       refine c_ret ?_
       try dsimp only [Exit.then, Exit.inBlock]
       refine e_ret1 (v := .bool false) Try.results76 rfl ?_
       refine ⟨_, rfl, ?_⟩
       refine ⟨?_, H.sub (List.nil_sublist _)⟩
       have e : mayT t = false := Bool.eq_false_iff.2 fun h => by
         have h2 := (mayT_iff t).1 h
         have h3 := (rMay_iff _).1 (h2.2.2.2 i e9 he10)
         omega
       rw [e]
      ·
       repeat refine c_seq ?_
       refine c_no (by exact congrArg Value.bool (decide_eq_false hc12)) ?_
       refine c_skip ?_
       repeat refine c_seq ?_
       refine c_region ?_
       refine l_op (o_val (r_mv) ?_)
       refine l_op (o_val (r_bin (a := (i : Int)) (b := 1) rfl rfl (fun _ => b_add (by omega) (by omega))) ?_)
       refine l_op (o_val (r_as) ?_)
       first | refine l_end ?_ | refine l_nil ?_
       refine round_end (i + 1) ?_ ?_ ?_
       · exact ⟨rfl, show VI ((i : Int) + 1) = VI ((i + 1 : Nat) : Int) from congrArg VI (by omega), trivial⟩
       · refine ⟨?_, ?_⟩
         · try dsimp only
           exact ⟨by omega, fun j c hj hjc => by
             by_cases hji : j < i
             · exact hall j c hji hjc
             · have e : j = i := by omega
               rw [e, he10] at hjc
               cases hjc
               exact (rMay_iff _).2 (by omega)⟩
         · exact H
       · show t.cs.len - (i + 1 : Nat) < t.cs.len - i; omega
     ·
      repeat refine c_seq ?_
      refine c_no (by exact congrArg Value.bool (decide_eq_false hc5)) ?_
      refine c_exit ?_
      repeat refine c_seq ?_
      refine c_region ?_
      refine l_op (o_val (r_as) ?_)
      first | refine l_end ?_ | refine l_nil ?_
      refine c_ret ?_
      try dsimp only [Exit.then, Exit.inBlock]
      refine e_ret1 (v := .bool true) Try.results76 rfl ?_
      refine ⟨_, rfl, ?_⟩
      refine ⟨?_, H.sub (List.nil_sublist _)⟩
      rw [(mayT_iff t).2 ⟨.inl (of_decide_eq_true (decide_eq_true hc2)), (rMay_iff _).2 (by omega), by omega, fun j c hj => hall j c (by have := hc.ln; have := (List.getElem?_eq_some_iff.1 hj).1; omega) hj⟩]
  ·
   refine l_yes rfl rfl (by exact congrArg Value.bool (congrArg not (decide_eq_false hc2))) (o_val (r_fa rfl fo76_1) ?_)
   refine l_yes rfl rfl (by exact congrArg Value.bool (congrArg not (decide_eq_false hc2))) (o_val (r_ld (v := .string ⟨(t.tenant).toArray⟩) H (i := 0) rfl rfl ct9 rfl) ?_)
   refine l_yes rfl rfl (by exact congrArg Value.bool (congrArg not (decide_eq_false hc2))) (o_callR Try.func124 rfl rfl rfl (nmay4_ret _ (t.tenant) (by omega)) ?_)
   rintro _ w ⟨rfl, Hc⟩
   replace H : Hp _ w _ ([_]) := H.call Hc
   clear Hc
   refine l_yes rfl rfl (by exact congrArg Value.bool (congrArg not (decide_eq_false hc2))) (o_val (r_not rfl) ?_)
   refine l_op (o_val (r_pick (b := true) (congrArg Value.bool (congrArg not (decide_eq_false hc2)))) ?_)
   refine l_op (o_val (r_mv) ?_)
   rcases Bool.eq_false_or_eq_true (nameMay (t.tenant)) with hc13 | hc13
   ·
    refine l_yes rfl rfl (by exact congrArg Value.bool (congrArg not hc13)) (o_val (r_fa rfl fo76_2) ?_)
    refine l_yes rfl rfl (by exact congrArg Value.bool (congrArg not hc13)) (o_val (r_ld (v := V8 t.rights) H (i := 0) rfl rfl ct73 rfl) ?_)
    refine l_yes rfl rfl (by exact congrArg Value.bool (congrArg not hc13)) (o_val (r_bin (a := (t.rights.toNat : Int)) (b := 15) rfl rfl (fun _ => b_gtr)) ?_)
    refine l_op (o_val (r_pick (b := false) (congrArg Value.bool (congrArg not hc13))) ?_)
    refine l_op (o_val (r_mv) ?_)
    by_cases hc14 : 15 < (t.rights.toNat : Int)
    ·
     refine l_no rfl rfl (by exact congrArg Value.bool (decide_eq_true hc14)) rfl ?_
     refine l_no rfl rfl (by exact congrArg Value.bool (decide_eq_true hc14)) rfl ?_
     refine l_no rfl rfl (by exact congrArg Value.bool (decide_eq_true hc14)) rfl ?_
     refine l_no rfl rfl (by exact congrArg Value.bool (decide_eq_true hc14)) rfl ?_
     refine l_op (o_val (r_pick (b := true) (congrArg Value.bool (decide_eq_true hc14))) ?_)
     first | refine l_end ?_ | refine l_nil ?_
     repeat refine c_seq ?_
     refine c_yes rfl ?_
     repeat refine c_seq ?_
     refine c_region ?_
     refine l_op (o_val (r_as) ?_)
     first | refine l_end ?_ | refine l_nil ?_
     refine c_ret ?_
     try dsimp only [Exit.then, Exit.inBlock]
     refine e_ret1 (v := .bool false) Try.results76 rfl ?_
     refine ⟨_, rfl, ?_⟩
     refine ⟨?_, H.sub (List.nil_sublist _)⟩
     have e : mayT t = false := Bool.eq_false_iff.2 fun h => by
       have h2 := (mayT_iff t).1 h
       have h3 := (rMay_iff _).1 h2.2.1
       omega
     rw [e]
    ·
     refine l_yes rfl rfl (by exact congrArg Value.bool (decide_eq_false hc14)) (o_val (r_fa rfl fo76_5) ?_)
     refine l_yes rfl rfl (by exact congrArg Value.bool (decide_eq_false hc14)) (o_val (r_ld (v := t.cs.v) H (i := 0) rfl rfl ct74 rfl) ?_)
     refine l_yes rfl rfl (by exact congrArg Value.bool (decide_eq_false hc14)) (o_val (r_lens el74 rfl) ?_)
     refine l_yes rfl rfl (by exact congrArg Value.bool (decide_eq_false hc14)) (o_val (r_bin (a := (t.cs.len : Int)) (b := 8) rfl rfl (fun _ => b_gtr)) ?_)
     refine l_op (o_val (r_pick (b := false) (congrArg Value.bool (decide_eq_false hc14))) ?_)
     first | refine l_end ?_ | refine l_nil ?_
     by_cases hc15 : 8 < (t.cs.len : Int)
     ·
      repeat refine c_seq ?_
      refine c_yes (by exact congrArg Value.bool (decide_eq_true hc15)) ?_
      repeat refine c_seq ?_
      refine c_region ?_
      refine l_op (o_val (r_as) ?_)
      first | refine l_end ?_ | refine l_nil ?_
      refine c_ret ?_
      try dsimp only [Exit.then, Exit.inBlock]
      refine e_ret1 (v := .bool false) Try.results76 rfl ?_
      refine ⟨_, rfl, ?_⟩
      refine ⟨?_, H.sub (List.nil_sublist _)⟩
      have e : mayT t = false := Bool.eq_false_iff.2 fun h => by
        have h2 := (mayT_iff t).1 h
        have h3 := (rMay_iff _).1 h2.2.1
        omega
      rw [e]
     ·
      repeat refine c_seq ?_
      refine c_no (by exact congrArg Value.bool (decide_eq_false hc15)) ?_
      refine c_skip ?_
      repeat refine c_seq ?_
      refine c_region ?_
      refine l_op (o_val (r_as) ?_)
      first | refine l_end ?_ | refine l_nil ?_
      repeat refine c_seq ?_
      refine c_block ?_
      repeat refine c_seq ?_
      refine c_loop (fun (i : Nat) => [(1, .pointer (some ⟨b1, 0, none⟩)), (3, VI (i : Int))])
        (fun (i : Nat) w => (i ≤ t.cs.len ∧ ∀ (j : Nat) (c : Cav), j < i → t.cs.l[j]? = some c → rMay c.1 = true) ∧ Hp w0 w [] ([.blk b1 ([V64 t.serial, .string ⟨(t.tenant).toArray⟩, V8 t.rights, VI t.from_, VI t.until_, t.cs.v] ++ (t.tag).map V8) 76]))
        (fun (i : Nat) => t.cs.len - i) 0 ⟨rfl, rfl, trivial⟩ ⟨⟨Nat.zero_le _, fun j c hj => absurd hj (by omega)⟩, H⟩ ?_
      clear H
      rintro i τ w ⟨⟨hi, hall⟩, H⟩
      repeat refine c_seq ?_
      refine c_region ?_
      refine l_op (o_val (r_mv) ?_)
      refine l_op (o_val (r_fa rfl fo76_5) ?_)
      refine l_op (o_val (r_ld (v := t.cs.v) H (i := 0) rfl rfl ct74 rfl) ?_)
      refine l_op (o_val (r_lens el74 rfl) ?_)
      refine l_op (o_val (r_bin (a := (i : Int)) (b := (t.cs.len : Int)) rfl rfl (fun _ => b_lss)) ?_)
      first | refine l_end ?_ | refine l_nil ?_
      by_cases hc16 : (i : Int) < (t.cs.len : Int)
      ·
       repeat refine c_seq ?_
       refine c_yes (by exact congrArg Value.bool (decide_eq_true hc16)) ?_
       refine c_skip ?_
       repeat refine c_seq ?_
       refine c_block ?_
       repeat refine c_seq ?_
       refine c_region ?_
       refine l_op (o_val (r_fa rfl fo76_5) ?_)
       refine l_op (o_val (r_ld (v := t.cs.v) H (i := 0) rfl rfl ct74 rfl) ?_)
       refine l_op (o_val (r_mv) ?_)
       have ah19 := ((hc.up H)).addr (by decide) (by first | omega | (dsimp only; omega))
       obtain ⟨ab17, ao18, ah19⟩ := ah19
       refine l_op (o_val (r_isN i rfl rfl el74 ah19 (by omega) (by (try simp only [Sl.cut]); omega)) ?_)
       refine l_op (o_val (r_fa rfl fo78_0) ?_)
       have he21 : ∃ c, t.cs.l[i]? = some c := ⟨_, List.getElem?_eq_getElem (by have := ((hc.up H)).ln; (try dsimp only at this ⊢); omega)⟩
       obtain ⟨e20, he21⟩ := he21
       have hez22 := ((hc.up H)).sz e20 (List.mem_of_getElem? he21)
       refine l_op (o_val (r_ldFld (v := V8 e20.1) (s := t.cs) (k := i) (off := 0) (hc.up H) ah19 rfl ct73 he21 (by decide) rfl) ?_)
       refine l_op (o_val (r_bin (a := (e20.1.toNat : Int)) (b := 15) rfl rfl (fun _ => b_gtr)) ?_)
       first | refine l_end ?_ | refine l_nil ?_
       by_cases hc23 : 15 < (e20.1.toNat : Int)
       ·
        repeat refine c_seq ?_
        refine c_yes (by exact congrArg Value.bool (decide_eq_true hc23)) ?_
        repeat refine c_seq ?_
        refine c_region ?_
        refine l_op (o_val (r_as) ?_)
        first | refine l_end ?_ | refine l_nil ?_
        refine c_ret ?_
        try dsimp only [Exit.then, Exit.inBlock]
        refine e_ret1 (v := .bool false) Try.results76 rfl ?_
        refine ⟨_, rfl, ?_⟩
        refine ⟨?_, H.sub (List.nil_sublist _)⟩
        have e : mayT t = false := Bool.eq_false_iff.2 fun h => by
          have h2 := (mayT_iff t).1 h
          have h3 := (rMay_iff _).1 (h2.2.2.2 i e20 he21)
          omega
        rw [e]
       ·
        repeat refine c_seq ?_
        refine c_no (by exact congrArg Value.bool (decide_eq_false hc23)) ?_
        refine c_skip ?_
        repeat refine c_seq ?_
        refine c_region ?_
        refine l_op (o_val (r_mv) ?_)
        refine l_op (o_val (r_bin (a := (i : Int)) (b := 1) rfl rfl (fun _ => b_add (by omega) (by omega))) ?_)
        refine l_op (o_val (r_as) ?_)
        first | refine l_end ?_ | refine l_nil ?_
        refine round_end (i + 1) ?_ ?_ ?_
        · exact ⟨rfl, show VI ((i : Int) + 1) = VI ((i + 1 : Nat) : Int) from congrArg VI (by omega), trivial⟩
        · refine ⟨?_, ?_⟩
          · try dsimp only
            exact ⟨by omega, fun j c hj hjc => by
              by_cases hji : j < i
              · exact hall j c hji hjc
              · have e : j = i := by omega
                rw [e, he21] at hjc
                cases hjc
                exact (rMay_iff _).2 (by omega)⟩
          · exact H
        · show t.cs.len - (i + 1 : Nat) < t.cs.len - i; omega
      ·
       repeat refine c_seq ?_
       refine c_no (by exact congrArg Value.bool (decide_eq_false hc16)) ?_
       refine c_exit ?_
       repeat refine c_seq ?_
       refine c_region ?_
       refine l_op (o_val (r_as) ?_)
       first | refine l_end ?_ | refine l_nil ?_
       refine c_ret ?_
       try dsimp only [Exit.then, Exit.inBlock]
       refine e_ret1 (v := .bool true) Try.results76 rfl ?_
       refine ⟨_, rfl, ?_⟩
       refine ⟨?_, H.sub (List.nil_sublist _)⟩
       rw [(mayT_iff t).2 ⟨.inr hc13, (rMay_iff _).2 (by omega), by omega, fun j c hj => hall j c (by have := hc.ln; have := (List.getElem?_eq_some_iff.1 hj).1; omega) hj⟩]
   ·
    refine l_no rfl rfl (by exact congrArg Value.bool (congrArg not hc13)) rfl ?_
    refine l_no rfl rfl (by exact congrArg Value.bool (congrArg not hc13)) rfl ?_
    refine l_no rfl rfl (by exact congrArg Value.bool (congrArg not hc13)) rfl ?_
    refine l_op (o_val (r_pick (b := true) (congrArg Value.bool (congrArg not hc13))) ?_)
    refine l_op (o_val (r_mv) ?_)
    refine l_no rfl rfl rfl rfl ?_
    refine l_no rfl rfl rfl rfl ?_
    refine l_no rfl rfl rfl rfl ?_
    refine l_no rfl rfl rfl rfl ?_
    refine l_op (o_val (r_pick rfl) ?_)
    first | refine l_end ?_ | refine l_nil ?_
    repeat refine c_seq ?_
    refine c_yes rfl ?_
    repeat refine c_seq ?_
    refine c_region ?_
    refine l_op (o_val (r_as) ?_)
    first | refine l_end ?_ | refine l_nil ?_
    refine c_ret ?_
    try dsimp only [Exit.then, Exit.inBlock]
    refine e_ret1 (v := .bool false) Try.results76 rfl ?_
    refine ⟨_, rfl, ?_⟩
    refine ⟨?_, H.sub (List.nil_sublist _)⟩
    have e : mayT t = false := Bool.eq_false_iff.2 fun h => by
      have h2 := (mayT_iff t).1 h
      rcases h2.1 with h3 | h3
      · exact absurd h3 (of_decide_eq_false (decide_eq_false hc2))
      · rw [hc13] at h3; cases h3
    rw [e]
theorem caveat14_ret (w0 : World) (c : Cav) (h1 : -9223372036854775808 ≤ c.2 ∧ c.2 ≤ 9223372036854775807) :
    Ret Try.prog 120 [.agg ([V8 c.1, VI c.2]).toArray] w0 fun v w' => ∃ a k, v = .slice (hd a) 9 k ∧ Hp w0 w' [] [.own a 9 k ((cavB c).map V8) 5 1] := by
  refine ret_mk Try.func120 rfl Try.ntmps120 (by simp) ?_
  have H := Hp.refl w0 []
  repeat refine c_seq ?_
  refine c_region ?_
  refine l_op (o_box (v := .agg ([V8 c.1, VI c.2]).toArray) H rfl (fun b1 w H hb1 => ?_))
  replace H : Hp _ w _ ([.blk b1 ([V8 c.1, VI c.2]) 78]) := H
  refine l_op (o_val (r_as) ?_)
  first | refine l_end ?_ | refine l_nil ?_
  repeat refine c_seq ?_
  refine wp_held (fun w => Hp w0 w [] [.blk b1 ([V8 c.1, VI c.2]) 78]) mixed ?_
  replace H := H.drew
  have HS := H
  refine t_take 0 rfl (by kernel_rfl) (by kernel_rfl) (by kernel_rfl) (fun _ _ _ h => h) (fun w HS => r_fa rfl fo78_0) HS ?_
  refine t_take 1 rfl (by kernel_rfl) (by kernel_rfl) (by kernel_rfl) (fun _ _ _ h => h) (fun w HS => r_ld (v := V8 c.1) HS (i := 0) rfl rfl ct73 rfl) HS ?_
  refine t_take 3 rfl (by kernel_rfl) (by kernel_rfl) (by kernel_rfl) (fun _ _ _ h => h) (fun w HS => r_fa rfl fo78_1) HS ?_
  refine t_take 4 rfl (by kernel_rfl) (by kernel_rfl) (by kernel_rfl) (fun _ _ _ h => h) (fun w HS => r_ld (v := VI c.2) HS (i := 0) rfl rfl ct2 rfl) HS ?_
  refine t_all [2, 5] (by kernel_rfl) (by simp) (all_cons (w_op 2 rfl ?_) (all_cons (w_op 5 rfl ?_) (all_nil)))
  ·
   refine (o_bslB ([c.1]) H sl29 zc5 rfl rfl (by decide) (fun b2 w H hb2 => ?_))
   replace H : Hp _ w _ ([_, .own (some b2) 1 1 (([c.1]).map V8) 5 1]) := H
   refine ⟨H.sub (.cons_cons _ (List.nil_sublist _)), ?_⟩
   replace HS := H.sub (.cons_cons _ (List.nil_sublist _))
   refine t_step 5 rfl (by kernel_rfl) (o_callR Try.func142 rfl rfl rfl (zig1_ret _ (c.2) (by omega) (by omega)) ?_)
   rintro _ w ⟨rfl, Hc⟩
   replace H : Hp _ w _ ([_, _]) := H.call Hc
   clear Hc
   refine ⟨H.sub (.cons_cons _ (List.nil_sublist _)), ?_⟩
   replace HS := H.sub (.cons_cons _ (List.nil_sublist _))
   refine t_step 6 rfl (by kernel_rfl) (o_callR Try.func55 rfl rfl rfl (eight_ret _ (zigU (c.2))) ?_)
   rintro _ w ⟨a3, c4, rfl, Hc⟩
   replace H : Hp _ w _ ([_, _, .own a3 8 c4 ((be (zigU (c.2)).toNat 8).map V8) 5 1]) := H.call Hc
   clear Hc
   refine ⟨H.sub (.cons_cons _ (List.nil_sublist _)), ?_⟩
   replace HS := H.sub (.cons_cons _ (List.nil_sublist _))
   refine t_step 7 rfl (by kernel_rfl) (o_appB (s := ⟨hd a3, 8, c4, be (zigU (c.2)).toNat 8⟩) (l' := [c.1] ++ (be (zigU (c.2)).toNat 8)) (len' := 9) rfl rfl H (i := 1) rfl sl29 Try.underlying29 rfl rfl (H.slOwn (i := 2) rfl) (by omega) (fun a5 c6 w H => ?_))
   replace H : Hp _ w _ ([_, .own a5 9 c6 (([c.1] ++ (be (zigU (c.2)).toNat 8)).map V8) 5 1, _]) := H
   refine ⟨H.sub (.cons_cons _ (List.nil_sublist _)), ?_⟩
   replace HS := H.sub (.cons_cons _ (List.nil_sublist _))
   refine t_take 8 rfl (by kernel_rfl) (by kernel_rfl) (by kernel_rfl) (fun _ _ _ h => h) (fun w HS => r_as) HS ?_
   refine t_done (by kernel_rfl) ?_
   clear HS
   refine c_ret ?_
   try dsimp only [Exit.then, Exit.inBlock]
   refine e_ret1 (v := .slice (hd a5) 9 c6) Try.results120 rfl ?_
   refine ⟨_, rfl, ?_⟩
   exact ⟨_, _, rfl, H.sub (.cons _ (.cons_cons _ (List.nil_sublist _)))⟩
  ·
   refine (o_callR Try.func142 rfl rfl rfl (zig1_ret _ (c.2) (by omega) (by omega)) ?_)
   rintro _ w ⟨rfl, Hc⟩
   replace H : Hp _ w _ ([_]) := H.call Hc
   clear Hc
   refine ⟨H, ?_⟩
   replace HS := H
   refine t_all [2, 6] (by kernel_rfl) (by simp) (all_cons (w_op 2 rfl ?_) (all_cons (w_op 6 rfl ?_) (all_nil)))
   ·
    refine (o_bslB ([c.1]) H sl29 zc5 rfl rfl (by decide) (fun b7 w H hb7 => ?_))
    replace H : Hp _ w _ ([_, .own (some b7) 1 1 (([c.1]).map V8) 5 1]) := H
    refine ⟨H.sub (.cons_cons _ (List.nil_sublist _)), ?_⟩
    replace HS := H.sub (.cons_cons _ (List.nil_sublist _))
    refine t_step 6 rfl (by kernel_rfl) (o_callR Try.func55 rfl rfl rfl (eight_ret _ (zigU (c.2))) ?_)
    rintro _ w ⟨a8, c9, rfl, Hc⟩
    replace H : Hp _ w _ ([_, _, .own a8 8 c9 ((be (zigU (c.2)).toNat 8).map V8) 5 1]) := H.call Hc
    clear Hc
    refine ⟨H.sub (.cons_cons _ (List.nil_sublist _)), ?_⟩
    replace HS := H.sub (.cons_cons _ (List.nil_sublist _))
    refine t_step 7 rfl (by kernel_rfl) (o_appB (s := ⟨hd a8, 8, c9, be (zigU (c.2)).toNat 8⟩) (l' := [c.1] ++ (be (zigU (c.2)).toNat 8)) (len' := 9) rfl rfl H (i := 1) rfl sl29 Try.underlying29 rfl rfl (H.slOwn (i := 2) rfl) (by omega) (fun a10 c11 w H => ?_))
    replace H : Hp _ w _ ([_, .own a10 9 c11 (([c.1] ++ (be (zigU (c.2)).toNat 8)).map V8) 5 1, _]) := H
    refine ⟨H.sub (.cons_cons _ (List.nil_sublist _)), ?_⟩
    replace HS := H.sub (.cons_cons _ (List.nil_sublist _))
    refine t_take 8 rfl (by kernel_rfl) (by kernel_rfl) (by kernel_rfl) (fun _ _ _ h => h) (fun w HS => r_as) HS ?_
    refine t_done (by kernel_rfl) ?_
    clear HS
    refine c_ret ?_
    try dsimp only [Exit.then, Exit.inBlock]
    refine e_ret1 (v := .slice (hd a10) 9 c11) Try.results120 rfl ?_
    refine ⟨_, rfl, ?_⟩
    exact ⟨_, _, rfl, H.sub (.cons _ (.cons_cons _ (List.nil_sublist _)))⟩
   ·
    refine (o_callR Try.func55 rfl rfl rfl (eight_ret _ (zigU (c.2))) ?_)
    rintro _ w ⟨a12, c13, rfl, Hc⟩
    replace H : Hp _ w _ ([_, .own a12 8 c13 ((be (zigU (c.2)).toNat 8).map V8) 5 1]) := H.call Hc
    clear Hc
    refine ⟨H.sub (.cons_cons _ (List.nil_sublist _)), ?_⟩
    replace HS := H.sub (.cons_cons _ (List.nil_sublist _))
    refine t_step 2 rfl (by kernel_rfl) (o_bslB ([c.1]) H sl29 zc5 rfl rfl (by decide) (fun b14 w H hb14 => ?_))
    replace H : Hp _ w _ ([_, _, .own (some b14) 1 1 (([c.1]).map V8) 5 1]) := H
    refine ⟨H.sub (.cons_cons _ (List.nil_sublist _)), ?_⟩
    replace HS := H.sub (.cons_cons _ (List.nil_sublist _))
    refine t_step 7 rfl (by kernel_rfl) (o_appB (s := ⟨hd a12, 8, c13, be (zigU (c.2)).toNat 8⟩) (l' := [c.1] ++ (be (zigU (c.2)).toNat 8)) (len' := 9) rfl rfl H (i := 2) rfl sl29 Try.underlying29 rfl rfl (H.slOwn (i := 1) rfl) (by omega) (fun a15 c16 w H => ?_))
    replace H : Hp _ w _ ([_, _, .own a15 9 c16 (([c.1] ++ (be (zigU (c.2)).toNat 8)).map V8) 5 1]) := H
    refine ⟨H.sub (.cons_cons _ (List.nil_sublist _)), ?_⟩
    replace HS := H.sub (.cons_cons _ (List.nil_sublist _))
    refine t_take 8 rfl (by kernel_rfl) (by kernel_rfl) (by kernel_rfl) (fun _ _ _ h => h) (fun w HS => r_as) HS ?_
    refine t_done (by kernel_rfl) ?_
    clear HS
    refine c_ret ?_
    try dsimp only [Exit.then, Exit.inBlock]
    refine e_ret1 (v := .slice (hd a15) 9 c16) Try.results120 rfl ?_
    refine ⟨_, rfl, ?_⟩
    exact ⟨_, _, rfl, H.sub (.cons _ (.cons _ (.cons_cons _ (List.nil_sublist _))))⟩
theorem head14_ret (w0 : World) (t : Tok) (_hc : t.cs.ok cavE 2 w0) (_htag : t.tag.length = 32) (hn : t.tenant.length ≤ 65536) (hb : t.bd) :
    Ret Try.prog 126 [.agg ([V64 t.serial, .string ⟨(t.tenant).toArray⟩, V8 t.rights, VI t.from_, VI t.until_, t.cs.v] ++ (t.tag).map V8).toArray] w0 fun v w' => ∃ a n c, v = .slice (hd a) n c ∧ n ≤ t.tenant.length + 64 ∧ t.head.length = n ∧ Hp w0 w' [] [.own a n c (t.head.map V8) 5 1] := by
  refine ret_mk Try.func126 rfl Try.ntmps126 (by simp) ?_
  have H := Hp.refl w0 []
  have hbf := hb.f
  have hbu := hb.u
  repeat refine c_seq ?_
  refine c_region ?_
  refine l_op (o_box (v := .agg ([V64 t.serial, .string ⟨(t.tenant).toArray⟩, V8 t.rights, VI t.from_, VI t.until_, t.cs.v] ++ (t.tag).map V8).toArray) H rfl (fun b1 w H hb1 => ?_))
  replace H : Hp _ w _ ([.blk b1 ([V64 t.serial, .string ⟨(t.tenant).toArray⟩, V8 t.rights, VI t.from_, VI t.until_, t.cs.v] ++ (t.tag).map V8) 76]) := H
  refine l_op (o_val (r_as) ?_)
  first | refine l_end ?_ | refine l_nil ?_
  repeat refine c_seq ?_
  refine c_region ?_
  refine l_op (o_val (r_fa rfl fo76_0) ?_)
  refine l_op (o_val (r_ld (v := V64 t.serial) H (i := 0) rfl rfl ct35 rfl) ?_)
  refine l_op (o_callR Try.func55 rfl rfl rfl (eight_ret _ (t.serial)) ?_)
  rintro _ w ⟨a2, c3, rfl, Hc⟩
  replace H : Hp _ w _ ([_, .own a2 8 c3 ((be (t.serial).toNat 8).map V8) 5 1]) := H.call Hc
  clear Hc
  refine l_op (o_val (r_as) ?_)
  first | refine l_end ?_ | refine l_nil ?_
  repeat refine c_seq ?_
  refine c_region ?_
  refine l_op (o_val (r_mv) ?_)
  refine l_op (o_val (r_fa rfl fo76_1) ?_)
  refine l_op (o_val (r_ld (v := .string ⟨(t.tenant).toArray⟩) H (i := 0) rfl rfl ct9 rfl) ?_)
  refine l_op (o_s2B (l := t.tenant) H Try.underlying9 Try.underlying29 Try.underlying5 rfl (by omega) (fun b4 c5 ob6 w H hb4 hr7 => ?_))
  replace H : Hp _ w _ ([_, _, .obj b4 ob6]) := H
  refine l_op (o_callR Try.func145 rfl rfl rfl (text1_ret _ ⟨hd a2, 8, c3, be (t.serial).toNat 8⟩ (⟨some ⟨b4, 0, none⟩, (t.tenant).length, c5, t.tenant⟩ : Sl) (H.slOwn (i := 1) rfl) (hr7 _ (H.has (.obj b4 ob6) (by simp))) (by (try simp only []); omega) (by (try simp only []); omega)) ?_)
  rintro _ w ⟨a8, n9, c10, rfl, hn11, Hc⟩
  replace H : Hp _ w _ ([_, _, _, .own a8 n9 c10 ((be (t.serial).toNat 8 ++ cnt ((t.tenant).length) ++ t.tenant).map V8) 5 1]) := H.call Hc
  clear Hc
  try dsimp only at hn11
  refine l_op (o_val (r_mv) ?_)
  refine l_op (o_val (r_ext rfl rfl) ?_)
  refine l_op (o_val (r_ext rfl rfl) ?_)
  refine l_op (o_val (r_as) ?_)
  first | refine l_end ?_ | refine l_nil ?_
  repeat refine c_seq ?_
  refine c_region ?_
  refine l_op (o_val (r_mv) ?_)
  refine l_op (o_val (r_fa rfl fo76_2) ?_)
  refine l_op (o_val (r_ld (v := V8 t.rights) H (i := 0) rfl rfl ct73 rfl) ?_)
  refine l_op (o_bslB ([t.rights]) H sl29 zc5 rfl rfl (by decide) (fun b12 w H hb12 => ?_))
  replace H : Hp _ w _ ([_, _, _, _, .own (some b12) 1 1 (([t.rights]).map V8) 5 1]) := H
  refine l_op (o_appB (s := ⟨hd (some b12), 1, 1, [t.rights]⟩) (l' := be (t.serial).toNat 8 ++ cnt ((t.tenant).length) ++ t.tenant ++ ([t.rights])) (len' := n9 + 1) rfl rfl H (i := 3) rfl sl29 Try.underlying29 rfl rfl (H.slOwn (i := 4) rfl) (by omega) (fun a13 c14 w H => ?_))
  replace H : Hp _ w _ ([_, _, _, .own a13 (n9 + 1) c14 ((be (t.serial).toNat 8 ++ cnt ((t.tenant).length) ++ t.tenant ++ ([t.rights])).map V8) 5 1, _]) := H
  refine l_op (o_val (r_as) ?_)
  first | refine l_end ?_ | refine l_nil ?_
  repeat refine c_seq ?_
  refine c_region ?_
  refine l_op (o_val (r_mv) ?_)
  refine l_op (o_val (r_fa rfl fo76_3) ?_)
  refine l_op (o_val (r_ld (v := VI t.from_) H (i := 0) rfl rfl ct2 rfl) ?_)
  refine l_op (o_callR Try.func142 rfl rfl rfl (zig1_ret _ (t.from_) (by omega) (by omega)) ?_)
  rintro _ w ⟨rfl, Hc⟩
  replace H : Hp _ w _ ([_, _, _, _, _]) := H.call Hc
  clear Hc
  refine l_op (o_callR Try.func55 rfl rfl rfl (eight_ret _ (zigU (t.from_))) ?_)
  rintro _ w ⟨a15, c16, rfl, Hc⟩
  replace H : Hp _ w _ ([_, _, _, _, _, .own a15 8 c16 ((be (zigU (t.from_)).toNat 8).map V8) 5 1]) := H.call Hc
  clear Hc
  refine l_op (o_appB (s := ⟨hd a15, 8, c16, be (zigU (t.from_)).toNat 8⟩) (l' := be (t.serial).toNat 8 ++ cnt ((t.tenant).length) ++ t.tenant ++ ([t.rights]) ++ (be (zigU (t.from_)).toNat 8)) (len' := n9 + 1 + 8) rfl rfl H (i := 3) rfl sl29 Try.underlying29 rfl rfl (H.slOwn (i := 5) rfl) (by omega) (fun a17 c18 w H => ?_))
  replace H : Hp _ w _ ([_, _, _, .own a17 (n9 + 1 + 8) c18 ((be (t.serial).toNat 8 ++ cnt ((t.tenant).length) ++ t.tenant ++ ([t.rights]) ++ (be (zigU (t.from_)).toNat 8)).map V8) 5 1, _, _]) := H
  refine l_op (o_val (r_as) ?_)
  first | refine l_end ?_ | refine l_nil ?_
  repeat refine c_seq ?_
  refine c_region ?_
  refine l_op (o_val (r_mv) ?_)
  refine l_op (o_val (r_fa rfl fo76_4) ?_)
  refine l_op (o_val (r_ld (v := VI t.until_) H (i := 0) rfl rfl ct2 rfl) ?_)
  refine l_op (o_callR Try.func142 rfl rfl rfl (zig1_ret _ (t.until_) (by omega) (by omega)) ?_)
  rintro _ w ⟨rfl, Hc⟩
  replace H : Hp _ w _ ([_, _, _, _, _, _]) := H.call Hc
  clear Hc
  refine l_op (o_callR Try.func55 rfl rfl rfl (eight_ret _ (zigU (t.until_))) ?_)
  rintro _ w ⟨a19, c20, rfl, Hc⟩
  replace H : Hp _ w _ ([_, _, _, _, _, _, .own a19 8 c20 ((be (zigU (t.until_)).toNat 8).map V8) 5 1]) := H.call Hc
  clear Hc
  refine l_op (o_appB (s := ⟨hd a19, 8, c20, be (zigU (t.until_)).toNat 8⟩) (l' := be (t.serial).toNat 8 ++ cnt ((t.tenant).length) ++ t.tenant ++ ([t.rights]) ++ (be (zigU (t.from_)).toNat 8) ++ (be (zigU (t.until_)).toNat 8)) (len' := n9 + 1 + 8 + 8) rfl rfl H (i := 3) rfl sl29 Try.underlying29 rfl rfl (H.slOwn (i := 6) rfl) (by omega) (fun a21 c22 w H => ?_))
  replace H : Hp _ w _ ([_, _, _, .own a21 (n9 + 1 + 8 + 8) c22 ((be (t.serial).toNat 8 ++ cnt ((t.tenant).length) ++ t.tenant ++ ([t.rights]) ++ (be (zigU (t.from_)).toNat 8) ++ (be (zigU (t.until_)).toNat 8)).map V8) 5 1, _, _, _]) := H
  refine l_op (o_val (r_as) ?_)
  first | refine l_end ?_ | refine l_nil ?_
  refine c_ret ?_
  try dsimp only [Exit.then, Exit.inBlock]
  refine e_ret1 (v := .slice (hd a21) (n9 + 1 + 8 + 8) c22) Try.results126 rfl ?_
  refine ⟨_, rfl, ?_⟩
  have e : be (t.serial).toNat 8 ++ cnt ((t.tenant).length) ++ t.tenant ++ ([t.rights]) ++ (be (zigU (t.from_)).toNat 8) ++ (be (zigU (t.until_)).toNat 8) = t.head := by simp [Tok.head, headB, timeB]
  rw [e] at H
  have hh := (H.ownLen (i := 3) rfl).1
  exact ⟨_, _, _, rfl, by omega, by simpa using hh, H.sub (.cons _ (.cons _ (.cons _ (.cons_cons _ (List.nil_sublist _)))))⟩
end Go.Proofs.Ytjmbbhnpfmblpaa
namespace Go.Proofs.Ytjmbbhnpfmblpaa
open Go
set_option maxRecDepth 100000
theorem bytes14_ok (w0 : World) (t : Tok) (hc : t.cs.ok cavE 2 w0) (htag : t.tag.length = 32) (hn : t.tenant.length ≤ 65536) (hb : t.bd) (hm : mayT t = true) :
    Ret Try.prog 82 [.agg ([V64 t.serial, .string ⟨(t.tenant).toArray⟩, V8 t.rights, VI t.from_, VI t.until_, t.cs.v] ++ (t.tag).map V8).toArray] w0 fun v w' => ∃ a n k, v = .tuple #[.slice (hd a) n k, VI 0] ∧ n ≤ t.tenant.length + 200 ∧ Hp w0 w' [] [.own a n k (t.bytes.map V8) 5 1] := by
  refine ret_mk Try.func82 rfl Try.ntmps82 (by simp) ?_
  have H := Hp.refl w0 []
  have hcl := hc.ln
  have hxl := hc.le
  have hxm := hc.mx
  have hmL : maxLen = 9223372036854775807 := rfl
  have h8 := ((mayT_iff t).1 hm).2.2.1
  repeat refine c_seq ?_
  refine c_region ?_
  refine l_op (o_box (v := .agg ([V64 t.serial, .string ⟨(t.tenant).toArray⟩, V8 t.rights, VI t.from_, VI t.until_, t.cs.v] ++ (t.tag).map V8).toArray) H rfl (fun b1 w H hb1 => ?_))
  replace H : Hp _ w _ ([.blk b1 ([V64 t.serial, .string ⟨(t.tenant).toArray⟩, V8 t.rights, VI t.from_, VI t.until_, t.cs.v] ++ (t.tag).map V8) 76]) := H
  refine l_op (o_val (r_as) ?_)
  refine l_op (o_val (r_as) ?_)
  first | refine l_end ?_ | refine l_nil ?_
  repeat refine c_seq ?_
  refine c_region ?_
  refine l_op (o_val (r_ldA (C := [V64 t.serial, .string ⟨(t.tenant).toArray⟩, V8 t.rights, VI t.from_, VI t.until_, t.cs.v] ++ (t.tag).map V8) H (i := 0) rfl rfl rt76 (by rw [List.length_append, List.length_map, (show (t.tag).length = 32 from htag)]; rfl)) ?_)
  refine l_op (o_callR Try.func76 rfl rfl rfl (may14_ret _ t (hc.up H) (show (t.tag).length = 32 from htag) (by first | omega | (dsimp only; omega) | simp)) ?_)
  rintro _ w ⟨rfl, Hc⟩
  replace H : Hp _ w _ ([_]) := H.call Hc
  clear Hc
  have hk2 : (mayT t) = true := hm
  refine l_op (o_val (r_not rfl) ?_)
  first | refine l_end ?_ | refine l_nil ?_
  repeat refine c_seq ?_
  refine c_no (by exact congrArg Value.bool (congrArg not hk2)) ?_
  refine c_skip ?_
  repeat refine c_seq ?_
  refine wp_held (fun w => Hp w0 w [] [.blk b1 ([V64 t.serial, .string ⟨(t.tenant).toArray⟩, V8 t.rights, VI t.from_, VI t.until_, t.cs.v] ++ (t.tag).map V8) 76]) mixed ?_
  replace H := H.drew
  have HS := H
  refine t_take 1 rfl (by kernel_rfl) (by kernel_rfl) (by kernel_rfl) (fun _ _ _ h => h) (fun w HS => r_ldA (C := [V64 t.serial, .string ⟨(t.tenant).toArray⟩, V8 t.rights, VI t.from_, VI t.until_, t.cs.v] ++ (t.tag).map V8) HS (i := 0) rfl rfl rt76 (by rw [List.length_append, List.length_map, (show (t.tag).length = 32 from htag)]; rfl)) HS ?_
  refine t_take 4 rfl (by kernel_rfl) (by kernel_rfl) (by kernel_rfl) (fun _ _ _ h => h) (fun w HS => r_fa rfl fo76_5) HS ?_
  refine t_take 5 rfl (by kernel_rfl) (by kernel_rfl) (by kernel_rfl) (fun _ _ _ h => h) (fun w HS => r_ld (v := t.cs.v) HS (i := 0) rfl rfl ct74 rfl) HS ?_
  refine t_take 6 rfl (by kernel_rfl) (by kernel_rfl) (by kernel_rfl) (fun _ _ _ h => h) (fun w HS => r_lens el74 rfl) HS ?_
  refine t_take 7 rfl (by kernel_rfl) (by kernel_rfl) (by kernel_rfl) (fun _ _ _ h => h) (fun w HS => r_conv (v := ((UInt8.ofNat t.cs.len).toNat : Int)) Try.underlying3 Try.underlying5 rfl (w_u8_N t.cs.len (by omega))) HS ?_
  refine t_all [0, 2, 8] (by kernel_rfl) (by simp) (all_cons (w_op 0 rfl ?_) (all_cons (w_op 2 rfl ?_) (all_cons (w_op 8 rfl ?_) (all_nil))))
  ·
   refine (o_bslB ([(1 : UInt8)]) H sl29 zc5 rfl rfl (by decide) (fun b3 w H hb3 => ?_))
   replace H : Hp _ w _ ([_, .own (some b3) 1 1 (([(1 : UInt8)]).map V8) 5 1]) := H
   refine ⟨H.sub (.cons_cons _ (List.nil_sublist _)), ?_⟩
   replace HS := H.sub (.cons_cons _ (List.nil_sublist _))
   refine t_all [2, 8] (by kernel_rfl) (by simp) (all_cons (w_op 2 rfl ?_) (all_cons (w_op 8 rfl ?_) (all_nil)))
   ·
    refine (o_callR Try.func126 rfl rfl rfl (head14_ret _ t (hc.up H) (show (t.tag).length = 32 from htag) (by first | omega | (dsimp only; omega) | simp) hb) ?_)
    rintro _ w ⟨a4, n5, c6, rfl, hn7, hh8, Hc⟩
    replace H : Hp _ w _ ([_, _, .own a4 n5 c6 ((t.head).map V8) 5 1]) := H.call Hc
    clear Hc
    try dsimp only at hn7
    refine ⟨H.sub (.cons_cons _ (List.nil_sublist _)), ?_⟩
    replace HS := H.sub (.cons_cons _ (List.nil_sublist _))
    refine t_all [3, 8] (by kernel_rfl) (by simp) (all_cons (w_op 3 rfl ?_) (all_cons (w_op 8 rfl ?_) (all_nil)))
    ·
     refine (o_appB (s := ⟨hd a4, n5, c6, t.head⟩) (l' := [(1 : UInt8)] ++ t.head) (len' := 1 + n5) rfl rfl H (i := 1) rfl sl29 Try.underlying29 rfl rfl (H.slOwn (i := 2) rfl) (by omega) (fun a9 c10 w H => ?_))
     replace H : Hp _ w _ ([_, .own a9 (1 + n5) c10 (([(1 : UInt8)] ++ t.head).map V8) 5 1, _]) := H
     refine ⟨H.sub (.cons_cons _ (List.nil_sublist _)), ?_⟩
     replace HS := H.sub (.cons_cons _ (List.nil_sublist _))
     refine t_step 8 rfl (by kernel_rfl) (o_bslB ([UInt8.ofNat t.cs.len]) H sl29 zc5 rfl rfl (by decide) (fun b11 w H hb11 => ?_))
     replace H : Hp _ w _ ([_, _, _, .own (some b11) 1 1 (([UInt8.ofNat t.cs.len]).map V8) 5 1]) := H
     refine ⟨H.sub (.cons_cons _ (List.nil_sublist _)), ?_⟩
     replace HS := H.sub (.cons_cons _ (List.nil_sublist _))
     refine t_step 9 rfl (by kernel_rfl) (o_appB (s := ⟨hd (some b11), 1, 1, [UInt8.ofNat t.cs.len]⟩) (l' := [(1 : UInt8)] ++ t.head ++ ([UInt8.ofNat t.cs.len])) (len' := 1 + n5 + 1) rfl rfl H (i := 1) rfl sl29 Try.underlying29 rfl rfl (H.slOwn (i := 3) rfl) (by omega) (fun a12 c13 w H => ?_))
     replace H : Hp _ w _ ([_, .own a12 (1 + n5 + 1) c13 (([(1 : UInt8)] ++ t.head ++ ([UInt8.ofNat t.cs.len])).map V8) 5 1, _, _]) := H
     refine ⟨H.sub (.cons_cons _ (List.nil_sublist _)), ?_⟩
     replace HS := H.sub (.cons_cons _ (List.nil_sublist _))
     refine t_take 10 rfl (by kernel_rfl) (by kernel_rfl) (by kernel_rfl) (fun _ _ _ h => h) (fun w HS => r_as) HS ?_
     refine t_done (by kernel_rfl) ?_
     clear HS
     repeat refine c_seq ?_
     refine c_region ?_
     refine l_op (o_val (r_as) ?_)
     first | refine l_end ?_ | refine l_nil ?_
     repeat refine c_seq ?_
     refine c_block ?_
     repeat refine c_seq ?_
     refine c_loop4 (fun (i : Nat) (a : Option Nat) (ln : Nat) (k : Nat) => [(1, .pointer (some ⟨b1, 0, none⟩)), (4, .slice (hd a) ln k), (5, VI (i : Int))])
       (fun (i : Nat) (a : Option Nat) (ln : Nat) (k : Nat) w => (i ≤ t.cs.len ∧ ln ≤ t.tenant.length + 66 + 9 * i) ∧ Hp w0 w [] ([.blk b1 ([V64 t.serial, .string ⟨(t.tenant).toArray⟩, V8 t.rights, VI t.from_, VI t.until_, t.cs.v] ++ (t.tag).map V8) 76, .own a ln k (([1] ++ t.head ++ [UInt8.ofNat t.cs.len] ++ cavsB (t.cs.l.take i)).map V8) 5 1, .own a4 n5 c6 ((t.head).map V8) 5 1, .own (some b11) 1 1 (([UInt8.ofNat t.cs.len]).map V8) 5 1]))
       (fun (i : Nat) (a : Option Nat) (ln : Nat) (k : Nat) => t.cs.len - i) 0 a12 (1 + n5 + 1) c13 ⟨rfl, rfl, rfl, trivial⟩ ⟨⟨Nat.zero_le _, by omega⟩, (by rw [show cavsB (t.cs.l.take 0) = [] from rfl, List.append_nil]; exact H)⟩ ?_
     clear H
     rintro i a ln k τ w ⟨⟨hi, hln⟩, H⟩
     repeat refine c_seq ?_
     refine c_region ?_
     refine l_op (o_val (r_mv) ?_)
     refine l_op (o_val (r_fa rfl fo76_5) ?_)
     refine l_op (o_val (r_ld (v := t.cs.v) H (i := 0) rfl rfl ct74 rfl) ?_)
     refine l_op (o_val (r_lens el74 rfl) ?_)
     refine l_op (o_val (r_bin (a := (i : Int)) (b := (t.cs.len : Int)) rfl rfl (fun _ => b_lss)) ?_)
     first | refine l_end ?_ | refine l_nil ?_
     by_cases hc14 : (i : Int) < (t.cs.len : Int)
     ·
      repeat refine c_seq ?_
      refine c_yes (by exact congrArg Value.bool (decide_eq_true hc14)) ?_
      refine c_skip ?_
      repeat refine c_seq ?_
      refine c_block ?_
      repeat refine c_seq ?_
      refine c_region ?_
      refine l_op (o_val (r_mv) ?_)
      refine l_op (o_val (r_fa rfl fo76_5) ?_)
      refine l_op (o_val (r_ld (v := t.cs.v) H (i := 0) rfl rfl ct74 rfl) ?_)
      refine l_op (o_val (r_mv) ?_)
      have ah17 := ((hc.up H)).addr (by decide) (by first | omega | (dsimp only; omega))
      obtain ⟨ab15, ao16, ah17⟩ := ah17
      refine l_op (o_val (r_isN i rfl rfl el74 ah17 (by omega) (by (try simp only [Sl.cut]); omega)) ?_)
      have he19 : ∃ c, t.cs.l[i]? = some c := ⟨_, List.getElem?_eq_getElem (by have := ((hc.up H)).ln; (try dsimp only at this ⊢); omega)⟩
      obtain ⟨e18, he19⟩ := he19
      have hez20 := ((hc.up H)).sz e18 (List.mem_of_getElem? he19)
      refine l_op (o_val (r_ldRow (s := t.cs) (k := i) (hc.up H) ah17 rfl rt78 (by decide) he19) ?_)
      refine l_op (o_callR Try.func120 rfl rfl rfl (caveat14_ret _ e18 (hb.cs _ (List.mem_of_getElem? (by assumption)))) ?_)
      rintro _ w ⟨a21, c22, rfl, Hc⟩
      replace H : Hp _ w _ ([_, _, _, _, .own a21 9 c22 ((cavB e18).map V8) 5 1]) := H.call Hc
      clear Hc
      refine l_op (o_appB (s := ⟨hd a21, 9, c22, cavB e18⟩) (l' := [1] ++ t.head ++ [UInt8.ofNat t.cs.len] ++ cavsB (t.cs.l.take i) ++ (cavB e18)) (len' := ln + 9) rfl rfl H (i := 1) rfl sl29 Try.underlying29 rfl rfl (H.slOwn (i := 4) rfl) (by omega) (fun a23 c24 w H => ?_))
      replace H : Hp _ w _ ([_, .own a23 (ln + 9) c24 (([1] ++ t.head ++ [UInt8.ofNat t.cs.len] ++ cavsB (t.cs.l.take i) ++ (cavB e18)).map V8) 5 1, _, _, _]) := H
      refine l_op (o_val (r_as) ?_)
      first | refine l_end ?_ | refine l_nil ?_
      repeat refine c_seq ?_
      refine c_region ?_
      refine l_op (o_val (r_mv) ?_)
      refine l_op (o_val (r_bin (a := (i : Int)) (b := 1) rfl rfl (fun _ => b_add (by omega) (by omega))) ?_)
      refine l_op (o_val (r_as) ?_)
      first | refine l_end ?_ | refine l_nil ?_
      rw [List.append_assoc, cavsB_succ t.cs.l i e18 he19] at H
      refine round_end (i + 1, a23, ln + 9, c24) ?_ ?_ ?_
      · exact ⟨rfl, rfl, show VI ((i : Int) + 1) = VI ((i + 1 : Nat) : Int) from congrArg VI (by omega), trivial⟩
      · refine ⟨?_, ?_⟩
        · try dsimp only
          exact ⟨by omega, by omega⟩
        · exact H.sub (.cons_cons _ (.cons_cons _ (.cons_cons _ (.cons_cons _ (List.nil_sublist _)))))
      · show t.cs.len - (i + 1 : Nat) < t.cs.len - i; omega
     ·
      repeat refine c_seq ?_
      refine c_no (by exact congrArg Value.bool (decide_eq_false hc14)) ?_
      refine c_exit ?_
      repeat refine c_seq ?_
      refine c_region ?_
      refine l_op (o_val (r_mv) ?_)
      refine l_op (o_val (r_fa rfl fo76_6) ?_)
      refine l_op (o_val (r_slAo (o := 6) (h := 32) (m := 32) (lv := none) (hv := none) (mv := none) rfl ar31 rfl rfl rfl (fun w => sbn w)) ?_)
      refine l_op (o_appB (s := (⟨some ⟨b1, 6, none⟩, 32, 32, t.tag⟩ : Sl)) (l' := [1] ++ t.head ++ [UInt8.ofNat t.cs.len] ++ cavsB (t.cs.l.take i) ++ t.tag) (len' := ln + 32) rfl rfl H (i := 1) rfl sl29 Try.underlying29 rfl rfl (H.slTail (i := 0) (o := 6) (pre := [V64 t.serial, .string ⟨(t.tenant).toArray⟩, V8 t.rights, VI t.from_, VI t.until_, t.cs.v]) rfl rfl (show (t.tag).length = 32 from htag) (by decide)) (by omega) (fun a25 c26 w H => ?_))
      replace H : Hp _ w _ ([_, .own a25 (ln + 32) c26 (([1] ++ t.head ++ [UInt8.ofNat t.cs.len] ++ cavsB (t.cs.l.take i) ++ t.tag).map V8) 5 1, _, _]) := H
      refine l_op (o_val (r_as) ?_)
      refine l_op (o_val (r_as) ?_)
      first | refine l_end ?_ | refine l_nil ?_
      refine c_ret ?_
      try dsimp only [Exit.then, Exit.inBlock]
      refine e_retN (vs := [.slice (hd a25) (ln + 32) c26, VI 0]) _ Try.results82 rfl (resT (v := .slice (hd a25) (ln + 32) c26) rfl (resT (v := VI 0) rfl (resZ))) ?_
      refine ⟨_, rfl, ?_⟩
      have hi2 : i = t.cs.len := by omega
      refine ⟨_, _, _, rfl, by omega, ?_⟩
      rw [List.take_of_length_le (by have := hc.ln; omega)] at H
      exact H.sub (.cons _ (.cons_cons _ (List.nil_sublist _)))
    ·
     refine (o_bslB ([UInt8.ofNat t.cs.len]) H sl29 zc5 rfl rfl (by decide) (fun b27 w H hb27 => ?_))
     replace H : Hp _ w _ ([_, _, _, .own (some b27) 1 1 (([UInt8.ofNat t.cs.len]).map V8) 5 1]) := H
     refine ⟨H.sub (.cons_cons _ (List.nil_sublist _)), ?_⟩
     replace HS := H.sub (.cons_cons _ (List.nil_sublist _))
     refine t_step 3 rfl (by kernel_rfl) (o_appB (s := ⟨hd a4, n5, c6, t.head⟩) (l' := [(1 : UInt8)] ++ t.head) (len' := 1 + n5) rfl rfl H (i := 1) rfl sl29 Try.underlying29 rfl rfl (H.slOwn (i := 2) rfl) (by omega) (fun a28 c29 w H => ?_))
     replace H : Hp _ w _ ([_, .own a28 (1 + n5) c29 (([(1 : UInt8)] ++ t.head).map V8) 5 1, _, _]) := H
     refine ⟨H.sub (.cons_cons _ (List.nil_sublist _)), ?_⟩
     replace HS := H.sub (.cons_cons _ (List.nil_sublist _))
     refine t_step 9 rfl (by kernel_rfl) (o_appB (s := ⟨hd (some b27), 1, 1, [UInt8.ofNat t.cs.len]⟩) (l' := [(1 : UInt8)] ++ t.head ++ ([UInt8.ofNat t.cs.len])) (len' := 1 + n5 + 1) rfl rfl H (i := 1) rfl sl29 Try.underlying29 rfl rfl (H.slOwn (i := 3) rfl) (by omega) (fun a30 c31 w H => ?_))
     replace H : Hp _ w _ ([_, .own a30 (1 + n5 + 1) c31 (([(1 : UInt8)] ++ t.head ++ ([UInt8.ofNat t.cs.len])).map V8) 5 1, _, _]) := H
     refine ⟨H.sub (.cons_cons _ (List.nil_sublist _)), ?_⟩
     replace HS := H.sub (.cons_cons _ (List.nil_sublist _))
     refine t_take 10 rfl (by kernel_rfl) (by kernel_rfl) (by kernel_rfl) (fun _ _ _ h => h) (fun w HS => r_as) HS ?_
     refine t_done (by kernel_rfl) ?_
     clear HS
     repeat refine c_seq ?_
     refine c_region ?_
     refine l_op (o_val (r_as) ?_)
     first | refine l_end ?_ | refine l_nil ?_
     repeat refine c_seq ?_
     refine c_block ?_
     repeat refine c_seq ?_
     refine c_loop4 (fun (i : Nat) (a : Option Nat) (ln : Nat) (k : Nat) => [(1, .pointer (some ⟨b1, 0, none⟩)), (4, .slice (hd a) ln k), (5, VI (i : Int))])
       (fun (i : Nat) (a : Option Nat) (ln : Nat) (k : Nat) w => (i ≤ t.cs.len ∧ ln ≤ t.tenant.length + 66 + 9 * i) ∧ Hp w0 w [] ([.blk b1 ([V64 t.serial, .string ⟨(t.tenant).toArray⟩, V8 t.rights, VI t.from_, VI t.until_, t.cs.v] ++ (t.tag).map V8) 76, .own a ln k (([1] ++ t.head ++ [UInt8.ofNat t.cs.len] ++ cavsB (t.cs.l.take i)).map V8) 5 1, .own a4 n5 c6 ((t.head).map V8) 5 1, .own (some b27) 1 1 (([UInt8.ofNat t.cs.len]).map V8) 5 1]))
       (fun (i : Nat) (a : Option Nat) (ln : Nat) (k : Nat) => t.cs.len - i) 0 a30 (1 + n5 + 1) c31 ⟨rfl, rfl, rfl, trivial⟩ ⟨⟨Nat.zero_le _, by omega⟩, (by rw [show cavsB (t.cs.l.take 0) = [] from rfl, List.append_nil]; exact H)⟩ ?_
     clear H
     rintro i a ln k τ w ⟨⟨hi, hln⟩, H⟩
     repeat refine c_seq ?_
     refine c_region ?_
     refine l_op (o_val (r_mv) ?_)
     refine l_op (o_val (r_fa rfl fo76_5) ?_)
     refine l_op (o_val (r_ld (v := t.cs.v) H (i := 0) rfl rfl ct74 rfl) ?_)
     refine l_op (o_val (r_lens el74 rfl) ?_)
     refine l_op (o_val (r_bin (a := (i : Int)) (b := (t.cs.len : Int)) rfl rfl (fun _ => b_lss)) ?_)
     first | refine l_end ?_ | refine l_nil ?_
     by_cases hc32 : (i : Int) < (t.cs.len : Int)
     ·
      repeat refine c_seq ?_
      refine c_yes (by exact congrArg Value.bool (decide_eq_true hc32)) ?_
      refine c_skip ?_
      repeat refine c_seq ?_
      refine c_block ?_
      repeat refine c_seq ?_
      refine c_region ?_
      refine l_op (o_val (r_mv) ?_)
      refine l_op (o_val (r_fa rfl fo76_5) ?_)
      refine l_op (o_val (r_ld (v := t.cs.v) H (i := 0) rfl rfl ct74 rfl) ?_)
      refine l_op (o_val (r_mv) ?_)
      have ah35 := ((hc.up H)).addr (by decide) (by first | omega | (dsimp only; omega))
      obtain ⟨ab33, ao34, ah35⟩ := ah35
      refine l_op (o_val (r_isN i rfl rfl el74 ah35 (by omega) (by (try simp only [Sl.cut]); omega)) ?_)
      have he37 : ∃ c, t.cs.l[i]? = some c := ⟨_, List.getElem?_eq_getElem (by have := ((hc.up H)).ln; (try dsimp only at this ⊢); omega)⟩
      obtain ⟨e36, he37⟩ := he37
      have hez38 := ((hc.up H)).sz e36 (List.mem_of_getElem? he37)
      refine l_op (o_val (r_ldRow (s := t.cs) (k := i) (hc.up H) ah35 rfl rt78 (by decide) he37) ?_)
      refine l_op (o_callR Try.func120 rfl rfl rfl (caveat14_ret _ e36 (hb.cs _ (List.mem_of_getElem? (by assumption)))) ?_)
      rintro _ w ⟨a39, c40, rfl, Hc⟩
      replace H : Hp _ w _ ([_, _, _, _, .own a39 9 c40 ((cavB e36).map V8) 5 1]) := H.call Hc
      clear Hc
      refine l_op (o_appB (s := ⟨hd a39, 9, c40, cavB e36⟩) (l' := [1] ++ t.head ++ [UInt8.ofNat t.cs.len] ++ cavsB (t.cs.l.take i) ++ (cavB e36)) (len' := ln + 9) rfl rfl H (i := 1) rfl sl29 Try.underlying29 rfl rfl (H.slOwn (i := 4) rfl) (by omega) (fun a41 c42 w H => ?_))
      replace H : Hp _ w _ ([_, .own a41 (ln + 9) c42 (([1] ++ t.head ++ [UInt8.ofNat t.cs.len] ++ cavsB (t.cs.l.take i) ++ (cavB e36)).map V8) 5 1, _, _, _]) := H
      refine l_op (o_val (r_as) ?_)
      first | refine l_end ?_ | refine l_nil ?_
      repeat refine c_seq ?_
      refine c_region ?_
      refine l_op (o_val (r_mv) ?_)
      refine l_op (o_val (r_bin (a := (i : Int)) (b := 1) rfl rfl (fun _ => b_add (by omega) (by omega))) ?_)
      refine l_op (o_val (r_as) ?_)
      first | refine l_end ?_ | refine l_nil ?_
      rw [List.append_assoc, cavsB_succ t.cs.l i e36 he37] at H
      refine round_end (i + 1, a41, ln + 9, c42) ?_ ?_ ?_
      · exact ⟨rfl, rfl, show VI ((i : Int) + 1) = VI ((i + 1 : Nat) : Int) from congrArg VI (by omega), trivial⟩
      · refine ⟨?_, ?_⟩
        · try dsimp only
          exact ⟨by omega, by omega⟩
        · exact H.sub (.cons_cons _ (.cons_cons _ (.cons_cons _ (.cons_cons _ (List.nil_sublist _)))))
      · show t.cs.len - (i + 1 : Nat) < t.cs.len - i; omega
     ·
      repeat refine c_seq ?_
      refine c_no (by exact congrArg Value.bool (decide_eq_false hc32)) ?_
      refine c_exit ?_
      repeat refine c_seq ?_
      refine c_region ?_
      refine l_op (o_val (r_mv) ?_)
      refine l_op (o_val (r_fa rfl fo76_6) ?_)
      refine l_op (o_val (r_slAo (o := 6) (h := 32) (m := 32) (lv := none) (hv := none) (mv := none) rfl ar31 rfl rfl rfl (fun w => sbn w)) ?_)
      refine l_op (o_appB (s := (⟨some ⟨b1, 6, none⟩, 32, 32, t.tag⟩ : Sl)) (l' := [1] ++ t.head ++ [UInt8.ofNat t.cs.len] ++ cavsB (t.cs.l.take i) ++ t.tag) (len' := ln + 32) rfl rfl H (i := 1) rfl sl29 Try.underlying29 rfl rfl (H.slTail (i := 0) (o := 6) (pre := [V64 t.serial, .string ⟨(t.tenant).toArray⟩, V8 t.rights, VI t.from_, VI t.until_, t.cs.v]) rfl rfl (show (t.tag).length = 32 from htag) (by decide)) (by omega) (fun a43 c44 w H => ?_))
      replace H : Hp _ w _ ([_, .own a43 (ln + 32) c44 (([1] ++ t.head ++ [UInt8.ofNat t.cs.len] ++ cavsB (t.cs.l.take i) ++ t.tag).map V8) 5 1, _, _]) := H
      refine l_op (o_val (r_as) ?_)
      refine l_op (o_val (r_as) ?_)
      first | refine l_end ?_ | refine l_nil ?_
      refine c_ret ?_
      try dsimp only [Exit.then, Exit.inBlock]
      refine e_retN (vs := [.slice (hd a43) (ln + 32) c44, VI 0]) _ Try.results82 rfl (resT (v := .slice (hd a43) (ln + 32) c44) rfl (resT (v := VI 0) rfl (resZ))) ?_
      refine ⟨_, rfl, ?_⟩
      have hi2 : i = t.cs.len := by omega
      refine ⟨_, _, _, rfl, by omega, ?_⟩
      rw [List.take_of_length_le (by have := hc.ln; omega)] at H
      exact H.sub (.cons _ (.cons_cons _ (List.nil_sublist _)))
   ·
    refine (o_bslB ([UInt8.ofNat t.cs.len]) H sl29 zc5 rfl rfl (by decide) (fun b45 w H hb45 => ?_))
    replace H : Hp _ w _ ([_, _, .own (some b45) 1 1 (([UInt8.ofNat t.cs.len]).map V8) 5 1]) := H
    refine ⟨H.sub (.cons_cons _ (List.nil_sublist _)), ?_⟩
    replace HS := H.sub (.cons_cons _ (List.nil_sublist _))
    refine t_step 2 rfl (by kernel_rfl) (o_callR Try.func126 rfl rfl rfl (head14_ret _ t (hc.up H) (show (t.tag).length = 32 from htag) (by first | omega | (dsimp only; omega) | simp) hb) ?_)
    rintro _ w ⟨a46, n47, c48, rfl, hn49, hh50, Hc⟩
    replace H : Hp _ w _ ([_, _, _, .own a46 n47 c48 ((t.head).map V8) 5 1]) := H.call Hc
    clear Hc
    try dsimp only at hn49
    refine ⟨H.sub (.cons_cons _ (List.nil_sublist _)), ?_⟩
    replace HS := H.sub (.cons_cons _ (List.nil_sublist _))
    refine t_step 3 rfl (by kernel_rfl) (o_appB (s := ⟨hd a46, n47, c48, t.head⟩) (l' := [(1 : UInt8)] ++ t.head) (len' := 1 + n47) rfl rfl H (i := 1) rfl sl29 Try.underlying29 rfl rfl (H.slOwn (i := 3) rfl) (by omega) (fun a51 c52 w H => ?_))
    replace H : Hp _ w _ ([_, .own a51 (1 + n47) c52 (([(1 : UInt8)] ++ t.head).map V8) 5 1, _, _]) := H
    refine ⟨H.sub (.cons_cons _ (List.nil_sublist _)), ?_⟩
    replace HS := H.sub (.cons_cons _ (List.nil_sublist _))
    refine t_step 9 rfl (by kernel_rfl) (o_appB (s := ⟨hd (some b45), 1, 1, [UInt8.ofNat t.cs.len]⟩) (l' := [(1 : UInt8)] ++ t.head ++ ([UInt8.ofNat t.cs.len])) (len' := 1 + n47 + 1) rfl rfl H (i := 1) rfl sl29 Try.underlying29 rfl rfl (H.slOwn (i := 2) rfl) (by omega) (fun a53 c54 w H => ?_))
    replace H : Hp _ w _ ([_, .own a53 (1 + n47 + 1) c54 (([(1 : UInt8)] ++ t.head ++ ([UInt8.ofNat t.cs.len])).map V8) 5 1, _, _]) := H
    refine ⟨H.sub (.cons_cons _ (List.nil_sublist _)), ?_⟩
    replace HS := H.sub (.cons_cons _ (List.nil_sublist _))
    refine t_take 10 rfl (by kernel_rfl) (by kernel_rfl) (by kernel_rfl) (fun _ _ _ h => h) (fun w HS => r_as) HS ?_
    refine t_done (by kernel_rfl) ?_
    clear HS
    repeat refine c_seq ?_
    refine c_region ?_
    refine l_op (o_val (r_as) ?_)
    first | refine l_end ?_ | refine l_nil ?_
    repeat refine c_seq ?_
    refine c_block ?_
    repeat refine c_seq ?_
    refine c_loop4 (fun (i : Nat) (a : Option Nat) (ln : Nat) (k : Nat) => [(1, .pointer (some ⟨b1, 0, none⟩)), (4, .slice (hd a) ln k), (5, VI (i : Int))])
      (fun (i : Nat) (a : Option Nat) (ln : Nat) (k : Nat) w => (i ≤ t.cs.len ∧ ln ≤ t.tenant.length + 66 + 9 * i) ∧ Hp w0 w [] ([.blk b1 ([V64 t.serial, .string ⟨(t.tenant).toArray⟩, V8 t.rights, VI t.from_, VI t.until_, t.cs.v] ++ (t.tag).map V8) 76, .own a ln k (([1] ++ t.head ++ [UInt8.ofNat t.cs.len] ++ cavsB (t.cs.l.take i)).map V8) 5 1, .own (some b45) 1 1 (([UInt8.ofNat t.cs.len]).map V8) 5 1, .own a46 n47 c48 ((t.head).map V8) 5 1]))
      (fun (i : Nat) (a : Option Nat) (ln : Nat) (k : Nat) => t.cs.len - i) 0 a53 (1 + n47 + 1) c54 ⟨rfl, rfl, rfl, trivial⟩ ⟨⟨Nat.zero_le _, by omega⟩, (by rw [show cavsB (t.cs.l.take 0) = [] from rfl, List.append_nil]; exact H)⟩ ?_
    clear H
    rintro i a ln k τ w ⟨⟨hi, hln⟩, H⟩
    repeat refine c_seq ?_
    refine c_region ?_
    refine l_op (o_val (r_mv) ?_)
    refine l_op (o_val (r_fa rfl fo76_5) ?_)
    refine l_op (o_val (r_ld (v := t.cs.v) H (i := 0) rfl rfl ct74 rfl) ?_)
    refine l_op (o_val (r_lens el74 rfl) ?_)
    refine l_op (o_val (r_bin (a := (i : Int)) (b := (t.cs.len : Int)) rfl rfl (fun _ => b_lss)) ?_)
    first | refine l_end ?_ | refine l_nil ?_
    by_cases hc55 : (i : Int) < (t.cs.len : Int)
    ·
     repeat refine c_seq ?_
     refine c_yes (by exact congrArg Value.bool (decide_eq_true hc55)) ?_
     refine c_skip ?_
     repeat refine c_seq ?_
     refine c_block ?_
     repeat refine c_seq ?_
     refine c_region ?_
     refine l_op (o_val (r_mv) ?_)
     refine l_op (o_val (r_fa rfl fo76_5) ?_)
     refine l_op (o_val (r_ld (v := t.cs.v) H (i := 0) rfl rfl ct74 rfl) ?_)
     refine l_op (o_val (r_mv) ?_)
     have ah58 := ((hc.up H)).addr (by decide) (by first | omega | (dsimp only; omega))
     obtain ⟨ab56, ao57, ah58⟩ := ah58
     refine l_op (o_val (r_isN i rfl rfl el74 ah58 (by omega) (by (try simp only [Sl.cut]); omega)) ?_)
     have he60 : ∃ c, t.cs.l[i]? = some c := ⟨_, List.getElem?_eq_getElem (by have := ((hc.up H)).ln; (try dsimp only at this ⊢); omega)⟩
     obtain ⟨e59, he60⟩ := he60
     have hez61 := ((hc.up H)).sz e59 (List.mem_of_getElem? he60)
     refine l_op (o_val (r_ldRow (s := t.cs) (k := i) (hc.up H) ah58 rfl rt78 (by decide) he60) ?_)
     refine l_op (o_callR Try.func120 rfl rfl rfl (caveat14_ret _ e59 (hb.cs _ (List.mem_of_getElem? (by assumption)))) ?_)
     rintro _ w ⟨a62, c63, rfl, Hc⟩
     replace H : Hp _ w _ ([_, _, _, _, .own a62 9 c63 ((cavB e59).map V8) 5 1]) := H.call Hc
     clear Hc
     refine l_op (o_appB (s := ⟨hd a62, 9, c63, cavB e59⟩) (l' := [1] ++ t.head ++ [UInt8.ofNat t.cs.len] ++ cavsB (t.cs.l.take i) ++ (cavB e59)) (len' := ln + 9) rfl rfl H (i := 1) rfl sl29 Try.underlying29 rfl rfl (H.slOwn (i := 4) rfl) (by omega) (fun a64 c65 w H => ?_))
     replace H : Hp _ w _ ([_, .own a64 (ln + 9) c65 (([1] ++ t.head ++ [UInt8.ofNat t.cs.len] ++ cavsB (t.cs.l.take i) ++ (cavB e59)).map V8) 5 1, _, _, _]) := H
     refine l_op (o_val (r_as) ?_)
     first | refine l_end ?_ | refine l_nil ?_
     repeat refine c_seq ?_
     refine c_region ?_
     refine l_op (o_val (r_mv) ?_)
     refine l_op (o_val (r_bin (a := (i : Int)) (b := 1) rfl rfl (fun _ => b_add (by omega) (by omega))) ?_)
     refine l_op (o_val (r_as) ?_)
     first | refine l_end ?_ | refine l_nil ?_
     rw [List.append_assoc, cavsB_succ t.cs.l i e59 he60] at H
     refine round_end (i + 1, a64, ln + 9, c65) ?_ ?_ ?_
     · exact ⟨rfl, rfl, show VI ((i : Int) + 1) = VI ((i + 1 : Nat) : Int) from congrArg VI (by omega), trivial⟩
     · refine ⟨?_, ?_⟩
       · try dsimp only
         exact ⟨by omega, by omega⟩
       · exact H.sub (.cons_cons _ (.cons_cons _ (.cons_cons _ (.cons_cons _ (List.nil_sublist _)))))
     · show t.cs.len - (i + 1 : Nat) < t.cs.len - i; omega
    ·
     repeat refine c_seq ?_
     refine c_no (by exact congrArg Value.bool (decide_eq_false hc55)) ?_
     refine c_exit ?_
     repeat refine c_seq ?_
     refine c_region ?_
     refine l_op (o_val (r_mv) ?_)
     refine l_op (o_val (r_fa rfl fo76_6) ?_)
     refine l_op (o_val (r_slAo (o := 6) (h := 32) (m := 32) (lv := none) (hv := none) (mv := none) rfl ar31 rfl rfl rfl (fun w => sbn w)) ?_)
     refine l_op (o_appB (s := (⟨some ⟨b1, 6, none⟩, 32, 32, t.tag⟩ : Sl)) (l' := [1] ++ t.head ++ [UInt8.ofNat t.cs.len] ++ cavsB (t.cs.l.take i) ++ t.tag) (len' := ln + 32) rfl rfl H (i := 1) rfl sl29 Try.underlying29 rfl rfl (H.slTail (i := 0) (o := 6) (pre := [V64 t.serial, .string ⟨(t.tenant).toArray⟩, V8 t.rights, VI t.from_, VI t.until_, t.cs.v]) rfl rfl (show (t.tag).length = 32 from htag) (by decide)) (by omega) (fun a66 c67 w H => ?_))
     replace H : Hp _ w _ ([_, .own a66 (ln + 32) c67 (([1] ++ t.head ++ [UInt8.ofNat t.cs.len] ++ cavsB (t.cs.l.take i) ++ t.tag).map V8) 5 1, _, _]) := H
     refine l_op (o_val (r_as) ?_)
     refine l_op (o_val (r_as) ?_)
     first | refine l_end ?_ | refine l_nil ?_
     refine c_ret ?_
     try dsimp only [Exit.then, Exit.inBlock]
     refine e_retN (vs := [.slice (hd a66) (ln + 32) c67, VI 0]) _ Try.results82 rfl (resT (v := .slice (hd a66) (ln + 32) c67) rfl (resT (v := VI 0) rfl (resZ))) ?_
     refine ⟨_, rfl, ?_⟩
     have hi2 : i = t.cs.len := by omega
     refine ⟨_, _, _, rfl, by omega, ?_⟩
     rw [List.take_of_length_le (by have := hc.ln; omega)] at H
     exact H.sub (.cons _ (.cons_cons _ (List.nil_sublist _)))
  ·
   refine (o_callR Try.func126 rfl rfl rfl (head14_ret _ t (hc.up H) (show (t.tag).length = 32 from htag) (by first | omega | (dsimp only; omega) | simp) hb) ?_)
   rintro _ w ⟨a68, n69, c70, rfl, hn71, hh72, Hc⟩
   replace H : Hp _ w _ ([_, .own a68 n69 c70 ((t.head).map V8) 5 1]) := H.call Hc
   clear Hc
   try dsimp only at hn71
   refine ⟨H.sub (.cons_cons _ (List.nil_sublist _)), ?_⟩
   replace HS := H.sub (.cons_cons _ (List.nil_sublist _))
   refine t_all [0, 8] (by kernel_rfl) (by simp) (all_cons (w_op 0 rfl ?_) (all_cons (w_op 8 rfl ?_) (all_nil)))
   ·
    refine (o_bslB ([(1 : UInt8)]) H sl29 zc5 rfl rfl (by decide) (fun b73 w H hb73 => ?_))
    replace H : Hp _ w _ ([_, _, .own (some b73) 1 1 (([(1 : UInt8)]).map V8) 5 1]) := H
    refine ⟨H.sub (.cons_cons _ (List.nil_sublist _)), ?_⟩
    replace HS := H.sub (.cons_cons _ (List.nil_sublist _))
    refine t_all [3, 8] (by kernel_rfl) (by simp) (all_cons (w_op 3 rfl ?_) (all_cons (w_op 8 rfl ?_) (all_nil)))
    ·
     refine (o_appB (s := ⟨hd a68, n69, c70, t.head⟩) (l' := [(1 : UInt8)] ++ t.head) (len' := 1 + n69) rfl rfl H (i := 2) rfl sl29 Try.underlying29 rfl rfl (H.slOwn (i := 1) rfl) (by omega) (fun a74 c75 w H => ?_))
     replace H : Hp _ w _ ([_, _, .own a74 (1 + n69) c75 (([(1 : UInt8)] ++ t.head).map V8) 5 1]) := H
     refine ⟨H.sub (.cons_cons _ (List.nil_sublist _)), ?_⟩
     replace HS := H.sub (.cons_cons _ (List.nil_sublist _))
     refine t_step 8 rfl (by kernel_rfl) (o_bslB ([UInt8.ofNat t.cs.len]) H sl29 zc5 rfl rfl (by decide) (fun b76 w H hb76 => ?_))
     replace H : Hp _ w _ ([_, _, _, .own (some b76) 1 1 (([UInt8.ofNat t.cs.len]).map V8) 5 1]) := H
     refine ⟨H.sub (.cons_cons _ (List.nil_sublist _)), ?_⟩
     replace HS := H.sub (.cons_cons _ (List.nil_sublist _))
     refine t_step 9 rfl (by kernel_rfl) (o_appB (s := ⟨hd (some b76), 1, 1, [UInt8.ofNat t.cs.len]⟩) (l' := [(1 : UInt8)] ++ t.head ++ ([UInt8.ofNat t.cs.len])) (len' := 1 + n69 + 1) rfl rfl H (i := 2) rfl sl29 Try.underlying29 rfl rfl (H.slOwn (i := 3) rfl) (by omega) (fun a77 c78 w H => ?_))
     replace H : Hp _ w _ ([_, _, .own a77 (1 + n69 + 1) c78 (([(1 : UInt8)] ++ t.head ++ ([UInt8.ofNat t.cs.len])).map V8) 5 1, _]) := H
     refine ⟨H.sub (.cons_cons _ (List.nil_sublist _)), ?_⟩
     replace HS := H.sub (.cons_cons _ (List.nil_sublist _))
     refine t_take 10 rfl (by kernel_rfl) (by kernel_rfl) (by kernel_rfl) (fun _ _ _ h => h) (fun w HS => r_as) HS ?_
     refine t_done (by kernel_rfl) ?_
     clear HS
     repeat refine c_seq ?_
     refine c_region ?_
     refine l_op (o_val (r_as) ?_)
     first | refine l_end ?_ | refine l_nil ?_
     repeat refine c_seq ?_
     refine c_block ?_
     repeat refine c_seq ?_
     refine c_loop4 (fun (i : Nat) (a : Option Nat) (ln : Nat) (k : Nat) => [(1, .pointer (some ⟨b1, 0, none⟩)), (4, .slice (hd a) ln k), (5, VI (i : Int))])
       (fun (i : Nat) (a : Option Nat) (ln : Nat) (k : Nat) w => (i ≤ t.cs.len ∧ ln ≤ t.tenant.length + 66 + 9 * i) ∧ Hp w0 w [] ([.blk b1 ([V64 t.serial, .string ⟨(t.tenant).toArray⟩, V8 t.rights, VI t.from_, VI t.until_, t.cs.v] ++ (t.tag).map V8) 76, .own a68 n69 c70 ((t.head).map V8) 5 1, .own a ln k (([1] ++ t.head ++ [UInt8.ofNat t.cs.len] ++ cavsB (t.cs.l.take i)).map V8) 5 1, .own (some b76) 1 1 (([UInt8.ofNat t.cs.len]).map V8) 5 1]))
       (fun (i : Nat) (a : Option Nat) (ln : Nat) (k : Nat) => t.cs.len - i) 0 a77 (1 + n69 + 1) c78 ⟨rfl, rfl, rfl, trivial⟩ ⟨⟨Nat.zero_le _, by omega⟩, (by rw [show cavsB (t.cs.l.take 0) = [] from rfl, List.append_nil]; exact H)⟩ ?_
     clear H
     rintro i a ln k τ w ⟨⟨hi, hln⟩, H⟩
     repeat refine c_seq ?_
     refine c_region ?_
     refine l_op (o_val (r_mv) ?_)
     refine l_op (o_val (r_fa rfl fo76_5) ?_)
     refine l_op (o_val (r_ld (v := t.cs.v) H (i := 0) rfl rfl ct74 rfl) ?_)
     refine l_op (o_val (r_lens el74 rfl) ?_)
     refine l_op (o_val (r_bin (a := (i : Int)) (b := (t.cs.len : Int)) rfl rfl (fun _ => b_lss)) ?_)
     first | refine l_end ?_ | refine l_nil ?_
     by_cases hc79 : (i : Int) < (t.cs.len : Int)
     ·
      repeat refine c_seq ?_
      refine c_yes (by exact congrArg Value.bool (decide_eq_true hc79)) ?_
      refine c_skip ?_
      repeat refine c_seq ?_
      refine c_block ?_
      repeat refine c_seq ?_
      refine c_region ?_
      refine l_op (o_val (r_mv) ?_)
      refine l_op (o_val (r_fa rfl fo76_5) ?_)
      refine l_op (o_val (r_ld (v := t.cs.v) H (i := 0) rfl rfl ct74 rfl) ?_)
      refine l_op (o_val (r_mv) ?_)
      have ah82 := ((hc.up H)).addr (by decide) (by first | omega | (dsimp only; omega))
      obtain ⟨ab80, ao81, ah82⟩ := ah82
      refine l_op (o_val (r_isN i rfl rfl el74 ah82 (by omega) (by (try simp only [Sl.cut]); omega)) ?_)
      have he84 : ∃ c, t.cs.l[i]? = some c := ⟨_, List.getElem?_eq_getElem (by have := ((hc.up H)).ln; (try dsimp only at this ⊢); omega)⟩
      obtain ⟨e83, he84⟩ := he84
      have hez85 := ((hc.up H)).sz e83 (List.mem_of_getElem? he84)
      refine l_op (o_val (r_ldRow (s := t.cs) (k := i) (hc.up H) ah82 rfl rt78 (by decide) he84) ?_)
      refine l_op (o_callR Try.func120 rfl rfl rfl (caveat14_ret _ e83 (hb.cs _ (List.mem_of_getElem? (by assumption)))) ?_)
      rintro _ w ⟨a86, c87, rfl, Hc⟩
      replace H : Hp _ w _ ([_, _, _, _, .own a86 9 c87 ((cavB e83).map V8) 5 1]) := H.call Hc
      clear Hc
      refine l_op (o_appB (s := ⟨hd a86, 9, c87, cavB e83⟩) (l' := [1] ++ t.head ++ [UInt8.ofNat t.cs.len] ++ cavsB (t.cs.l.take i) ++ (cavB e83)) (len' := ln + 9) rfl rfl H (i := 2) rfl sl29 Try.underlying29 rfl rfl (H.slOwn (i := 4) rfl) (by omega) (fun a88 c89 w H => ?_))
      replace H : Hp _ w _ ([_, _, .own a88 (ln + 9) c89 (([1] ++ t.head ++ [UInt8.ofNat t.cs.len] ++ cavsB (t.cs.l.take i) ++ (cavB e83)).map V8) 5 1, _, _]) := H
      refine l_op (o_val (r_as) ?_)
      first | refine l_end ?_ | refine l_nil ?_
      repeat refine c_seq ?_
      refine c_region ?_
      refine l_op (o_val (r_mv) ?_)
      refine l_op (o_val (r_bin (a := (i : Int)) (b := 1) rfl rfl (fun _ => b_add (by omega) (by omega))) ?_)
      refine l_op (o_val (r_as) ?_)
      first | refine l_end ?_ | refine l_nil ?_
      rw [List.append_assoc, cavsB_succ t.cs.l i e83 he84] at H
      refine round_end (i + 1, a88, ln + 9, c89) ?_ ?_ ?_
      · exact ⟨rfl, rfl, show VI ((i : Int) + 1) = VI ((i + 1 : Nat) : Int) from congrArg VI (by omega), trivial⟩
      · refine ⟨?_, ?_⟩
        · try dsimp only
          exact ⟨by omega, by omega⟩
        · exact H.sub (.cons_cons _ (.cons_cons _ (.cons_cons _ (.cons_cons _ (List.nil_sublist _)))))
      · show t.cs.len - (i + 1 : Nat) < t.cs.len - i; omega
     ·
      repeat refine c_seq ?_
      refine c_no (by exact congrArg Value.bool (decide_eq_false hc79)) ?_
      refine c_exit ?_
      repeat refine c_seq ?_
      refine c_region ?_
      refine l_op (o_val (r_mv) ?_)
      refine l_op (o_val (r_fa rfl fo76_6) ?_)
      refine l_op (o_val (r_slAo (o := 6) (h := 32) (m := 32) (lv := none) (hv := none) (mv := none) rfl ar31 rfl rfl rfl (fun w => sbn w)) ?_)
      refine l_op (o_appB (s := (⟨some ⟨b1, 6, none⟩, 32, 32, t.tag⟩ : Sl)) (l' := [1] ++ t.head ++ [UInt8.ofNat t.cs.len] ++ cavsB (t.cs.l.take i) ++ t.tag) (len' := ln + 32) rfl rfl H (i := 2) rfl sl29 Try.underlying29 rfl rfl (H.slTail (i := 0) (o := 6) (pre := [V64 t.serial, .string ⟨(t.tenant).toArray⟩, V8 t.rights, VI t.from_, VI t.until_, t.cs.v]) rfl rfl (show (t.tag).length = 32 from htag) (by decide)) (by omega) (fun a90 c91 w H => ?_))
      replace H : Hp _ w _ ([_, _, .own a90 (ln + 32) c91 (([1] ++ t.head ++ [UInt8.ofNat t.cs.len] ++ cavsB (t.cs.l.take i) ++ t.tag).map V8) 5 1, _]) := H
      refine l_op (o_val (r_as) ?_)
      refine l_op (o_val (r_as) ?_)
      first | refine l_end ?_ | refine l_nil ?_
      refine c_ret ?_
      try dsimp only [Exit.then, Exit.inBlock]
      refine e_retN (vs := [.slice (hd a90) (ln + 32) c91, VI 0]) _ Try.results82 rfl (resT (v := .slice (hd a90) (ln + 32) c91) rfl (resT (v := VI 0) rfl (resZ))) ?_
      refine ⟨_, rfl, ?_⟩
      have hi2 : i = t.cs.len := by omega
      refine ⟨_, _, _, rfl, by omega, ?_⟩
      rw [List.take_of_length_le (by have := hc.ln; omega)] at H
      exact H.sub (.cons _ (.cons _ (.cons_cons _ (List.nil_sublist _))))
    ·
     refine (o_bslB ([UInt8.ofNat t.cs.len]) H sl29 zc5 rfl rfl (by decide) (fun b92 w H hb92 => ?_))
     replace H : Hp _ w _ ([_, _, _, .own (some b92) 1 1 (([UInt8.ofNat t.cs.len]).map V8) 5 1]) := H
     refine ⟨H.sub (.cons_cons _ (List.nil_sublist _)), ?_⟩
     replace HS := H.sub (.cons_cons _ (List.nil_sublist _))
     refine t_step 3 rfl (by kernel_rfl) (o_appB (s := ⟨hd a68, n69, c70, t.head⟩) (l' := [(1 : UInt8)] ++ t.head) (len' := 1 + n69) rfl rfl H (i := 2) rfl sl29 Try.underlying29 rfl rfl (H.slOwn (i := 1) rfl) (by omega) (fun a93 c94 w H => ?_))
     replace H : Hp _ w _ ([_, _, .own a93 (1 + n69) c94 (([(1 : UInt8)] ++ t.head).map V8) 5 1, _]) := H
     refine ⟨H.sub (.cons_cons _ (List.nil_sublist _)), ?_⟩
     replace HS := H.sub (.cons_cons _ (List.nil_sublist _))
     refine t_step 9 rfl (by kernel_rfl) (o_appB (s := ⟨hd (some b92), 1, 1, [UInt8.ofNat t.cs.len]⟩) (l' := [(1 : UInt8)] ++ t.head ++ ([UInt8.ofNat t.cs.len])) (len' := 1 + n69 + 1) rfl rfl H (i := 2) rfl sl29 Try.underlying29 rfl rfl (H.slOwn (i := 3) rfl) (by omega) (fun a95 c96 w H => ?_))
     replace H : Hp _ w _ ([_, _, .own a95 (1 + n69 + 1) c96 (([(1 : UInt8)] ++ t.head ++ ([UInt8.ofNat t.cs.len])).map V8) 5 1, _]) := H
     refine ⟨H.sub (.cons_cons _ (List.nil_sublist _)), ?_⟩
     replace HS := H.sub (.cons_cons _ (List.nil_sublist _))
     refine t_take 10 rfl (by kernel_rfl) (by kernel_rfl) (by kernel_rfl) (fun _ _ _ h => h) (fun w HS => r_as) HS ?_
     refine t_done (by kernel_rfl) ?_
     clear HS
     repeat refine c_seq ?_
     refine c_region ?_
     refine l_op (o_val (r_as) ?_)
     first | refine l_end ?_ | refine l_nil ?_
     repeat refine c_seq ?_
     refine c_block ?_
     repeat refine c_seq ?_
     refine c_loop4 (fun (i : Nat) (a : Option Nat) (ln : Nat) (k : Nat) => [(1, .pointer (some ⟨b1, 0, none⟩)), (4, .slice (hd a) ln k), (5, VI (i : Int))])
       (fun (i : Nat) (a : Option Nat) (ln : Nat) (k : Nat) w => (i ≤ t.cs.len ∧ ln ≤ t.tenant.length + 66 + 9 * i) ∧ Hp w0 w [] ([.blk b1 ([V64 t.serial, .string ⟨(t.tenant).toArray⟩, V8 t.rights, VI t.from_, VI t.until_, t.cs.v] ++ (t.tag).map V8) 76, .own a68 n69 c70 ((t.head).map V8) 5 1, .own a ln k (([1] ++ t.head ++ [UInt8.ofNat t.cs.len] ++ cavsB (t.cs.l.take i)).map V8) 5 1, .own (some b92) 1 1 (([UInt8.ofNat t.cs.len]).map V8) 5 1]))
       (fun (i : Nat) (a : Option Nat) (ln : Nat) (k : Nat) => t.cs.len - i) 0 a95 (1 + n69 + 1) c96 ⟨rfl, rfl, rfl, trivial⟩ ⟨⟨Nat.zero_le _, by omega⟩, (by rw [show cavsB (t.cs.l.take 0) = [] from rfl, List.append_nil]; exact H)⟩ ?_
     clear H
     rintro i a ln k τ w ⟨⟨hi, hln⟩, H⟩
     repeat refine c_seq ?_
     refine c_region ?_
     refine l_op (o_val (r_mv) ?_)
     refine l_op (o_val (r_fa rfl fo76_5) ?_)
     refine l_op (o_val (r_ld (v := t.cs.v) H (i := 0) rfl rfl ct74 rfl) ?_)
     refine l_op (o_val (r_lens el74 rfl) ?_)
     refine l_op (o_val (r_bin (a := (i : Int)) (b := (t.cs.len : Int)) rfl rfl (fun _ => b_lss)) ?_)
     first | refine l_end ?_ | refine l_nil ?_
     by_cases hc97 : (i : Int) < (t.cs.len : Int)
     ·
      repeat refine c_seq ?_
      refine c_yes (by exact congrArg Value.bool (decide_eq_true hc97)) ?_
      refine c_skip ?_
      repeat refine c_seq ?_
      refine c_block ?_
      repeat refine c_seq ?_
      refine c_region ?_
      refine l_op (o_val (r_mv) ?_)
      refine l_op (o_val (r_fa rfl fo76_5) ?_)
      refine l_op (o_val (r_ld (v := t.cs.v) H (i := 0) rfl rfl ct74 rfl) ?_)
      refine l_op (o_val (r_mv) ?_)
      have ah100 := ((hc.up H)).addr (by decide) (by first | omega | (dsimp only; omega))
      obtain ⟨ab98, ao99, ah100⟩ := ah100
      refine l_op (o_val (r_isN i rfl rfl el74 ah100 (by omega) (by (try simp only [Sl.cut]); omega)) ?_)
      have he102 : ∃ c, t.cs.l[i]? = some c := ⟨_, List.getElem?_eq_getElem (by have := ((hc.up H)).ln; (try dsimp only at this ⊢); omega)⟩
      obtain ⟨e101, he102⟩ := he102
      have hez103 := ((hc.up H)).sz e101 (List.mem_of_getElem? he102)
      refine l_op (o_val (r_ldRow (s := t.cs) (k := i) (hc.up H) ah100 rfl rt78 (by decide) he102) ?_)
      refine l_op (o_callR Try.func120 rfl rfl rfl (caveat14_ret _ e101 (hb.cs _ (List.mem_of_getElem? (by assumption)))) ?_)
      rintro _ w ⟨a104, c105, rfl, Hc⟩
      replace H : Hp _ w _ ([_, _, _, _, .own a104 9 c105 ((cavB e101).map V8) 5 1]) := H.call Hc
      clear Hc
      refine l_op (o_appB (s := ⟨hd a104, 9, c105, cavB e101⟩) (l' := [1] ++ t.head ++ [UInt8.ofNat t.cs.len] ++ cavsB (t.cs.l.take i) ++ (cavB e101)) (len' := ln + 9) rfl rfl H (i := 2) rfl sl29 Try.underlying29 rfl rfl (H.slOwn (i := 4) rfl) (by omega) (fun a106 c107 w H => ?_))
      replace H : Hp _ w _ ([_, _, .own a106 (ln + 9) c107 (([1] ++ t.head ++ [UInt8.ofNat t.cs.len] ++ cavsB (t.cs.l.take i) ++ (cavB e101)).map V8) 5 1, _, _]) := H
      refine l_op (o_val (r_as) ?_)
      first | refine l_end ?_ | refine l_nil ?_
      repeat refine c_seq ?_
      refine c_region ?_
      refine l_op (o_val (r_mv) ?_)
      refine l_op (o_val (r_bin (a := (i : Int)) (b := 1) rfl rfl (fun _ => b_add (by omega) (by omega))) ?_)
      refine l_op (o_val (r_as) ?_)
      first | refine l_end ?_ | refine l_nil ?_
      rw [List.append_assoc, cavsB_succ t.cs.l i e101 he102] at H
      refine round_end (i + 1, a106, ln + 9, c107) ?_ ?_ ?_
      · exact ⟨rfl, rfl, show VI ((i : Int) + 1) = VI ((i + 1 : Nat) : Int) from congrArg VI (by omega), trivial⟩
      · refine ⟨?_, ?_⟩
        · try dsimp only
          exact ⟨by omega, by omega⟩
        · exact H.sub (.cons_cons _ (.cons_cons _ (.cons_cons _ (.cons_cons _ (List.nil_sublist _)))))
      · show t.cs.len - (i + 1 : Nat) < t.cs.len - i; omega
     ·
      repeat refine c_seq ?_
      refine c_no (by exact congrArg Value.bool (decide_eq_false hc97)) ?_
      refine c_exit ?_
      repeat refine c_seq ?_
      refine c_region ?_
      refine l_op (o_val (r_mv) ?_)
      refine l_op (o_val (r_fa rfl fo76_6) ?_)
      refine l_op (o_val (r_slAo (o := 6) (h := 32) (m := 32) (lv := none) (hv := none) (mv := none) rfl ar31 rfl rfl rfl (fun w => sbn w)) ?_)
      refine l_op (o_appB (s := (⟨some ⟨b1, 6, none⟩, 32, 32, t.tag⟩ : Sl)) (l' := [1] ++ t.head ++ [UInt8.ofNat t.cs.len] ++ cavsB (t.cs.l.take i) ++ t.tag) (len' := ln + 32) rfl rfl H (i := 2) rfl sl29 Try.underlying29 rfl rfl (H.slTail (i := 0) (o := 6) (pre := [V64 t.serial, .string ⟨(t.tenant).toArray⟩, V8 t.rights, VI t.from_, VI t.until_, t.cs.v]) rfl rfl (show (t.tag).length = 32 from htag) (by decide)) (by omega) (fun a108 c109 w H => ?_))
      replace H : Hp _ w _ ([_, _, .own a108 (ln + 32) c109 (([1] ++ t.head ++ [UInt8.ofNat t.cs.len] ++ cavsB (t.cs.l.take i) ++ t.tag).map V8) 5 1, _]) := H
      refine l_op (o_val (r_as) ?_)
      refine l_op (o_val (r_as) ?_)
      first | refine l_end ?_ | refine l_nil ?_
      refine c_ret ?_
      try dsimp only [Exit.then, Exit.inBlock]
      refine e_retN (vs := [.slice (hd a108) (ln + 32) c109, VI 0]) _ Try.results82 rfl (resT (v := .slice (hd a108) (ln + 32) c109) rfl (resT (v := VI 0) rfl (resZ))) ?_
      refine ⟨_, rfl, ?_⟩
      have hi2 : i = t.cs.len := by omega
      refine ⟨_, _, _, rfl, by omega, ?_⟩
      rw [List.take_of_length_le (by have := hc.ln; omega)] at H
      exact H.sub (.cons _ (.cons _ (.cons_cons _ (List.nil_sublist _))))
   ·
    refine (o_bslB ([UInt8.ofNat t.cs.len]) H sl29 zc5 rfl rfl (by decide) (fun b110 w H hb110 => ?_))
    replace H : Hp _ w _ ([_, _, .own (some b110) 1 1 (([UInt8.ofNat t.cs.len]).map V8) 5 1]) := H
    refine ⟨H.sub (.cons_cons _ (List.nil_sublist _)), ?_⟩
    replace HS := H.sub (.cons_cons _ (List.nil_sublist _))
    refine t_step 0 rfl (by kernel_rfl) (o_bslB ([(1 : UInt8)]) H sl29 zc5 rfl rfl (by decide) (fun b111 w H hb111 => ?_))
    replace H : Hp _ w _ ([_, _, _, .own (some b111) 1 1 (([(1 : UInt8)]).map V8) 5 1]) := H
    refine ⟨H.sub (.cons_cons _ (List.nil_sublist _)), ?_⟩
    replace HS := H.sub (.cons_cons _ (List.nil_sublist _))
    refine t_step 3 rfl (by kernel_rfl) (o_appB (s := ⟨hd a68, n69, c70, t.head⟩) (l' := [(1 : UInt8)] ++ t.head) (len' := 1 + n69) rfl rfl H (i := 3) rfl sl29 Try.underlying29 rfl rfl (H.slOwn (i := 1) rfl) (by omega) (fun a112 c113 w H => ?_))
    replace H : Hp _ w _ ([_, _, _, .own a112 (1 + n69) c113 (([(1 : UInt8)] ++ t.head).map V8) 5 1]) := H
    refine ⟨H.sub (.cons_cons _ (List.nil_sublist _)), ?_⟩
    replace HS := H.sub (.cons_cons _ (List.nil_sublist _))
    refine t_step 9 rfl (by kernel_rfl) (o_appB (s := ⟨hd (some b110), 1, 1, [UInt8.ofNat t.cs.len]⟩) (l' := [(1 : UInt8)] ++ t.head ++ ([UInt8.ofNat t.cs.len])) (len' := 1 + n69 + 1) rfl rfl H (i := 3) rfl sl29 Try.underlying29 rfl rfl (H.slOwn (i := 2) rfl) (by omega) (fun a114 c115 w H => ?_))
    replace H : Hp _ w _ ([_, _, _, .own a114 (1 + n69 + 1) c115 (([(1 : UInt8)] ++ t.head ++ ([UInt8.ofNat t.cs.len])).map V8) 5 1]) := H
    refine ⟨H.sub (.cons_cons _ (List.nil_sublist _)), ?_⟩
    replace HS := H.sub (.cons_cons _ (List.nil_sublist _))
    refine t_take 10 rfl (by kernel_rfl) (by kernel_rfl) (by kernel_rfl) (fun _ _ _ h => h) (fun w HS => r_as) HS ?_
    refine t_done (by kernel_rfl) ?_
    clear HS
    repeat refine c_seq ?_
    refine c_region ?_
    refine l_op (o_val (r_as) ?_)
    first | refine l_end ?_ | refine l_nil ?_
    repeat refine c_seq ?_
    refine c_block ?_
    repeat refine c_seq ?_
    refine c_loop4 (fun (i : Nat) (a : Option Nat) (ln : Nat) (k : Nat) => [(1, .pointer (some ⟨b1, 0, none⟩)), (4, .slice (hd a) ln k), (5, VI (i : Int))])
      (fun (i : Nat) (a : Option Nat) (ln : Nat) (k : Nat) w => (i ≤ t.cs.len ∧ ln ≤ t.tenant.length + 66 + 9 * i) ∧ Hp w0 w [] ([.blk b1 ([V64 t.serial, .string ⟨(t.tenant).toArray⟩, V8 t.rights, VI t.from_, VI t.until_, t.cs.v] ++ (t.tag).map V8) 76, .own a68 n69 c70 ((t.head).map V8) 5 1, .own (some b110) 1 1 (([UInt8.ofNat t.cs.len]).map V8) 5 1, .own a ln k (([1] ++ t.head ++ [UInt8.ofNat t.cs.len] ++ cavsB (t.cs.l.take i)).map V8) 5 1]))
      (fun (i : Nat) (a : Option Nat) (ln : Nat) (k : Nat) => t.cs.len - i) 0 a114 (1 + n69 + 1) c115 ⟨rfl, rfl, rfl, trivial⟩ ⟨⟨Nat.zero_le _, by omega⟩, (by rw [show cavsB (t.cs.l.take 0) = [] from rfl, List.append_nil]; exact H)⟩ ?_
    clear H
    rintro i a ln k τ w ⟨⟨hi, hln⟩, H⟩
    repeat refine c_seq ?_
    refine c_region ?_
    refine l_op (o_val (r_mv) ?_)
    refine l_op (o_val (r_fa rfl fo76_5) ?_)
    refine l_op (o_val (r_ld (v := t.cs.v) H (i := 0) rfl rfl ct74 rfl) ?_)
    refine l_op (o_val (r_lens el74 rfl) ?_)
    refine l_op (o_val (r_bin (a := (i : Int)) (b := (t.cs.len : Int)) rfl rfl (fun _ => b_lss)) ?_)
    first | refine l_end ?_ | refine l_nil ?_
    by_cases hc116 : (i : Int) < (t.cs.len : Int)
    ·
     repeat refine c_seq ?_
     refine c_yes (by exact congrArg Value.bool (decide_eq_true hc116)) ?_
     refine c_skip ?_
     repeat refine c_seq ?_
     refine c_block ?_
     repeat refine c_seq ?_
     refine c_region ?_
     refine l_op (o_val (r_mv) ?_)
     refine l_op (o_val (r_fa rfl fo76_5) ?_)
     refine l_op (o_val (r_ld (v := t.cs.v) H (i := 0) rfl rfl ct74 rfl) ?_)
     refine l_op (o_val (r_mv) ?_)
     have ah119 := ((hc.up H)).addr (by decide) (by first | omega | (dsimp only; omega))
     obtain ⟨ab117, ao118, ah119⟩ := ah119
     refine l_op (o_val (r_isN i rfl rfl el74 ah119 (by omega) (by (try simp only [Sl.cut]); omega)) ?_)
     have he121 : ∃ c, t.cs.l[i]? = some c := ⟨_, List.getElem?_eq_getElem (by have := ((hc.up H)).ln; (try dsimp only at this ⊢); omega)⟩
     obtain ⟨e120, he121⟩ := he121
     have hez122 := ((hc.up H)).sz e120 (List.mem_of_getElem? he121)
     refine l_op (o_val (r_ldRow (s := t.cs) (k := i) (hc.up H) ah119 rfl rt78 (by decide) he121) ?_)
     refine l_op (o_callR Try.func120 rfl rfl rfl (caveat14_ret _ e120 (hb.cs _ (List.mem_of_getElem? (by assumption)))) ?_)
     rintro _ w ⟨a123, c124, rfl, Hc⟩
     replace H : Hp _ w _ ([_, _, _, _, .own a123 9 c124 ((cavB e120).map V8) 5 1]) := H.call Hc
     clear Hc
     refine l_op (o_appB (s := ⟨hd a123, 9, c124, cavB e120⟩) (l' := [1] ++ t.head ++ [UInt8.ofNat t.cs.len] ++ cavsB (t.cs.l.take i) ++ (cavB e120)) (len' := ln + 9) rfl rfl H (i := 3) rfl sl29 Try.underlying29 rfl rfl (H.slOwn (i := 4) rfl) (by omega) (fun a125 c126 w H => ?_))
     replace H : Hp _ w _ ([_, _, _, .own a125 (ln + 9) c126 (([1] ++ t.head ++ [UInt8.ofNat t.cs.len] ++ cavsB (t.cs.l.take i) ++ (cavB e120)).map V8) 5 1, _]) := H
     refine l_op (o_val (r_as) ?_)
     first | refine l_end ?_ | refine l_nil ?_
     repeat refine c_seq ?_
     refine c_region ?_
     refine l_op (o_val (r_mv) ?_)
     refine l_op (o_val (r_bin (a := (i : Int)) (b := 1) rfl rfl (fun _ => b_add (by omega) (by omega))) ?_)
     refine l_op (o_val (r_as) ?_)
     first | refine l_end ?_ | refine l_nil ?_
     rw [List.append_assoc, cavsB_succ t.cs.l i e120 he121] at H
     refine round_end (i + 1, a125, ln + 9, c126) ?_ ?_ ?_
     · exact ⟨rfl, rfl, show VI ((i : Int) + 1) = VI ((i + 1 : Nat) : Int) from congrArg VI (by omega), trivial⟩
     · refine ⟨?_, ?_⟩
       · try dsimp only
         exact ⟨by omega, by omega⟩
       · exact H.sub (.cons_cons _ (.cons_cons _ (.cons_cons _ (.cons_cons _ (List.nil_sublist _)))))
     · show t.cs.len - (i + 1 : Nat) < t.cs.len - i; omega
    ·
     repeat refine c_seq ?_
     refine c_no (by exact congrArg Value.bool (decide_eq_false hc116)) ?_
     refine c_exit ?_
     repeat refine c_seq ?_
     refine c_region ?_
     refine l_op (o_val (r_mv) ?_)
     refine l_op (o_val (r_fa rfl fo76_6) ?_)
     refine l_op (o_val (r_slAo (o := 6) (h := 32) (m := 32) (lv := none) (hv := none) (mv := none) rfl ar31 rfl rfl rfl (fun w => sbn w)) ?_)
     refine l_op (o_appB (s := (⟨some ⟨b1, 6, none⟩, 32, 32, t.tag⟩ : Sl)) (l' := [1] ++ t.head ++ [UInt8.ofNat t.cs.len] ++ cavsB (t.cs.l.take i) ++ t.tag) (len' := ln + 32) rfl rfl H (i := 3) rfl sl29 Try.underlying29 rfl rfl (H.slTail (i := 0) (o := 6) (pre := [V64 t.serial, .string ⟨(t.tenant).toArray⟩, V8 t.rights, VI t.from_, VI t.until_, t.cs.v]) rfl rfl (show (t.tag).length = 32 from htag) (by decide)) (by omega) (fun a127 c128 w H => ?_))
     replace H : Hp _ w _ ([_, _, _, .own a127 (ln + 32) c128 (([1] ++ t.head ++ [UInt8.ofNat t.cs.len] ++ cavsB (t.cs.l.take i) ++ t.tag).map V8) 5 1]) := H
     refine l_op (o_val (r_as) ?_)
     refine l_op (o_val (r_as) ?_)
     first | refine l_end ?_ | refine l_nil ?_
     refine c_ret ?_
     try dsimp only [Exit.then, Exit.inBlock]
     refine e_retN (vs := [.slice (hd a127) (ln + 32) c128, VI 0]) _ Try.results82 rfl (resT (v := .slice (hd a127) (ln + 32) c128) rfl (resT (v := VI 0) rfl (resZ))) ?_
     refine ⟨_, rfl, ?_⟩
     have hi2 : i = t.cs.len := by omega
     refine ⟨_, _, _, rfl, by omega, ?_⟩
     rw [List.take_of_length_le (by have := hc.ln; omega)] at H
     exact H.sub (.cons _ (.cons _ (.cons _ (.cons_cons _ (List.nil_sublist _)))))
  ·
   refine (o_bslB ([UInt8.ofNat t.cs.len]) H sl29 zc5 rfl rfl (by decide) (fun b129 w H hb129 => ?_))
   replace H : Hp _ w _ ([_, .own (some b129) 1 1 (([UInt8.ofNat t.cs.len]).map V8) 5 1]) := H
   refine ⟨H.sub (.cons_cons _ (List.nil_sublist _)), ?_⟩
   replace HS := H.sub (.cons_cons _ (List.nil_sublist _))
   refine t_all [0, 2] (by kernel_rfl) (by simp) (all_cons (w_op 0 rfl ?_) (all_cons (w_op 2 rfl ?_) (all_nil)))
   ·
    refine (o_bslB ([(1 : UInt8)]) H sl29 zc5 rfl rfl (by decide) (fun b130 w H hb130 => ?_))
    replace H : Hp _ w _ ([_, _, .own (some b130) 1 1 (([(1 : UInt8)]).map V8) 5 1]) := H
    refine ⟨H.sub (.cons_cons _ (List.nil_sublist _)), ?_⟩
    replace HS := H.sub (.cons_cons _ (List.nil_sublist _))
    refine t_step 2 rfl (by kernel_rfl) (o_callR Try.func126 rfl rfl rfl (head14_ret _ t (hc.up H) (show (t.tag).length = 32 from htag) (by first | omega | (dsimp only; omega) | simp) hb) ?_)
    rintro _ w ⟨a131, n132, c133, rfl, hn134, hh135, Hc⟩
    replace H : Hp _ w _ ([_, _, _, .own a131 n132 c133 ((t.head).map V8) 5 1]) := H.call Hc
    clear Hc
    try dsimp only at hn134
    refine ⟨H.sub (.cons_cons _ (List.nil_sublist _)), ?_⟩
    replace HS := H.sub (.cons_cons _ (List.nil_sublist _))
    refine t_step 3 rfl (by kernel_rfl) (o_appB (s := ⟨hd a131, n132, c133, t.head⟩) (l' := [(1 : UInt8)] ++ t.head) (len' := 1 + n132) rfl rfl H (i := 2) rfl sl29 Try.underlying29 rfl rfl (H.slOwn (i := 3) rfl) (by omega) (fun a136 c137 w H => ?_))
    replace H : Hp _ w _ ([_, _, .own a136 (1 + n132) c137 (([(1 : UInt8)] ++ t.head).map V8) 5 1, _]) := H
    refine ⟨H.sub (.cons_cons _ (List.nil_sublist _)), ?_⟩
    replace HS := H.sub (.cons_cons _ (List.nil_sublist _))
    refine t_step 9 rfl (by kernel_rfl) (o_appB (s := ⟨hd (some b129), 1, 1, [UInt8.ofNat t.cs.len]⟩) (l' := [(1 : UInt8)] ++ t.head ++ ([UInt8.ofNat t.cs.len])) (len' := 1 + n132 + 1) rfl rfl H (i := 2) rfl sl29 Try.underlying29 rfl rfl (H.slOwn (i := 1) rfl) (by omega) (fun a138 c139 w H => ?_))
    replace H : Hp _ w _ ([_, _, .own a138 (1 + n132 + 1) c139 (([(1 : UInt8)] ++ t.head ++ ([UInt8.ofNat t.cs.len])).map V8) 5 1, _]) := H
    refine ⟨H.sub (.cons_cons _ (List.nil_sublist _)), ?_⟩
    replace HS := H.sub (.cons_cons _ (List.nil_sublist _))
    refine t_take 10 rfl (by kernel_rfl) (by kernel_rfl) (by kernel_rfl) (fun _ _ _ h => h) (fun w HS => r_as) HS ?_
    refine t_done (by kernel_rfl) ?_
    clear HS
    repeat refine c_seq ?_
    refine c_region ?_
    refine l_op (o_val (r_as) ?_)
    first | refine l_end ?_ | refine l_nil ?_
    repeat refine c_seq ?_
    refine c_block ?_
    repeat refine c_seq ?_
    refine c_loop4 (fun (i : Nat) (a : Option Nat) (ln : Nat) (k : Nat) => [(1, .pointer (some ⟨b1, 0, none⟩)), (4, .slice (hd a) ln k), (5, VI (i : Int))])
      (fun (i : Nat) (a : Option Nat) (ln : Nat) (k : Nat) w => (i ≤ t.cs.len ∧ ln ≤ t.tenant.length + 66 + 9 * i) ∧ Hp w0 w [] ([.blk b1 ([V64 t.serial, .string ⟨(t.tenant).toArray⟩, V8 t.rights, VI t.from_, VI t.until_, t.cs.v] ++ (t.tag).map V8) 76, .own (some b129) 1 1 (([UInt8.ofNat t.cs.len]).map V8) 5 1, .own a ln k (([1] ++ t.head ++ [UInt8.ofNat t.cs.len] ++ cavsB (t.cs.l.take i)).map V8) 5 1, .own a131 n132 c133 ((t.head).map V8) 5 1]))
      (fun (i : Nat) (a : Option Nat) (ln : Nat) (k : Nat) => t.cs.len - i) 0 a138 (1 + n132 + 1) c139 ⟨rfl, rfl, rfl, trivial⟩ ⟨⟨Nat.zero_le _, by omega⟩, (by rw [show cavsB (t.cs.l.take 0) = [] from rfl, List.append_nil]; exact H)⟩ ?_
    clear H
    rintro i a ln k τ w ⟨⟨hi, hln⟩, H⟩
    repeat refine c_seq ?_
    refine c_region ?_
    refine l_op (o_val (r_mv) ?_)
    refine l_op (o_val (r_fa rfl fo76_5) ?_)
    refine l_op (o_val (r_ld (v := t.cs.v) H (i := 0) rfl rfl ct74 rfl) ?_)
    refine l_op (o_val (r_lens el74 rfl) ?_)
    refine l_op (o_val (r_bin (a := (i : Int)) (b := (t.cs.len : Int)) rfl rfl (fun _ => b_lss)) ?_)
    first | refine l_end ?_ | refine l_nil ?_
    by_cases hc140 : (i : Int) < (t.cs.len : Int)
    ·
     repeat refine c_seq ?_
     refine c_yes (by exact congrArg Value.bool (decide_eq_true hc140)) ?_
     refine c_skip ?_
     repeat refine c_seq ?_
     refine c_block ?_
     repeat refine c_seq ?_
     refine c_region ?_
     refine l_op (o_val (r_mv) ?_)
     refine l_op (o_val (r_fa rfl fo76_5) ?_)
     refine l_op (o_val (r_ld (v := t.cs.v) H (i := 0) rfl rfl ct74 rfl) ?_)
     refine l_op (o_val (r_mv) ?_)
     have ah143 := ((hc.up H)).addr (by decide) (by first | omega | (dsimp only; omega))
     obtain ⟨ab141, ao142, ah143⟩ := ah143
     refine l_op (o_val (r_isN i rfl rfl el74 ah143 (by omega) (by (try simp only [Sl.cut]); omega)) ?_)
     have he145 : ∃ c, t.cs.l[i]? = some c := ⟨_, List.getElem?_eq_getElem (by have := ((hc.up H)).ln; (try dsimp only at this ⊢); omega)⟩
     obtain ⟨e144, he145⟩ := he145
     have hez146 := ((hc.up H)).sz e144 (List.mem_of_getElem? he145)
     refine l_op (o_val (r_ldRow (s := t.cs) (k := i) (hc.up H) ah143 rfl rt78 (by decide) he145) ?_)
     refine l_op (o_callR Try.func120 rfl rfl rfl (caveat14_ret _ e144 (hb.cs _ (List.mem_of_getElem? (by assumption)))) ?_)
     rintro _ w ⟨a147, c148, rfl, Hc⟩
     replace H : Hp _ w _ ([_, _, _, _, .own a147 9 c148 ((cavB e144).map V8) 5 1]) := H.call Hc
     clear Hc
     refine l_op (o_appB (s := ⟨hd a147, 9, c148, cavB e144⟩) (l' := [1] ++ t.head ++ [UInt8.ofNat t.cs.len] ++ cavsB (t.cs.l.take i) ++ (cavB e144)) (len' := ln + 9) rfl rfl H (i := 2) rfl sl29 Try.underlying29 rfl rfl (H.slOwn (i := 4) rfl) (by omega) (fun a149 c150 w H => ?_))
     replace H : Hp _ w _ ([_, _, .own a149 (ln + 9) c150 (([1] ++ t.head ++ [UInt8.ofNat t.cs.len] ++ cavsB (t.cs.l.take i) ++ (cavB e144)).map V8) 5 1, _, _]) := H
     refine l_op (o_val (r_as) ?_)
     first | refine l_end ?_ | refine l_nil ?_
     repeat refine c_seq ?_
     refine c_region ?_
     refine l_op (o_val (r_mv) ?_)
     refine l_op (o_val (r_bin (a := (i : Int)) (b := 1) rfl rfl (fun _ => b_add (by omega) (by omega))) ?_)
     refine l_op (o_val (r_as) ?_)
     first | refine l_end ?_ | refine l_nil ?_
     rw [List.append_assoc, cavsB_succ t.cs.l i e144 he145] at H
     refine round_end (i + 1, a149, ln + 9, c150) ?_ ?_ ?_
     · exact ⟨rfl, rfl, show VI ((i : Int) + 1) = VI ((i + 1 : Nat) : Int) from congrArg VI (by omega), trivial⟩
     · refine ⟨?_, ?_⟩
       · try dsimp only
         exact ⟨by omega, by omega⟩
       · exact H.sub (.cons_cons _ (.cons_cons _ (.cons_cons _ (.cons_cons _ (List.nil_sublist _)))))
     · show t.cs.len - (i + 1 : Nat) < t.cs.len - i; omega
    ·
     repeat refine c_seq ?_
     refine c_no (by exact congrArg Value.bool (decide_eq_false hc140)) ?_
     refine c_exit ?_
     repeat refine c_seq ?_
     refine c_region ?_
     refine l_op (o_val (r_mv) ?_)
     refine l_op (o_val (r_fa rfl fo76_6) ?_)
     refine l_op (o_val (r_slAo (o := 6) (h := 32) (m := 32) (lv := none) (hv := none) (mv := none) rfl ar31 rfl rfl rfl (fun w => sbn w)) ?_)
     refine l_op (o_appB (s := (⟨some ⟨b1, 6, none⟩, 32, 32, t.tag⟩ : Sl)) (l' := [1] ++ t.head ++ [UInt8.ofNat t.cs.len] ++ cavsB (t.cs.l.take i) ++ t.tag) (len' := ln + 32) rfl rfl H (i := 2) rfl sl29 Try.underlying29 rfl rfl (H.slTail (i := 0) (o := 6) (pre := [V64 t.serial, .string ⟨(t.tenant).toArray⟩, V8 t.rights, VI t.from_, VI t.until_, t.cs.v]) rfl rfl (show (t.tag).length = 32 from htag) (by decide)) (by omega) (fun a151 c152 w H => ?_))
     replace H : Hp _ w _ ([_, _, .own a151 (ln + 32) c152 (([1] ++ t.head ++ [UInt8.ofNat t.cs.len] ++ cavsB (t.cs.l.take i) ++ t.tag).map V8) 5 1, _]) := H
     refine l_op (o_val (r_as) ?_)
     refine l_op (o_val (r_as) ?_)
     first | refine l_end ?_ | refine l_nil ?_
     refine c_ret ?_
     try dsimp only [Exit.then, Exit.inBlock]
     refine e_retN (vs := [.slice (hd a151) (ln + 32) c152, VI 0]) _ Try.results82 rfl (resT (v := .slice (hd a151) (ln + 32) c152) rfl (resT (v := VI 0) rfl (resZ))) ?_
     refine ⟨_, rfl, ?_⟩
     have hi2 : i = t.cs.len := by omega
     refine ⟨_, _, _, rfl, by omega, ?_⟩
     rw [List.take_of_length_le (by have := hc.ln; omega)] at H
     exact H.sub (.cons _ (.cons _ (.cons_cons _ (List.nil_sublist _))))
   ·
    refine (o_callR Try.func126 rfl rfl rfl (head14_ret _ t (hc.up H) (show (t.tag).length = 32 from htag) (by first | omega | (dsimp only; omega) | simp) hb) ?_)
    rintro _ w ⟨a153, n154, c155, rfl, hn156, hh157, Hc⟩
    replace H : Hp _ w _ ([_, _, .own a153 n154 c155 ((t.head).map V8) 5 1]) := H.call Hc
    clear Hc
    try dsimp only at hn156
    refine ⟨H.sub (.cons_cons _ (List.nil_sublist _)), ?_⟩
    replace HS := H.sub (.cons_cons _ (List.nil_sublist _))
    refine t_step 0 rfl (by kernel_rfl) (o_bslB ([(1 : UInt8)]) H sl29 zc5 rfl rfl (by decide) (fun b158 w H hb158 => ?_))
    replace H : Hp _ w _ ([_, _, _, .own (some b158) 1 1 (([(1 : UInt8)]).map V8) 5 1]) := H
    refine ⟨H.sub (.cons_cons _ (List.nil_sublist _)), ?_⟩
    replace HS := H.sub (.cons_cons _ (List.nil_sublist _))
    refine t_step 3 rfl (by kernel_rfl) (o_appB (s := ⟨hd a153, n154, c155, t.head⟩) (l' := [(1 : UInt8)] ++ t.head) (len' := 1 + n154) rfl rfl H (i := 3) rfl sl29 Try.underlying29 rfl rfl (H.slOwn (i := 2) rfl) (by omega) (fun a159 c160 w H => ?_))
    replace H : Hp _ w _ ([_, _, _, .own a159 (1 + n154) c160 (([(1 : UInt8)] ++ t.head).map V8) 5 1]) := H
    refine ⟨H.sub (.cons_cons _ (List.nil_sublist _)), ?_⟩
    replace HS := H.sub (.cons_cons _ (List.nil_sublist _))
    refine t_step 9 rfl (by kernel_rfl) (o_appB (s := ⟨hd (some b129), 1, 1, [UInt8.ofNat t.cs.len]⟩) (l' := [(1 : UInt8)] ++ t.head ++ ([UInt8.ofNat t.cs.len])) (len' := 1 + n154 + 1) rfl rfl H (i := 3) rfl sl29 Try.underlying29 rfl rfl (H.slOwn (i := 1) rfl) (by omega) (fun a161 c162 w H => ?_))
    replace H : Hp _ w _ ([_, _, _, .own a161 (1 + n154 + 1) c162 (([(1 : UInt8)] ++ t.head ++ ([UInt8.ofNat t.cs.len])).map V8) 5 1]) := H
    refine ⟨H.sub (.cons_cons _ (List.nil_sublist _)), ?_⟩
    replace HS := H.sub (.cons_cons _ (List.nil_sublist _))
    refine t_take 10 rfl (by kernel_rfl) (by kernel_rfl) (by kernel_rfl) (fun _ _ _ h => h) (fun w HS => r_as) HS ?_
    refine t_done (by kernel_rfl) ?_
    clear HS
    repeat refine c_seq ?_
    refine c_region ?_
    refine l_op (o_val (r_as) ?_)
    first | refine l_end ?_ | refine l_nil ?_
    repeat refine c_seq ?_
    refine c_block ?_
    repeat refine c_seq ?_
    refine c_loop4 (fun (i : Nat) (a : Option Nat) (ln : Nat) (k : Nat) => [(1, .pointer (some ⟨b1, 0, none⟩)), (4, .slice (hd a) ln k), (5, VI (i : Int))])
      (fun (i : Nat) (a : Option Nat) (ln : Nat) (k : Nat) w => (i ≤ t.cs.len ∧ ln ≤ t.tenant.length + 66 + 9 * i) ∧ Hp w0 w [] ([.blk b1 ([V64 t.serial, .string ⟨(t.tenant).toArray⟩, V8 t.rights, VI t.from_, VI t.until_, t.cs.v] ++ (t.tag).map V8) 76, .own (some b129) 1 1 (([UInt8.ofNat t.cs.len]).map V8) 5 1, .own a153 n154 c155 ((t.head).map V8) 5 1, .own a ln k (([1] ++ t.head ++ [UInt8.ofNat t.cs.len] ++ cavsB (t.cs.l.take i)).map V8) 5 1]))
      (fun (i : Nat) (a : Option Nat) (ln : Nat) (k : Nat) => t.cs.len - i) 0 a161 (1 + n154 + 1) c162 ⟨rfl, rfl, rfl, trivial⟩ ⟨⟨Nat.zero_le _, by omega⟩, (by rw [show cavsB (t.cs.l.take 0) = [] from rfl, List.append_nil]; exact H)⟩ ?_
    clear H
    rintro i a ln k τ w ⟨⟨hi, hln⟩, H⟩
    repeat refine c_seq ?_
    refine c_region ?_
    refine l_op (o_val (r_mv) ?_)
    refine l_op (o_val (r_fa rfl fo76_5) ?_)
    refine l_op (o_val (r_ld (v := t.cs.v) H (i := 0) rfl rfl ct74 rfl) ?_)
    refine l_op (o_val (r_lens el74 rfl) ?_)
    refine l_op (o_val (r_bin (a := (i : Int)) (b := (t.cs.len : Int)) rfl rfl (fun _ => b_lss)) ?_)
    first | refine l_end ?_ | refine l_nil ?_
    by_cases hc163 : (i : Int) < (t.cs.len : Int)
    ·
     repeat refine c_seq ?_
     refine c_yes (by exact congrArg Value.bool (decide_eq_true hc163)) ?_
     refine c_skip ?_
     repeat refine c_seq ?_
     refine c_block ?_
     repeat refine c_seq ?_
     refine c_region ?_
     refine l_op (o_val (r_mv) ?_)
     refine l_op (o_val (r_fa rfl fo76_5) ?_)
     refine l_op (o_val (r_ld (v := t.cs.v) H (i := 0) rfl rfl ct74 rfl) ?_)
     refine l_op (o_val (r_mv) ?_)
     have ah166 := ((hc.up H)).addr (by decide) (by first | omega | (dsimp only; omega))
     obtain ⟨ab164, ao165, ah166⟩ := ah166
     refine l_op (o_val (r_isN i rfl rfl el74 ah166 (by omega) (by (try simp only [Sl.cut]); omega)) ?_)
     have he168 : ∃ c, t.cs.l[i]? = some c := ⟨_, List.getElem?_eq_getElem (by have := ((hc.up H)).ln; (try dsimp only at this ⊢); omega)⟩
     obtain ⟨e167, he168⟩ := he168
     have hez169 := ((hc.up H)).sz e167 (List.mem_of_getElem? he168)
     refine l_op (o_val (r_ldRow (s := t.cs) (k := i) (hc.up H) ah166 rfl rt78 (by decide) he168) ?_)
     refine l_op (o_callR Try.func120 rfl rfl rfl (caveat14_ret _ e167 (hb.cs _ (List.mem_of_getElem? (by assumption)))) ?_)
     rintro _ w ⟨a170, c171, rfl, Hc⟩
     replace H : Hp _ w _ ([_, _, _, _, .own a170 9 c171 ((cavB e167).map V8) 5 1]) := H.call Hc
     clear Hc
     refine l_op (o_appB (s := ⟨hd a170, 9, c171, cavB e167⟩) (l' := [1] ++ t.head ++ [UInt8.ofNat t.cs.len] ++ cavsB (t.cs.l.take i) ++ (cavB e167)) (len' := ln + 9) rfl rfl H (i := 3) rfl sl29 Try.underlying29 rfl rfl (H.slOwn (i := 4) rfl) (by omega) (fun a172 c173 w H => ?_))
     replace H : Hp _ w _ ([_, _, _, .own a172 (ln + 9) c173 (([1] ++ t.head ++ [UInt8.ofNat t.cs.len] ++ cavsB (t.cs.l.take i) ++ (cavB e167)).map V8) 5 1, _]) := H
     refine l_op (o_val (r_as) ?_)
     first | refine l_end ?_ | refine l_nil ?_
     repeat refine c_seq ?_
     refine c_region ?_
     refine l_op (o_val (r_mv) ?_)
     refine l_op (o_val (r_bin (a := (i : Int)) (b := 1) rfl rfl (fun _ => b_add (by omega) (by omega))) ?_)
     refine l_op (o_val (r_as) ?_)
     first | refine l_end ?_ | refine l_nil ?_
     rw [List.append_assoc, cavsB_succ t.cs.l i e167 he168] at H
     refine round_end (i + 1, a172, ln + 9, c173) ?_ ?_ ?_
     · exact ⟨rfl, rfl, show VI ((i : Int) + 1) = VI ((i + 1 : Nat) : Int) from congrArg VI (by omega), trivial⟩
     · refine ⟨?_, ?_⟩
       · try dsimp only
         exact ⟨by omega, by omega⟩
       · exact H.sub (.cons_cons _ (.cons_cons _ (.cons_cons _ (.cons_cons _ (List.nil_sublist _)))))
     · show t.cs.len - (i + 1 : Nat) < t.cs.len - i; omega
    ·
     repeat refine c_seq ?_
     refine c_no (by exact congrArg Value.bool (decide_eq_false hc163)) ?_
     refine c_exit ?_
     repeat refine c_seq ?_
     refine c_region ?_
     refine l_op (o_val (r_mv) ?_)
     refine l_op (o_val (r_fa rfl fo76_6) ?_)
     refine l_op (o_val (r_slAo (o := 6) (h := 32) (m := 32) (lv := none) (hv := none) (mv := none) rfl ar31 rfl rfl rfl (fun w => sbn w)) ?_)
     refine l_op (o_appB (s := (⟨some ⟨b1, 6, none⟩, 32, 32, t.tag⟩ : Sl)) (l' := [1] ++ t.head ++ [UInt8.ofNat t.cs.len] ++ cavsB (t.cs.l.take i) ++ t.tag) (len' := ln + 32) rfl rfl H (i := 3) rfl sl29 Try.underlying29 rfl rfl (H.slTail (i := 0) (o := 6) (pre := [V64 t.serial, .string ⟨(t.tenant).toArray⟩, V8 t.rights, VI t.from_, VI t.until_, t.cs.v]) rfl rfl (show (t.tag).length = 32 from htag) (by decide)) (by omega) (fun a174 c175 w H => ?_))
     replace H : Hp _ w _ ([_, _, _, .own a174 (ln + 32) c175 (([1] ++ t.head ++ [UInt8.ofNat t.cs.len] ++ cavsB (t.cs.l.take i) ++ t.tag).map V8) 5 1]) := H
     refine l_op (o_val (r_as) ?_)
     refine l_op (o_val (r_as) ?_)
     first | refine l_end ?_ | refine l_nil ?_
     refine c_ret ?_
     try dsimp only [Exit.then, Exit.inBlock]
     refine e_retN (vs := [.slice (hd a174) (ln + 32) c175, VI 0]) _ Try.results82 rfl (resT (v := .slice (hd a174) (ln + 32) c175) rfl (resT (v := VI 0) rfl (resZ))) ?_
     refine ⟨_, rfl, ?_⟩
     have hi2 : i = t.cs.len := by omega
     refine ⟨_, _, _, rfl, by omega, ?_⟩
     rw [List.take_of_length_le (by have := hc.ln; omega)] at H
     exact H.sub (.cons _ (.cons _ (.cons _ (.cons_cons _ (List.nil_sublist _)))))
theorem bytes14_no (w0 : World) (t : Tok) (hc : t.cs.ok cavE 2 w0) (htag : t.tag.length = 32) (hn : t.tenant.length ≤ 65536) (hm : mayT t = false) :
    Ret Try.prog 82 [.agg ([V64 t.serial, .string ⟨(t.tenant).toArray⟩, V8 t.rights, VI t.from_, VI t.until_, t.cs.v] ++ (t.tag).map V8).toArray] w0 fun v w' => v = .tuple #[.slice none 0 0, VI 1] ∧ Hp w0 w' [] [] := by
  refine ret_mk Try.func82 rfl Try.ntmps82 (by simp) ?_
  have H := Hp.refl w0 []
  repeat refine c_seq ?_
  refine c_region ?_
  refine l_op (o_box (v := .agg ([V64 t.serial, .string ⟨(t.tenant).toArray⟩, V8 t.rights, VI t.from_, VI t.until_, t.cs.v] ++ (t.tag).map V8).toArray) H rfl (fun b1 w H hb1 => ?_))
  replace H : Hp _ w _ ([.blk b1 ([V64 t.serial, .string ⟨(t.tenant).toArray⟩, V8 t.rights, VI t.from_, VI t.until_, t.cs.v] ++ (t.tag).map V8) 76]) := H
  refine l_op (o_val (r_as) ?_)
  refine l_op (o_val (r_as) ?_)
  first | refine l_end ?_ | refine l_nil ?_
  repeat refine c_seq ?_
  refine c_region ?_
  refine l_op (o_val (r_ldA (C := [V64 t.serial, .string ⟨(t.tenant).toArray⟩, V8 t.rights, VI t.from_, VI t.until_, t.cs.v] ++ (t.tag).map V8) H (i := 0) rfl rfl rt76 (by rw [List.length_append, List.length_map, (show (t.tag).length = 32 from htag)]; rfl)) ?_)
  refine l_op (o_callR Try.func76 rfl rfl rfl (may14_ret _ t (hc.up H) (show (t.tag).length = 32 from htag) (by first | omega | (dsimp only; omega) | simp)) ?_)
  rintro _ w ⟨rfl, Hc⟩
  replace H : Hp _ w _ ([_]) := H.call Hc
  clear Hc
  have hk2 : (mayT t) = false := hm
  refine l_op (o_val (r_not rfl) ?_)
  first | refine l_end ?_ | refine l_nil ?_
  repeat refine c_seq ?_
  refine c_yes (by exact congrArg Value.bool (congrArg not hk2)) ?_
  repeat refine c_seq ?_
  refine c_region ?_
  refine l_op (o_val (r_as) ?_)
  refine l_op (o_val (r_as) ?_)
  first | refine l_end ?_ | refine l_nil ?_
  refine c_ret ?_
  try dsimp only [Exit.then, Exit.inBlock]
  refine e_retN (vs := [.slice none 0 0, VI 1]) _ Try.results82 rfl (resT (v := .slice none 0 0) rfl (resT (v := VI 1) rfl (resZ))) ?_
  refine ⟨_, rfl, ?_⟩
  exact ⟨rfl, H.sub (List.nil_sublist _)⟩
end Go.Proofs.Ytjmbbhnpfmblpaa
