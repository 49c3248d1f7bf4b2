/- Lemmas for the statement WalkAll, part 5: rules of operations, walks through functions, plain laws. -/
import Derived.Test.YtomjbabllcmodaaWalkAllG4
namespace Go.Proofs.Ytomjbabllcmodaa
open Go
set_option maxRecDepth 100000
structure Fl where
  path : List UInt8
  dir : Bool
  data : Sl
def flE (x : Fl) : List Value := ([.string ⟨(x.path).toArray⟩, .bool x.dir, x.data.v] : List Value)
theorem flE_len (x : Fl) : (flE x).length = 3 := by
  show (([.string ⟨(x.path).toArray⟩, .bool x.dir, x.data.v] : List Value)).length = 3
  exact (by rfl)
theorem flE_all (x : Fl) : (flE x).all (·.oneCell') = true := by
  show (([.string ⟨(x.path).toArray⟩, .bool x.dir, x.data.v] : List Value)).all (·.oneCell') = true
  exact (by first | (simp [Value.oneCell', Sl.v]; done) | (simp only [List.all_append, List.all_cons, List.all_nil, List.all_map]; simp [Value.oneCell', Function.comp_def]))
theorem wbegin_ret (w0 : World) (g : Gl Ob) (hg : g.ok obE 33 w0) (horaw : ∀ o ∈ g.l, o.data.ok w0) (tell : Bool) :
    Ret Try.prog 30 [g.v, .bool tell] w0 fun v w' => ∃ wb mo mm Mo co, MIs Sl.v Mo (lookS g.l) ∧ MOk Mo co ∧ v = .pointer (some ⟨wb, 0, none⟩) ∧ Hp w0 w' [] [.obj mo (mobj kA Mo co), .obj mm (mobj kA [] 0), .blk wb [.map (some mo), .map (some mm), VI 0, .bool tell, .slice none 0 0, VI 0] 70] := by
  refine ret_mk Try.func30 rfl Try.ntmps30 (by simp) ?_
  have H := Hp.refl w0 []
  have hgl := hg.ln
  have hgx := hg.mx
  have hgc := hg.le
  have hmL : maxLen = 9223372036854775807 := rfl
  repeat refine c_seq ?_
  refine c_region ?_; refine l_op (o_val r_as ?_); first | refine l_end ?_ | refine l_nil ?_
  repeat refine c_seq ?_
  refine c_region ?_; refine l_op (o_val r_mv ?_); refine l_op (o_mmake kA H (fun b1 w H hb1 => ?_)); replace H : Hp _ w _ ([.obj b1 (mobj kA ([] : List (Id32 × Value × Nat)) 0)]) := H
  refine l_op (o_mmake kA H (fun b2 w H hb2 => ?_)); replace H : Hp _ w _ ([_, .obj b2 (mobj kA ([] : List (Id32 × Value × Nat)) 0)]) := H
  refine l_op (o_val (r_bld' (cells := ([.map (some b1), .map (some b2), VI 0, .bool tell, .slice none 0 0, VI 0]).toArray) (pv := [(3, .bool tell), (0, .map (some b1)), (1, .map (some b2))]) bd70 rfl rfl) ?_); refine l_op (o_box (v := .agg ([.map (some b1), .map (some b2), VI 0, .bool tell, .slice none 0 0, VI 0]).toArray) H rfl (fun b3 w H hb3 => ?_)); replace H : Hp _ w _ ([_, _, .blk b3 ([.map (some b1), .map (some b2), VI 0, .bool tell, .slice none 0 0, VI 0]) 70]) := H
  refine l_op (o_val r_as ?_); first | refine l_end ?_ | refine l_nil ?_
  repeat refine c_seq ?_
  refine c_region ?_; refine l_op (o_val r_mv ?_); refine l_op (o_val (r_lens el22 rfl) ?_); refine l_op (o_val r_mv ?_); first | refine l_end ?_ | refine l_nil ?_
  repeat refine c_seq ?_
  refine c_block ?_; repeat refine c_seq ?_
  refine c_loop4 (fun (i : Nat) (M : List (Id32 × Value × Nat)) (c : Nat) (F : Id32 → Option Sl) => [(5, .pointer (some ⟨b3, 0, none⟩)), (15, g.v), (16, VI (g.len : Int)), (17, VI (i : Int))])
    (fun (i : Nat) (M : List (Id32 × Value × Nat)) (c : Nat) (F : Id32 → Option Sl) w => (i ≤ g.len ∧ MIs Sl.v M F ∧ MOk M c ∧ F = lookS (g.l.take i)) ∧ Hp w0 w [] ([.obj b1 (mobj kA M c), .obj b2 (mobj kA ([] : List (Id32 × Value × Nat)) 0), .blk b3 ([.map (some b1), .map (some b2), VI 0, .bool tell, .slice none 0 0, VI 0]) 70]))
    (fun (i : Nat) (M : List (Id32 × Value × Nat)) (c : Nat) (F : Id32 → Option Sl) => g.len - i) 0 ([]) 0 (fun _ => none) ⟨rfl, rfl, rfl, rfl, trivial⟩ ⟨⟨Nat.zero_le _, MIs.nil, MOk.nil, rfl⟩, H⟩ ?_
  clear H
  rintro i M c F τ w ⟨⟨hil, hF, hM, hFd⟩, H⟩
  repeat refine c_seq ?_
  refine c_region ?_; refine l_op (o_val (r_bin (a := (i : Int)) (b := (g.len : Int)) rfl rfl (fun _ => b_lss)) ?_); first | refine l_end ?_ | refine l_nil ?_
  by_cases hc4 : (i : Int) < (g.len : Int)
  ·
   repeat refine c_seq ?_
   refine c_yes (by exact congrArg Value.bool (decide_eq_true hc4)) ?_; refine c_skip ?_; repeat refine c_seq ?_
   refine c_block ?_; repeat refine c_seq ?_
   refine c_region ?_; have ah7 := ((hg.up H)).addr (by decide) (by first | omega | (dsimp only; omega))
   obtain ⟨ab5, ao6, ah7⟩ := ah7
   refine l_op (o_val (r_isN i rfl rfl el22 ah7 (by omega) (by (try simp only [Sl.cut]); omega)) ?_); have he9 : ∃ c, g.l[i]? = some c := ⟨_, List.getElem?_eq_getElem (by have := ((hg.up H)).ln; (try dsimp only at this ⊢); omega)⟩
   obtain ⟨e8, he9⟩ := he9
   have hez10 := ((hg.up H)).sz e8 (List.mem_of_getElem? he9)
   have hod_e8 := horaw e8 (List.mem_of_getElem? he9)
   refine l_op (o_val (r_ldRow (s := g) (k := i) (hg.up H) ah7 rfl rt34 (by decide) he9) ?_); refine l_op (o_alloc H zc34 (fun b11 w H hb11 => ?_)); replace H : Hp _ w _ ([_, _, _, .blk b11 ((List.replicate 32 (0 : UInt8)).map V8 ++ (([.slice none 0 0] : List Value))) 34]) := H
   refine l_op (o_stW (C' := (e8.of.1).map V8 ++ (([e8.data.v] : List Value))) H (i := 3) rfl rfl rfl cs34 (by first | (simp [Value.oneCell', Sl.v, List.all_append, List.all_map]; done) | (simp only [List.all_append, List.all_cons, List.all_nil, List.all_map]; simp [Value.oneCell', Function.comp_def])) (by simp only [List.length_append, List.length_map, List.length_cons, List.length_nil, (show (List.replicate 32 (0 : UInt8)).length = 32 from (List.length_replicate ..))]) (by simp only [List.length_append, List.length_map, List.length_cons, List.length_nil, (show (e8.of.1).length = 32 from e8.of.2)]) (fun w H => ?_)); replace H : Hp _ w _ ([_, _, _, .blk b11 ((e8.of.1).map V8 ++ (([e8.data.v] : List Value))) 34]) := H
   first | refine l_end ?_ | refine l_nil ?_
   repeat refine c_seq ?_
   refine c_still mixed (by kernel_rfl) ?_; replace H := H.drew
   refine s_op (r_mv) ?_; refine s_op (r_nilc rfl) ?_; refine s_op (r_fa rfl fo70_0) ?_; refine s_op (r_ld (v := .map (some b1)) H (i := 2) rfl rfl ct67 rfl) ?_; refine s_op (r_fa rfl fo34_0) ?_; refine s_op (r_lk H (i := 3) rfl rfl rt29 (show Cut3 ((e8.of.1).map V8 ++ (([e8.data.v] : List Value))) (([] : List Value)) ((e8.of.1).map V8) (([e8.data.v] : List Value)) 0 32 from ⟨(show (e8.of.1).map V8 ++ (([e8.data.v] : List Value)) = ([] : List Value) ++ (((e8.of.1).map V8) ++ (([e8.data.v] : List Value))) from by simp only [List.nil_append]), (by rfl), (by simp only [List.length_map, (show (e8.of.1).length = 32 from e8.of.2)])⟩)) ?_; refine s_op (r_lookT (k := e8.of) nilS hF H (i := 0) rfl Try.underlying67 keyA zv_sl rfl rfl) ?_; refine s_op (r_mv) ?_; refine s_op (r_ext rfl rfl) ?_; refine s_op (r_ext rfl rfl) ?_; refine s_op (r_as) ?_; refine s_op (r_as) ?_; refine s_nil ?_; repeat refine c_seq ?_
   refine c_region ?_; refine l_op (o_val r_mv ?_); refine l_op (o_val (r_not rfl) ?_); first | refine l_end ?_ | refine l_nil ?_
   have hc120 := Bool.eq_false_or_eq_true ((F e8.of).isSome)
   rcases hc120 with hc12 | hc12
   ·
    repeat refine c_seq ?_
    refine c_no (by exact congrArg Value.bool (congrArg not hc12)) ?_; refine c_skip ?_; repeat refine c_seq ?_
    refine c_region ?_; refine l_op (o_val (r_bin (a := (i : Int)) (b := 1) rfl rfl (fun _ => b_add (by omega) (by omega))) ?_); refine l_op (o_val r_mv ?_); first | refine l_end ?_ | refine l_nil ?_
    refine round_end (i + 1, M, c, F) ?_ ?_ ?_
    · exact ⟨rfl, rfl, rfl, show VI ((i : Int) + 1) = VI ((i + 1 : Nat) : Int) from congrArg VI (by omega), trivial⟩
    · refine ⟨?_, ?_⟩
      · try dsimp only
        exact ⟨by omega, hF, hM, by rw [take_snocG he9, hFd] at *; exact lookS_same hc12⟩
      · exact H.sub (.cons_cons _ (.cons_cons _ (.cons_cons _ (List.nil_sublist _))))
    · show g.len - (i + 1 : Nat) < g.len - i; omega
   ·
    repeat refine c_seq ?_
    refine c_yes (by exact congrArg Value.bool (congrArg not hc12)) ?_; repeat refine c_seq ?_
    refine wp_held (fun w => Hp w0 w [] [.obj b2 (mobj kA ([] : List (Id32 × Value × Nat)) 0), .blk b3 ([.map (some b1), .map (some b2), VI 0, .bool tell, .slice none 0 0, VI 0]) 70, .blk b11 ((e8.of.1).map V8 ++ (([e8.data.v] : List Value))) 34]) mixed ?_; replace H := H.drew
    have HS := H.sub (.cons _ (.cons_cons _ (.cons_cons _ (.cons_cons _ (List.nil_sublist _)))))
    refine t_take 0 rfl (by kernel_rfl) (by kernel_rfl) (by kernel_rfl) (fun _ _ _ h => h) (fun w HS => r_mv) HS ?_; refine t_take 1 rfl (by kernel_rfl) (by kernel_rfl) (by kernel_rfl) (fun _ _ _ h => h) (fun w HS => r_nilc rfl) HS ?_; refine t_take 2 rfl (by kernel_rfl) (by kernel_rfl) (by kernel_rfl) (fun _ _ _ h => h) (fun w HS => r_fa rfl fo70_0) HS ?_; refine t_take 3 rfl (by kernel_rfl) (by kernel_rfl) (by kernel_rfl) (fun _ _ _ h => h) (fun w HS => r_ld (v := .map (some b1)) HS (i := 1) rfl rfl ct67 rfl) HS ?_; refine t_take 4 rfl (by kernel_rfl) (by kernel_rfl) (by kernel_rfl) (fun _ _ _ h => h) (fun w HS => r_fa rfl fo34_0) HS ?_; refine t_take 5 rfl (by kernel_rfl) (by kernel_rfl) (by kernel_rfl) (fun _ _ _ h => h) (fun w HS => r_lk HS (i := 2) rfl rfl rt29 (show Cut3 ((e8.of.1).map V8 ++ (([e8.data.v] : List Value))) (([] : List Value)) ((e8.of.1).map V8) (([e8.data.v] : List Value)) 0 32 from ⟨(show (e8.of.1).map V8 ++ (([e8.data.v] : List Value)) = ([] : List Value) ++ (((e8.of.1).map V8) ++ (([e8.data.v] : List Value))) from by simp only [List.nil_append]), (by rfl), (by simp only [List.length_map, (show (e8.of.1).length = 32 from e8.of.2)])⟩)) HS ?_; refine t_take 6 rfl (by kernel_rfl) (by kernel_rfl) (by kernel_rfl) (fun _ _ _ h => h) (fun w HS => r_fa rfl fo34_1) HS ?_; refine t_take 7 rfl (by kernel_rfl) (by kernel_rfl) (by kernel_rfl) (fun _ _ _ h => h) (fun w HS => r_l1 (v := e8.data.v) HS (i := 2) rfl rfl ct32 (show Cut3 ((e8.of.1).map V8 ++ (([e8.data.v] : List Value))) ((e8.of.1).map V8) (([e8.data.v] : List Value)) (([] : List Value)) 32 1 from ⟨(show (e8.of.1).map V8 ++ (([e8.data.v] : List Value)) = ((e8.of.1).map V8) ++ ((([e8.data.v] : List Value)) ++ (([] : List Value))) from by simp only [List.cons_append, List.nil_append]), (by simp only [List.length_map, (show (e8.of.1).length = 32 from e8.of.2)]), (by rfl)⟩)) HS ?_; refine t_step 8 rfl (by kernel_rfl) (o_mput (kv := kA) (k := e8.of) (v := Sl.v e8.data) H (i := 0) rfl Try.underlying67 keyA rfl rfl rfl (fun w H => ?_)); replace H : Hp _ w _ ([.obj b1 (mobj kA (mput e8.of (Sl.v e8.data) c M) (mclk M e8.of c)), _, _, _]) := H
    refine ⟨H.sub (.cons _ (.cons_cons _ (.cons_cons _ (.cons_cons _ (List.nil_sublist _))))), ?_⟩
    replace HS := H.sub (.cons _ (.cons_cons _ (.cons_cons _ (.cons_cons _ (List.nil_sublist _)))))
    refine t_done (by kernel_rfl) ?_
    clear HS
    repeat refine c_seq ?_
    refine c_region ?_; refine l_op (o_val (r_bin (a := (i : Int)) (b := 1) rfl rfl (fun _ => b_add (by omega) (by omega))) ?_); refine l_op (o_val r_mv ?_); first | refine l_end ?_ | refine l_nil ?_
    refine round_end (i + 1, mput e8.of (Sl.v e8.data) c M, mclk M e8.of c, fput F e8.of e8.data) ?_ ?_ ?_
    · exact ⟨rfl, rfl, rfl, show VI ((i : Int) + 1) = VI ((i + 1 : Nat) : Int) from congrArg VI (by omega), trivial⟩
    · refine ⟨?_, ?_⟩
      · try dsimp only
        exact ⟨by omega, (hF.put e8.of e8.data c), (hM.put e8.of (Sl.v e8.data)), by rw [take_snocG he9, hFd] at *; exact lookS_put hc12⟩
      · exact H.sub (.cons_cons _ (.cons_cons _ (.cons_cons _ (List.nil_sublist _))))
    · show g.len - (i + 1 : Nat) < g.len - i; omega
  ·
   repeat refine c_seq ?_
   refine c_no (by exact congrArg Value.bool (decide_eq_false hc4)) ?_; refine c_exit ?_; repeat refine c_seq ?_
   refine c_region ?_; refine l_op (o_val r_mv ?_); refine l_op (o_val r_as ?_); first | refine l_end ?_ | refine l_nil ?_
   refine c_ret ?_; try dsimp only [Exit.then, Exit.inBlock]
   refine e_ret1 (v := .pointer (some ⟨b3, 0, none⟩)) Try.results30 rfl ?_
   refine ⟨_, rfl, ?_⟩
   have hi2 : i = g.l.length := by omega
   rw [hi2, List.take_length] at hFd
   subst hFd
   exact ⟨_, _, _, _, _, hF, hM, rfl, H.sub (.cons_cons _ (.cons_cons _ (.cons_cons _ (List.nil_sublist _))))⟩
end Go.Proofs.Ytomjbabllcmodaa
namespace Go.Proofs.Ytomjbabllcmodaa
open Go Go.ChangeMaps
set_option maxRecDepth 100000
theorem Hp.callA {w0 w w' : World} {S : List Nat} {L : List Ch} (h : Hp w0 w S L) {i b : Nat} {c c' : Ch} (hi : L[i]? = some c) (hk : c.key = some b) (hk' : c'.key = some b) (hc : Hp w w' [b] [c']) : Hp w0 w' S (L.set i c') := by
  have := h.callAt hi hk hk' (L' := []) hc
  rwa [List.append_nil] at this
theorem RdS.apartK {w0 : World} {a : Option Addr} {vs : List Value} {S : List Nat} (hr : RdS w0 a vs) (hv : vs ≠ []) (hS : ∀ b ∈ S, w0.heap.size ≤ b) : Apart a S := by
  intro y hy hm
  rcases hr with h | ⟨b', o, C, T, fr, ha, hh, _⟩
  · exact hv h
  · rw [ha] at hy
    cases hy
    have h1 := (Array.getElem?_eq_some_iff.1 hh).1
    have h2 : w0.heap.size ≤ b' := hS _ hm
    omega
theorem Sl.ok.apartK {w0 : World} {x : Sl} {S : List Nat} (hx : x.ok w0) (hS : ∀ b ∈ S, w0.heap.size ≤ b) : x.l ≠ [] → Apart x.a S := fun hn => hx.rd.apartK (by simpa using hn) hS
theorem Hp.ownU {w0 w : World} {S : List Nat} {L L1 Lr T : List Ch} (h : Hp w0 w S (L ++ T)) (hp : L.Perm (L1 ++ Lr)) : Own w L1 := (h.permT hp).own1 (Lr := Lr ++ T) (List.append_assoc ..)
theorem Hp.callU {w0 w w' : World} {S : List Nat} {L L1 Lr L1' L' T : List Ch} (h : Hp w0 w S (L ++ T)) (hp : L.Perm (L1 ++ Lr)) (hc : Hp w w' (keys L1) L1') (hq : (Lr ++ L1').Perm L') : Hp w0 w' S (L' ++ T) := by
  have h1 := (h.permT hp).callG (L1 := L1) (Lr := Lr ++ T) (List.append_assoc ..) hc
  refine h1.permL (List.Perm.trans ?_ (hq.append_right T))
  rw [List.append_assoc, List.append_assoc]
  exact List.Perm.append_left _ List.perm_append_comm
section
variable {κ α : Type} [DecidableEq κ] {P : Program} {n : Nat} {σ : Nat → Value} {w w0 : World}
  {ty : TypeId} {pos : String} {aft : Array Edge} {g : Option (Nat × Bool)} {d : Nat} {t kt et : TypeId} {x y : Operand} {S : List Nat} {L : List Ch}
/-- a look-up behind the entry of the same key was made. -/
theorem r_lookE {kv : κ → Value} {enc : α → Value} {M : List (κ × Value × Nat)} {F : κ → Option α} {c c' i b : Nat} {k : κ} (z : α) (hF : MIs enc M F) (H : Hp w0 w S L) (hi : L[i]? = some (.obj b (mobj kv (mput k ((mget M k).getD (enc z)) c M) c'))) (hu : P.underlying t = some (.map kt et)) (hK : KeyOf P kt kv) (hz : ∀ w, (zeroValue et).run P w = .ok (enc z) w)
    (hx : ev n σ x = .map (some b)) (hy : ev n σ y = kv k) :
    (execOp (ev n σ) ⟨some d, .lookup t x y false, ty, pos, aft, g⟩).run P w = .ok (.value (enc ((F k).getD z))) w := by
  have := r_look (P := P) (ty := ty) (pos := pos) (aft := aft) (g := g) (d := d) H hi hu hK hz hx hy false
  rw [mget_put, if_pos rfl, hF.getD] at this
  exact this
end
end Go.Proofs.Ytomjbabllcmodaa
namespace Go.Proofs.Ytomjbabllcmodaa
open Go
set_option maxRecDepth 100000
theorem wbad_ret (w0 : World) (wb fl fc n : Nat) (fa : Option Addr) (m1 m2 : Option Nat) (tl : Bool) (hwb : (Ch.blk wb [.map m1, .map m2, VI n, .bool tl, .slice fa fl fc, VI 0] 70).ok w0) (e : Int) :
    Ret Try.prog 46 [.pointer (some ⟨wb, 0, none⟩), VI e] w0 fun v w' => v = .bool (decide (¬ e = 0)) ∧ Hp w0 w' [wb] [.blk wb [.map m1, .map m2, VI n, .bool tl, .slice fa fl fc, VI e] 70] := by
  refine ret_mk Try.func46 rfl Try.ntmps46 (by simp) ?_
  have H := Hp.start w0 (.blk wb ([.map m1, .map m2, VI (n : Int), .bool tl, .slice fa fl fc, VI 0]) 70) wb hwb rfl
  repeat refine c_seq ?_
  refine c_region ?_; refine l_op (o_val r_as ?_); first | refine l_end ?_ | refine l_nil ?_
  repeat refine c_seq ?_
  refine c_region ?_; refine l_op (o_val r_mv ?_); refine l_op (o_val (r_nilc rfl) ?_); refine l_op (o_val (r_fa rfl fo70_5) ?_); refine l_op (o_val (r_ld (v := VI 0) H (i := 0) rfl rfl ct37 rfl) ?_); refine l_op (o_val (r_bin (a := 0) (b := 0) rfl rfl (fun _ => b_eqlB true (decide_eq_true (by decide)))) ?_); first | refine l_end ?_ | refine l_nil ?_
  repeat refine c_seq ?_
  refine c_yes rfl ?_; repeat refine c_seq ?_
  refine c_region ?_; refine l_op (o_val r_mv ?_); refine l_op (o_val r_mv ?_); refine l_op (o_val (r_nilc rfl) ?_); refine l_op (o_val (r_fa rfl fo70_5) ?_); refine l_op (o_st (v := VI e) H (i := 0) rfl rfl rfl cs37 rfl (by simp only [List.length_cons, List.length_nil]; omega) (fun w H => ?_)); replace H : Hp _ w _ ([.blk wb ([.map m1, .map m2, VI (n : Int), .bool tl, .slice fa fl fc, VI e]) 70]) := H
  first | refine l_end ?_ | refine l_nil ?_
  repeat refine c_seq ?_
  refine c_region ?_; refine l_op (o_val r_mv ?_); refine l_op (o_val (r_nilc rfl) ?_); refine l_op (o_val (r_fa rfl fo70_5) ?_); refine l_op (o_val (r_ld (v := VI e) H (i := 0) rfl rfl ct37 rfl) ?_); refine l_op (o_val (r_bin (a := e) (b := 0) rfl rfl (fun _ => b_neq)) ?_); refine l_op (o_val r_as ?_); first | refine l_end ?_ | refine l_nil ?_
  refine c_ret ?_; try dsimp only [Exit.then, Exit.inBlock]
  refine e_ret1 (v := .bool (decide (e ≠ 0))) Try.results46 rfl ?_
  refine ⟨_, rfl, ?_⟩
  exact ⟨rfl, H⟩
theorem wobj_long (w0 : World) (l : List Ob) (wb mo co mm cm n fl fc : Nat) (Mo Mm : List (Id32 × Value × Nat)) (G : Id32 → Option Int) (fa : Option Addr) (tl : Bool) (_hF : MIs Sl.v Mo (lookS l)) (_hFo : MOk Mo co) (_hG : MIs VI Mm G) (_hGo : MOk Mm cm) (hn : n ≤ 1024) (k : Id32) (h : 1024 ≤ n) (hO : Own w0 [Ch.blk wb ([.map (some mo), .map (some mm), VI (n : Int), .bool tl, .slice fa fl fc, VI 0]) 70, Ch.obj mo (mobj kA Mo co), Ch.obj mm (mobj kA Mm cm)]) :
    Ret Try.prog 47 [.pointer (some ⟨wb, 0, none⟩), .agg ((k.1).map V8).toArray] w0 fun v w' => v = .tuple #[.slice none 0 0, .bool false] ∧ Hp w0 w' (keys [Ch.blk wb ([.map (some mo), .map (some mm), VI (n : Int), .bool tl, .slice fa fl fc, VI 0]) 70, Ch.obj mo (mobj kA Mo co), Ch.obj mm (mobj kA Mm cm)]) [.blk wb [.map (some mo), .map (some mm), VI (n + 1 : Nat), .bool tl, .slice fa fl fc, VI 2] 70, .obj mo (mobj kA Mo co), .obj mm (mobj kA Mm cm)] := by
  refine ret_mk Try.func47 rfl Try.ntmps47 (by simp) ?_
  have H := hO.start
  repeat refine c_seq ?_
  refine c_region ?_; refine l_op (o_box (v := .agg ((k.1).map V8).toArray) H rfl (fun b1 w H hb1 => ?_)); replace H : Hp _ w _ ([.blk wb ([.map (some mo), .map (some mm), VI (n : Int), .bool tl, .slice fa fl fc, VI 0]) 70, .obj mo (mobj kA Mo co), .obj mm (mobj kA Mm cm), .blk b1 ((k.1).map V8) 29]) := H
  refine l_op (o_val r_as ?_); refine l_op (o_val r_as ?_); first | refine l_end ?_ | refine l_nil ?_
  repeat refine c_seq ?_
  refine c_region ?_; refine l_op (o_val r_mv ?_); refine l_op (o_val (r_nilc rfl) ?_); refine l_op (o_val (r_fa rfl fo70_2) ?_); refine l_op (o_val (r_ld (v := VI (n : Int)) H (i := 0) rfl rfl ct3 rfl) ?_); refine l_op (o_val (r_bin (a := (n : Int)) (b := 1) rfl rfl (fun _ => b_add (by omega) (by omega))) ?_); refine l_op (o_val (r_nilc rfl) ?_); refine l_op (o_val (r_fa rfl fo70_2) ?_); refine l_op (o_st (v := VI ((n : Int) + 1)) H (i := 0) rfl rfl rfl cs3 rfl (by simp only [List.length_cons, List.length_nil]; omega) (fun w H => ?_)); replace H : Hp _ w _ ([.blk wb ([.map (some mo), .map (some mm), VI ((n : Int) + 1), .bool tl, .slice fa fl fc, VI 0]) 70, _, _, _]) := H
  first | refine l_end ?_ | refine l_nil ?_
  repeat refine c_seq ?_
  refine c_region ?_; refine l_op (o_val r_mv ?_); refine l_op (o_val (r_nilc rfl) ?_); refine l_op (o_val (r_fa rfl fo70_2) ?_); refine l_op (o_val (r_ld (v := VI ((n : Int) + 1)) H (i := 0) rfl rfl ct3 rfl) ?_); refine l_op (o_val (r_bin (a := (n : Int) + 1) (b := 1024) rfl rfl (fun _ => b_gtrB true (decide_eq_true (by omega)))) ?_); first | refine l_end ?_ | refine l_nil ?_
  repeat refine c_seq ?_
  refine c_yes rfl ?_; repeat refine c_seq ?_
  refine c_region ?_; refine l_op (o_val r_mv ?_); refine l_op (o_callR Try.func46 rfl rfl rfl (wbad_ret _ _ fl fc (n + 1) fa (some mo) (some mm) tl (H.has _ (List.mem_of_getElem? (i := 0) rfl)) 2) ?_); rintro _ w ⟨rfl, Hc⟩
  replace H := (H.callA (i := 0) rfl rfl rfl Hc)
  clear Hc
  replace H : Hp _ w _ ([.blk wb ([.map (some mo), .map (some mm), VI ((n : Int) + 1), .bool tl, .slice fa fl fc, VI 2]) 70, _, _, _]) := H
  first | refine l_end ?_ | refine l_nil ?_
  repeat refine c_seq ?_
  refine c_region ?_; refine l_op (o_val r_as ?_); refine l_op (o_val r_as ?_); first | refine l_end ?_ | refine l_nil ?_
  refine c_ret ?_; try dsimp only [Exit.then, Exit.inBlock]
  refine e_retN (vs := [.slice none 0 0, .bool false]) _ Try.results47 rfl (resT (v := .slice none 0 0) rfl (resT (v := .bool false) rfl (resZ))) ?_
  refine ⟨_, rfl, ?_⟩
  have en : (n : Int) + 1 = ((n + 1 : Nat) : Int) := rfl
  exact ⟨rfl, H.sub (.cons_cons _ (.cons_cons _ (.cons_cons _ (List.nil_sublist _))))⟩
theorem wobj_miss (w0 : World) (l : List Ob) (wb mo co mm cm n fl fc : Nat) (Mo Mm : List (Id32 × Value × Nat)) (G : Id32 → Option Int) (fa : Option Addr) (tl : Bool) (hF : MIs Sl.v Mo (lookS l)) (_hFo : MOk Mo co) (_hG : MIs VI Mm G) (_hGo : MOk Mm cm) (hn : n ≤ 1024) (k : Id32) (h : n < 1024) (hk : (lookS l k).isSome = false) (hO : Own w0 [Ch.blk wb ([.map (some mo), .map (some mm), VI (n : Int), .bool tl, .slice fa fl fc, VI 0]) 70, Ch.obj mo (mobj kA Mo co), Ch.obj mm (mobj kA Mm cm)]) :
    Ret Try.prog 47 [.pointer (some ⟨wb, 0, none⟩), .agg ((k.1).map V8).toArray] w0 fun v w' => v = .tuple #[.slice none 0 0, .bool false] ∧ Hp w0 w' (keys [Ch.blk wb ([.map (some mo), .map (some mm), VI (n : Int), .bool tl, .slice fa fl fc, VI 0]) 70, Ch.obj mo (mobj kA Mo co), Ch.obj mm (mobj kA Mm cm)]) [.blk wb [.map (some mo), .map (some mm), VI (n + 1 : Nat), .bool tl, .slice fa fl fc, VI 15] 70, .obj mo (mobj kA Mo co), .obj mm (mobj kA Mm cm)] := by
  refine ret_mk Try.func47 rfl Try.ntmps47 (by simp) ?_
  have H := hO.start
  repeat refine c_seq ?_
  refine c_region ?_; refine l_op (o_box (v := .agg ((k.1).map V8).toArray) H rfl (fun b1 w H hb1 => ?_)); replace H : Hp _ w _ ([.blk wb ([.map (some mo), .map (some mm), VI (n : Int), .bool tl, .slice fa fl fc, VI 0]) 70, .obj mo (mobj kA Mo co), .obj mm (mobj kA Mm cm), .blk b1 ((k.1).map V8) 29]) := H
  refine l_op (o_val r_as ?_); refine l_op (o_val r_as ?_); first | refine l_end ?_ | refine l_nil ?_
  repeat refine c_seq ?_
  refine c_region ?_; refine l_op (o_val r_mv ?_); refine l_op (o_val (r_nilc rfl) ?_); refine l_op (o_val (r_fa rfl fo70_2) ?_); refine l_op (o_val (r_ld (v := VI (n : Int)) H (i := 0) rfl rfl ct3 rfl) ?_); refine l_op (o_val (r_bin (a := (n : Int)) (b := 1) rfl rfl (fun _ => b_add (by omega) (by omega))) ?_); refine l_op (o_val (r_nilc rfl) ?_); refine l_op (o_val (r_fa rfl fo70_2) ?_); refine l_op (o_st (v := VI ((n : Int) + 1)) H (i := 0) rfl rfl rfl cs3 rfl (by simp only [List.length_cons, List.length_nil]; omega) (fun w H => ?_)); replace H : Hp _ w _ ([.blk wb ([.map (some mo), .map (some mm), VI ((n : Int) + 1), .bool tl, .slice fa fl fc, VI 0]) 70, _, _, _]) := H
  first | refine l_end ?_ | refine l_nil ?_
  repeat refine c_seq ?_
  refine c_region ?_; refine l_op (o_val r_mv ?_); refine l_op (o_val (r_nilc rfl) ?_); refine l_op (o_val (r_fa rfl fo70_2) ?_); refine l_op (o_val (r_ld (v := VI ((n : Int) + 1)) H (i := 0) rfl rfl ct3 rfl) ?_); refine l_op (o_val (r_bin (a := (n : Int) + 1) (b := 1024) rfl rfl (fun _ => b_gtrB false (decide_eq_false (by omega)))) ?_); first | refine l_end ?_ | refine l_nil ?_
  repeat refine c_seq ?_
  refine c_no rfl ?_; refine c_skip ?_; repeat refine c_seq ?_
  refine c_still mixed (by kernel_rfl) ?_; replace H := H.drew
  refine s_op (r_mv) ?_; refine s_op (r_nilc rfl) ?_; refine s_op (r_fa rfl fo70_0) ?_; refine s_op (r_ld (v := .map (some mo)) H (i := 0) rfl rfl ct67 rfl) ?_; refine s_op (r_ldAA (l := k.1) H (i := 3) rfl rfl rt29 (show (k.1).length = 32 from k.2)) ?_; refine s_op (r_lookT (k := k) nilS hF H (i := 1) rfl Try.underlying67 keyA zv_sl rfl rfl) ?_; refine s_op (r_mv) ?_; refine s_op (r_ext rfl rfl) ?_; refine s_op (r_ext rfl rfl) ?_; have hk2 : (((lookS l) k).isSome) = false := hk
  refine s_op (r_as) ?_; refine s_op (r_as) ?_; refine s_nil ?_; repeat refine c_seq ?_
  refine c_region ?_; refine l_op (o_val r_mv ?_); refine l_op (o_val (r_not rfl) ?_); first | refine l_end ?_ | refine l_nil ?_
  repeat refine c_seq ?_
  refine c_yes (by exact congrArg Value.bool (congrArg not hk2)) ?_; repeat refine c_seq ?_
  refine c_region ?_; refine l_op (o_val r_mv ?_); refine l_op (o_callR Try.func46 rfl rfl rfl (wbad_ret _ _ fl fc (n + 1) fa (some mo) (some mm) tl (H.has _ (List.mem_of_getElem? (i := 0) rfl)) 15) ?_); rintro _ w ⟨rfl, Hc⟩
  replace H := (H.callA (i := 0) rfl rfl rfl Hc)
  clear Hc
  replace H : Hp _ w _ ([.blk wb ([.map (some mo), .map (some mm), VI ((n : Int) + 1), .bool tl, .slice fa fl fc, VI 15]) 70, _, _, _]) := H
  first | refine l_end ?_ | refine l_nil ?_
  repeat refine c_seq ?_
  refine c_region ?_; refine l_op (o_val r_as ?_); refine l_op (o_val r_as ?_); first | refine l_end ?_ | refine l_nil ?_
  refine c_ret ?_; try dsimp only [Exit.then, Exit.inBlock]
  refine e_retN (vs := [.slice none 0 0, .bool false]) _ Try.results47 rfl (resT (v := .slice none 0 0) rfl (resT (v := .bool false) rfl (resZ))) ?_
  refine ⟨_, rfl, ?_⟩
  have en : (n : Int) + 1 = ((n + 1 : Nat) : Int) := rfl
  exact ⟨rfl, H.sub (.cons_cons _ (.cons_cons _ (.cons_cons _ (List.nil_sublist _))))⟩
theorem wobj_ok (w0 : World) (l : List Ob) (wb mo co mm cm n fl fc : Nat) (Mo Mm : List (Id32 × Value × Nat)) (G : Id32 → Option Int) (fa : Option Addr) (tl : Bool) (hF : MIs Sl.v Mo (lookS l)) (_hFo : MOk Mo co) (hG : MIs VI Mm G) (hGo : MOk Mm cm) (hn : n ≤ 1024) (k : Id32) (h : n < 1024) (hk : (lookS l k).isSome = true) (hgb : -1000000 ≤ (G k).getD 0 ∧ (G k).getD 0 ≤ 1000000) (hO : Own w0 [Ch.blk wb ([.map (some mo), .map (some mm), VI (n : Int), .bool tl, .slice fa fl fc, VI 0]) 70, Ch.obj mo (mobj kA Mo co), Ch.obj mm (mobj kA Mm cm)]) :
    Ret Try.prog 47 [.pointer (some ⟨wb, 0, none⟩), .agg ((k.1).map V8).toArray] w0 fun v w' => v = .tuple #[((lookS l k).getD nilS).v, .bool true] ∧ ∃ Mm' cm', MIs VI Mm' (fput G k ((G k).getD 0 + 1)) ∧ MOk Mm' cm' ∧ Hp w0 w' (keys [Ch.blk wb ([.map (some mo), .map (some mm), VI (n : Int), .bool tl, .slice fa fl fc, VI 0]) 70, Ch.obj mo (mobj kA Mo co), Ch.obj mm (mobj kA Mm cm)]) [.blk wb [.map (some mo), .map (some mm), VI (n + 1 : Nat), .bool tl, .slice fa fl fc, VI 0] 70, .obj mo (mobj kA Mo co), .obj mm (mobj kA Mm' cm')] := by
  refine ret_mk Try.func47 rfl Try.ntmps47 (by simp) ?_
  have H := hO.start
  repeat refine c_seq ?_
  refine c_region ?_; refine l_op (o_box (v := .agg ((k.1).map V8).toArray) H rfl (fun b1 w H hb1 => ?_)); replace H : Hp _ w _ ([.blk wb ([.map (some mo), .map (some mm), VI (n : Int), .bool tl, .slice fa fl fc, VI 0]) 70, .obj mo (mobj kA Mo co), .obj mm (mobj kA Mm cm), .blk b1 ((k.1).map V8) 29]) := H
  refine l_op (o_val r_as ?_); refine l_op (o_val r_as ?_); first | refine l_end ?_ | refine l_nil ?_
  repeat refine c_seq ?_
  refine c_region ?_; refine l_op (o_val r_mv ?_); refine l_op (o_val (r_nilc rfl) ?_); refine l_op (o_val (r_fa rfl fo70_2) ?_); refine l_op (o_val (r_ld (v := VI (n : Int)) H (i := 0) rfl rfl ct3 rfl) ?_); refine l_op (o_val (r_bin (a := (n : Int)) (b := 1) rfl rfl (fun _ => b_add (by omega) (by omega))) ?_); refine l_op (o_val (r_nilc rfl) ?_); refine l_op (o_val (r_fa rfl fo70_2) ?_); refine l_op (o_st (v := VI ((n : Int) + 1)) H (i := 0) rfl rfl rfl cs3 rfl (by simp only [List.length_cons, List.length_nil]; omega) (fun w H => ?_)); replace H : Hp _ w _ ([.blk wb ([.map (some mo), .map (some mm), VI ((n : Int) + 1), .bool tl, .slice fa fl fc, VI 0]) 70, _, _, _]) := H
  first | refine l_end ?_ | refine l_nil ?_
  repeat refine c_seq ?_
  refine c_region ?_; refine l_op (o_val r_mv ?_); refine l_op (o_val (r_nilc rfl) ?_); refine l_op (o_val (r_fa rfl fo70_2) ?_); refine l_op (o_val (r_ld (v := VI ((n : Int) + 1)) H (i := 0) rfl rfl ct3 rfl) ?_); refine l_op (o_val (r_bin (a := (n : Int) + 1) (b := 1024) rfl rfl (fun _ => b_gtrB false (decide_eq_false (by omega)))) ?_); first | refine l_end ?_ | refine l_nil ?_
  repeat refine c_seq ?_
  refine c_no rfl ?_; refine c_skip ?_; repeat refine c_seq ?_
  refine c_still mixed (by kernel_rfl) ?_; replace H := H.drew
  refine s_op (r_mv) ?_; refine s_op (r_nilc rfl) ?_; refine s_op (r_fa rfl fo70_0) ?_; refine s_op (r_ld (v := .map (some mo)) H (i := 0) rfl rfl ct67 rfl) ?_; refine s_op (r_ldAA (l := k.1) H (i := 3) rfl rfl rt29 (show (k.1).length = 32 from k.2)) ?_; refine s_op (r_lookT (k := k) nilS hF H (i := 1) rfl Try.underlying67 keyA zv_sl rfl rfl) ?_; refine s_op (r_mv) ?_; refine s_op (r_ext rfl rfl) ?_; refine s_op (r_ext rfl rfl) ?_; have hk2 : (((lookS l) k).isSome) = true := hk
  refine s_op (r_as) ?_; refine s_op (r_as) ?_; refine s_nil ?_; repeat refine c_seq ?_
  refine c_region ?_; refine l_op (o_val r_mv ?_); refine l_op (o_val (r_not rfl) ?_); first | refine l_end ?_ | refine l_nil ?_
  repeat refine c_seq ?_
  refine c_no (by exact congrArg Value.bool (congrArg not hk2)) ?_; refine c_skip ?_; repeat refine c_seq ?_
  refine wp_held (fun w => Hp w0 w (keys [Ch.blk wb ([.map (some mo), .map (some mm), VI (n : Int), .bool tl, .slice fa fl fc, VI 0]) 70, Ch.obj mo (mobj kA Mo co), Ch.obj mm (mobj kA Mm cm)]) [.blk wb ([.map (some mo), .map (some mm), VI ((n : Int) + 1), .bool tl, .slice fa fl fc, VI 0]) 70, .obj mo (mobj kA Mo co), .blk b1 ((k.1).map V8) 29]) mixed ?_; replace H := H.drew
  have HS := H.sub (.cons_cons _ (.cons_cons _ (.cons _ (.cons_cons _ (List.nil_sublist _)))))
  refine t_take 0 rfl (by kernel_rfl) (by kernel_rfl) (by kernel_rfl) (fun _ _ _ h => h) (fun w HS => r_mv) HS ?_; refine t_take 1 rfl (by kernel_rfl) (by kernel_rfl) (by kernel_rfl) (fun _ _ _ h => h) (fun w HS => r_nilc rfl) HS ?_; refine t_take 2 rfl (by kernel_rfl) (by kernel_rfl) (by kernel_rfl) (fun _ _ _ h => h) (fun w HS => r_fa rfl fo70_1) HS ?_; refine t_take 3 rfl (by kernel_rfl) (by kernel_rfl) (by kernel_rfl) (fun _ _ _ h => h) (fun w HS => r_ld (v := .map (some mm)) HS (i := 0) rfl rfl ct68 rfl) HS ?_; refine t_take 4 rfl (by kernel_rfl) (by kernel_rfl) (by kernel_rfl) (fun _ _ _ h => h) (fun w HS => r_ldAA (l := k.1) HS (i := 2) rfl rfl rt29 (show (k.1).length = 32 from k.2)) HS ?_; refine t_all [5, 7] (by kernel_rfl) (by simp) (all_cons (w_op 5 rfl ?_) (all_cons (w_op 7 rfl ?_) (all_nil)))
  ·
   refine (o_val (r_lookF (k := k) (0 : Int) hG H (i := 2) rfl Try.underlying68 keyA zv_i rfl rfl) ?_)
   refine ⟨H.sub (.cons_cons _ (.cons_cons _ (.cons _ (.cons_cons _ (List.nil_sublist _))))), ?_⟩
   replace HS := H.sub (.cons_cons _ (.cons_cons _ (.cons _ (.cons_cons _ (List.nil_sublist _)))))
   refine t_take 6 rfl (by kernel_rfl) (by kernel_rfl) (by kernel_rfl) (fun _ _ _ h => h) (fun w HS => r_bin (a := ((G k).getD (0 : Int))) (b := 1) rfl rfl (fun _ => b_add (by omega) (by omega))) HS ?_; refine t_step 7 rfl (by kernel_rfl) (o_ment (kv := kA) (k := k) (z := VI (0 : Int)) H (i := 2) rfl Try.underlying68 keyA zv_i rfl rfl (fun w H => ?_)); replace H : Hp _ w _ ([_, _, .obj mm (mobj kA (mput k ((mget Mm k).getD (VI (0 : Int))) cm Mm) (mclk Mm k cm)), _]) := H
   refine ⟨H.sub (.cons_cons _ (.cons_cons _ (.cons _ (.cons_cons _ (List.nil_sublist _))))), ?_⟩
   replace HS := H.sub (.cons_cons _ (.cons_cons _ (.cons _ (.cons_cons _ (List.nil_sublist _)))))
   refine t_take 8 rfl (by kernel_rfl) (by kernel_rfl) (by kernel_rfl) (fun _ _ _ h => h) (fun w HS => r_ext rfl rfl) HS ?_; refine t_step 9 rfl (by kernel_rfl) (o_mset (kv := kA) (k := k) (v := VI (((G k).getD (0 : Int)) + 1)) (c' := 0) H (i := 2) rfl (hGo.put k ((mget Mm k).getD (VI (0 : Int)))) mborn_put.2 rfl rfl rfl (fun w H => ?_)); replace H : Hp _ w _ ([_, _, .obj mm (mobj kA (mput k (VI (((G k).getD (0 : Int)) + 1)) 0 (mput k ((mget Mm k).getD (VI (0 : Int))) cm Mm)) (mclk Mm k cm)), _]) := H
   refine ⟨H.sub (.cons_cons _ (.cons_cons _ (.cons _ (.cons_cons _ (List.nil_sublist _))))), ?_⟩
   replace HS := H.sub (.cons_cons _ (.cons_cons _ (.cons _ (.cons_cons _ (List.nil_sublist _)))))
   refine t_done (by kernel_rfl) ?_
   clear HS
   repeat refine c_seq ?_
   refine c_region ?_; refine l_op (o_val r_mv ?_); refine l_op (o_val r_as ?_); refine l_op (o_val r_as ?_); first | refine l_end ?_ | refine l_nil ?_
   refine c_ret ?_; try dsimp only [Exit.then, Exit.inBlock]
   refine e_retN (vs := [(((lookS l) k).getD nilS).v, .bool true]) _ Try.results47 rfl (resT (v := (((lookS l) k).getD nilS).v) rfl (resT (v := .bool true) rfl (resZ))) ?_
   refine ⟨_, rfl, ?_⟩
   have en : (n : Int) + 1 = ((n + 1 : Nat) : Int) := rfl
   exact ⟨rfl, _, _, (MIs.ent hG k (((G k).getD (0 : Int)) + 1)), (MOk.ent (hGo.put k ((mget Mm k).getD (VI (0 : Int))))), H.sub (.cons_cons _ (.cons_cons _ (.cons_cons _ (List.nil_sublist _))))⟩
  ·
   refine (o_ment (kv := kA) (k := k) (z := VI (0 : Int)) H (i := 2) rfl Try.underlying68 keyA zv_i rfl rfl (fun w H => ?_))
   replace H : Hp _ w _ ([_, _, .obj mm (mobj kA (mput k ((mget Mm k).getD (VI (0 : Int))) cm Mm) (mclk Mm k cm)), _]) := H
   refine ⟨H.sub (.cons_cons _ (.cons_cons _ (.cons _ (.cons_cons _ (List.nil_sublist _))))), ?_⟩
   replace HS := H.sub (.cons_cons _ (.cons_cons _ (.cons _ (.cons_cons _ (List.nil_sublist _)))))
   refine t_take 8 rfl (by kernel_rfl) (by kernel_rfl) (by kernel_rfl) (fun _ _ _ h => h) (fun w HS => r_ext rfl rfl) HS ?_; refine t_step 5 rfl (by kernel_rfl) (o_val (r_lookE (k := k) (0 : Int) hG H (i := 2) rfl Try.underlying68 keyA zv_i rfl rfl) ?_); refine ⟨H.sub (.cons_cons _ (.cons_cons _ (.cons _ (.cons_cons _ (List.nil_sublist _))))), ?_⟩
   replace HS := H.sub (.cons_cons _ (.cons_cons _ (.cons _ (.cons_cons _ (List.nil_sublist _)))))
   refine t_take 6 rfl (by kernel_rfl) (by kernel_rfl) (by kernel_rfl) (fun _ _ _ h => h) (fun w HS => r_bin (a := ((G k).getD (0 : Int))) (b := 1) rfl rfl (fun _ => b_add (by omega) (by omega))) HS ?_; refine t_step 9 rfl (by kernel_rfl) (o_mset (kv := kA) (k := k) (v := VI (((G k).getD (0 : Int)) + 1)) (c' := 0) H (i := 2) rfl (hGo.put k ((mget Mm k).getD (VI (0 : Int)))) mborn_put.2 rfl rfl rfl (fun w H => ?_)); replace H : Hp _ w _ ([_, _, .obj mm (mobj kA (mput k (VI (((G k).getD (0 : Int)) + 1)) 0 (mput k ((mget Mm k).getD (VI (0 : Int))) cm Mm)) (mclk Mm k cm)), _]) := H
   refine ⟨H.sub (.cons_cons _ (.cons_cons _ (.cons _ (.cons_cons _ (List.nil_sublist _))))), ?_⟩
   replace HS := H.sub (.cons_cons _ (.cons_cons _ (.cons _ (.cons_cons _ (List.nil_sublist _)))))
   refine t_done (by kernel_rfl) ?_
   clear HS
   repeat refine c_seq ?_
   refine c_region ?_; refine l_op (o_val r_mv ?_); refine l_op (o_val r_as ?_); refine l_op (o_val r_as ?_); first | refine l_end ?_ | refine l_nil ?_
   refine c_ret ?_; try dsimp only [Exit.then, Exit.inBlock]
   refine e_retN (vs := [(((lookS l) k).getD nilS).v, .bool true]) _ Try.results47 rfl (resT (v := (((lookS l) k).getD nilS).v) rfl (resT (v := .bool true) rfl (resZ))) ?_
   refine ⟨_, rfl, ?_⟩
   have en : (n : Int) + 1 = ((n + 1 : Nat) : Int) := rfl
   exact ⟨rfl, _, _, (MIs.ent hG k (((G k).getD (0 : Int)) + 1)), (MOk.ent (hGo.put k ((mget Mm k).getD (VI (0 : Int))))), H.sub (.cons_cons _ (.cons_cons _ (.cons_cons _ (List.nil_sublist _))))⟩
end Go.Proofs.Ytomjbabllcmodaa
namespace Go.Proofs.Ytomjbabllcmodaa
open Go
set_option maxRecDepth 100000
structure WY where
  mo : Nat
  Mo : List (Id32 × Value × Nat)
  co : Nat
  mm : Nat
  Mm : List (Id32 × Value × Nat)
  cm : Nat
  G : Id32 → Option Int
  n : Nat
  tl : Bool
  fa : Option Nat
  fc : Nat
  fs : List Fl
def fch (f : Fl) : Ch := .own (f.data.a.map (·.block)) f.data.len f.data.cap (f.data.l.map V8) 5 1
abbrev WY.T (z : WY) : List Ch := z.fs.map fch
def wch (wb : Nat) (z : WY) (e : Int) : List Ch := .blk wb [.map (some z.mo), .map (some z.mm), VI z.n, .bool z.tl, .slice (hd z.fa) z.fs.length z.fc, VI e] 70 :: .obj z.mo (mobj kA z.Mo z.co) :: .obj z.mm (mobj kA z.Mm z.cm) :: .own z.fa z.fs.length z.fc (z.fs.flatMap flE) 48 3 :: z.T
structure WY.ok (l : List Ob) (z : WY) : Prop where
  hO : MIs Sl.v z.Mo (lookS l)
  hOk : MOk z.Mo z.co
  hM : MIs VI z.Mm z.G
  hMk : MOk z.Mm z.cm
  bd : ∀ k v, z.G k = some v → 0 ≤ v ∧ v ≤ z.n
  nn : z.n ≤ 1024
  fat : ∀ f ∈ z.fs, f.data.a = hd (f.data.a.map (·.block)) ∧ f.data.l.length = f.data.len
  fl : z.fs.length ≤ z.n
def Fl.key (f : Fl) : List UInt8 × Bool × List UInt8 := (f.path, f.dir, f.data.l)
def Fil.key (f : Fil) : List UInt8 × Bool × List UInt8 := (f.path, f.data.isNone, f.data.getD [])
/-- the program's way and the document's answer so far. -/
def Rel (z : WY) (e : Int) (s : WS) : Prop := e = s.err ∧ (s.err = 0 → z.n = s.met ∧ (∀ k, (z.G k).isSome = true ↔ k ∈ s.names) ∧ (z.tl = true → z.fs.map Fl.key = s.files.map Fil.key))
theorem gd_bd {G : Id32 → Option Int} {n : Nat} (h : ∀ k v, G k = some v → 0 ≤ v ∧ v ≤ n) (hn : n ≤ 1024) (k : Id32) : -1000000 ≤ (G k).getD 0 ∧ (G k).getD 0 ≤ 1000000 := by
  cases hk : G k with
  | none => simp
  | some v => have := h k v hk; simp only [Option.getD_some]; omega
theorem bd_put {G : Id32 → Option Int} {n : Nat} (h : ∀ k v, G k = some v → 0 ≤ v ∧ v ≤ n) (k : Id32) : ∀ j v, fput G k ((G k).getD 0 + 1) j = some v → 0 ≤ v ∧ v ≤ ((n + 1 : Nat) : Int) := fun j v hj => by
  rw [fput] at hj
  by_cases e : j = k
  · rw [if_pos e] at hj
    replace hj := Option.some.inj hj
    subst hj
    cases hk : G k with
    | none => simp only [Option.getD_none]; omega
    | some u => have := h k u hk; simp only [Option.getD_some]; omega
  · rw [if_neg e] at hj
    have := h j v hj; omega
theorem keys_put {G : Id32 → Option Int} {ns : List Id32} {v : Int} (h : ∀ k, (G k).isSome = true ↔ k ∈ ns) (k : Id32) : ∀ j, (fput G k v j).isSome = true ↔ j ∈ ns ++ [k] := fun j => by
  rw [fput, List.mem_append, List.mem_singleton]
  by_cases e : j = k
  · rw [if_pos e]; simp [e]
  · rw [if_neg e, h j]; simp [e]
theorem look_ok {l : List Ob} {w0 w : World} {S : List Nat} {L : List Ch} (ho : ∀ o ∈ l, o.data.ok w0 ∧ o.data.len ≤ 1048576) (hap : ∀ o ∈ l, o.data.l ≠ [] → Apart o.data.a S) (H : Hp w0 w S L) (k : Id32) : ((lookS l k).getD nilS).ok w ∧ True := by
  cases hk : lookS l k with
  | none => exact ⟨Sl.ok_nil _, trivial⟩
  | some x =>
    obtain ⟨o, h1, _, rfl⟩ := lookS_mem hk
    exact ⟨(ho o h1).1.up H (hap o h1), trivial⟩
theorem look_le {l : List Ob} {w0 : World} (ho : ∀ o ∈ l, o.data.ok w0 ∧ o.data.len ≤ 1048576) (k : Id32) : ((lookS l k).getD nilS).len ≤ 1048576 ∧ ((lookS l k).getD nilS).l.length = ((lookS l k).getD nilS).len := by
  cases hk : lookS l k with
  | none => exact ⟨Nat.zero_le _, rfl⟩
  | some x =>
    obtain ⟨o, h1, _, rfl⟩ := lookS_mem hk
    exact ⟨(ho o h1).2, (ho o h1).1.ln⟩
theorem look_some {l : List Ob} {k : Id32} (h : (lookS l k).isSome = true) : lookO (obL l) k = some ((lookS l k).getD nilS).l := by
  rw [lookS_l]
  obtain ⟨x, hx⟩ := Option.isSome_iff_exists.1 h
  rw [hx]; rfl
theorem look_none {l : List Ob} {k : Id32} (h : (lookS l k).isSome = false) : lookO (obL l) k = none := by
  rw [lookS_l]
  cases hk : lookS l k with
  | none => rfl
  | some x => rw [hk] at h; cases h
variable {L : List (Id32 × List UInt8)}
theorem wlkAll_one {t : Todo} {s : WS} (h : (wlkStep L s t).2 = []) : wlkAll L [t] s = (wlkStep L s t).1 := by
  by_cases he : (wlkStep L s t).1.err = 0
  · rw [wlkAll_good he, h, List.nil_append, wlkAll_nil]
  · exact wlkAll_bad he
theorem step_long {t : Todo} {s : WS} (h : (t.kind = 2 ∧ 8 < t.deep) ∨ 1024 ≤ s.met) : wlkStep L s t = ({ s with err := 2 }, []) := by rw [wlkStep, if_pos h]
theorem step_miss {t : Todo} {s : WS} (h : ¬ ((t.kind = 2 ∧ 8 < t.deep) ∨ 1024 ≤ s.met)) (hk : lookO L t.of = none) : wlkStep L s t = ({ s with err := 15 }, []) := by rw [wlkStep, if_neg h, hk]
theorem step_size {t : Todo} {s : WS} {d : List UInt8} (h : ¬ ((t.kind = 2 ∧ 8 < t.deep) ∨ 1024 ≤ s.met)) (hk : lookO L t.of = some d) (h1 : t.kind = 1) (hs : (d.length : Int) ≠ t.size) : wlkStep L s t = ({ s with err := 9 }, []) := by rw [wlkStep, if_neg h, hk]; dsimp only; rw [if_pos h1, if_pos hs]
theorem step_file {t : Todo} {s : WS} {d : List UInt8} (h : ¬ ((t.kind = 2 ∧ 8 < t.deep) ∨ 1024 ≤ s.met)) (hk : lookO L t.of = some d) (h1 : t.kind = 1) (hs : (d.length : Int) = t.size) : wlkStep L s t = ({ s with met := s.met + 1, names := s.names ++ [t.of], files := s.files ++ [⟨t.path, some d⟩] }, []) := by rw [wlkStep, if_neg h, hk]; dsimp only; rw [if_pos h1, if_neg (fun e => e hs)]
theorem step_syn {t : Todo} {s : WS} {d : List UInt8} (h : ¬ ((t.kind = 2 ∧ 8 < t.deep) ∨ 1024 ≤ s.met)) (hk : lookO L t.of = some d) (h1 : ¬ t.kind = 1) (ht : takeF d = none) : wlkStep L s t = ({ s with err := 4 }, []) := by rw [wlkStep, if_neg h, hk]; dsimp only; rw [if_neg h1, ht]
theorem step_dir {t : Todo} {s : WS} {d : List UInt8} {its : List It} (h : ¬ ((t.kind = 2 ∧ 8 < t.deep) ∨ 1024 ≤ s.met)) (hk : lookO L t.of = some d) (h1 : ¬ t.kind = 1) (ht : takeF d = some its) : wlkStep L s t = ({ s with met := s.met + 1, names := s.names ++ [t.of], files := s.files ++ (if its = [] ∧ 1 < t.deep then [⟨t.path, none⟩] else []) }, its.map (wkid t)) := by rw [wlkStep, if_neg h, hk]; dsimp only; rw [if_neg h1, ht]
theorem wfile_step {w0 w : World} {S : List Nat} {a : Option Nat} {n c : Nat} {x : List UInt8} {p : List UInt8} {d : Bool} {b o m f : Ch} {fs : List Fl} (H : Hp w0 w S (.own a n c (x.map V8) 5 1 :: b :: o :: m :: f :: fs.map fch)) : Hp w0 w S (b :: o :: m :: f :: (fs ++ [(⟨p, d, ⟨hd a, n, c, x⟩⟩ : Fl)]).map fch) := by
  have e : fch ⟨p, d, ⟨hd a, n, c, x⟩⟩ = .own a n c (x.map V8) 5 1 := by cases a <;> rfl
  rw [List.map_append, List.map_cons, List.map_nil, e]
  refine H.perm ?_; have := (List.perm_append_singleton (Ch.own a n c (x.map V8) 5 1) (b :: o :: m :: f :: fs.map fch)).symm
  simpa using this
theorem fat_add {fs : List Fl} (h : ∀ f ∈ fs, f.data.a = hd (f.data.a.map (·.block)) ∧ f.data.l.length = f.data.len) {p : List UInt8} {d : Bool} {a : Option Nat} {c : Nat} {x : List UInt8} {n : Nat} (hn : x.length = n) : ∀ f ∈ fs ++ [(⟨p, d, ⟨hd a, n, c, x⟩⟩ : Fl)], f.data.a = hd (f.data.a.map (·.block)) ∧ f.data.l.length = f.data.len := fun f hf => by
  rcases List.mem_append.1 hf with hf | hf
  · exact h f hf
  · rw [List.mem_singleton.1 hf]
    exact ⟨by cases a <;> rfl, hn⟩
theorem wclone_ret (w0 : World) (s : Sl) (hs : s.ok w0) (hm : s.len ≤ 1048576) :
    Ret Try.prog 64 [s.v] w0 fun v w' => ∃ a c, v = .slice (hd a) s.l.length c ∧ Hp w0 w' [] [.own a s.l.length c (s.l.map V8) 5 1] := by
  refine ret_mk Try.func64 rfl Try.ntmps64 (by simp) ?_
  have H := Hp.refl w0 []
  have hsl := hs.ln
  have hle := hs.le
  repeat refine c_seq ?_
  refine c_region ?_; refine l_op (o_val r_as ?_); first | refine l_end ?_ | refine l_nil ?_
  repeat refine c_seq ?_
  refine c_region ?_; refine l_op (o_val r_mv ?_); refine l_op (o_val (r_slnil Try.underlying32 (by kernel_rfl) rfl rfl) ?_); first | refine l_end ?_ | refine l_nil ?_
  have hc10 := Bool.eq_false_or_eq_true (s.a.isNone)
  rcases hc10 with hc1 | hc1
  ·
   repeat refine c_seq ?_
   refine c_yes (by exact congrArg Value.bool hc1) ?_; repeat refine c_seq ?_
   refine c_region ?_; refine l_op (o_val r_as ?_); first | refine l_end ?_ | refine l_nil ?_
   refine c_ret ?_; try dsimp only [Exit.then, Exit.inBlock]
   refine e_ret1 (v := .slice none 0 0) Try.results64 rfl ?_
   refine ⟨_, rfl, ?_⟩
   have h0 : s.a = none := by have := (hc1); simpa using this
   have hr0 : s.l = [] := by rcases hs.rd with h | ⟨b, o, C, T, fr, ha, _⟩; (cases hl : s.l with | nil => rfl | cons x xs => rw [hl] at h; cases h); rw [h0] at ha; cases ha
   rw [hr0]
   exact ⟨none, 0, rfl, H.nilEnd 5 1⟩
  ·
   repeat refine c_seq ?_
   refine c_no (by exact congrArg Value.bool hc1) ?_; refine c_skip ?_; repeat refine c_seq ?_
   refine c_region ?_; refine l_op (o_bslB (([] : List UInt8)) H sl32 zc5 rfl rfl (by decide) (fun b2 w H hb2 => ?_)); replace H : Hp _ w _ ([.own (some b2) 0 0 ((([] : List UInt8)).map V8) 5 1]) := H
   refine l_op (o_val r_mv ?_); refine l_op (o_appB (s := s) (l' := s.l) (len' := s.len) rfl (Nat.zero_add _) H (i := 0) rfl sl32 Try.underlying32 rfl rfl (hs.up H (fun _ => apart_nil _)) (by omega) (fun a3 c4 w H => ?_)); replace H : Hp _ w _ ([.own a3 s.len c4 ((s.l).map V8) 5 1]) := H
   refine l_op (o_val r_as ?_); first | refine l_end ?_ | refine l_nil ?_
   refine c_ret ?_; try dsimp only [Exit.then, Exit.inBlock]
   refine e_ret1 (v := .slice (hd a3) s.len c4) Try.results64 rfl ?_
   refine ⟨_, rfl, ?_⟩
   have e2 : s.len = s.l.length := by rw [hs.ln]
   have e1 : s.l = s.l := by first | rfl | rw [List.nil_append]
   rw [e1, e2] at H
   exact ⟨_, _, (by first | rfl | rw [e2]), H.sub (.cons_cons _ (List.nil_sublist _))⟩
theorem wfile_ret (w0 : World) (l : List Ob) (wb : Nat) (z : WY) (hO : Own w0 (wch wb z 0)) (hz : z.ok l) (ho : ∀ o ∈ l, o.data.ok w0 ∧ o.data.len ≤ 1048576) (hap : ∀ o ∈ l, o.data.l ≠ [] → Apart o.data.a (keys (wch wb z 0))) (s : WS) (hr : Rel z 0 s) (x : It) (p : List UInt8) (dp : Nat) (hp : p.length + x.name.length ≤ 1000000) :
    Ret Try.prog 48 [.pointer (some ⟨wb, 0, none⟩), .agg (([.string ⟨(x.name).toArray⟩, VI x.kind] : List Value) ++ ((x.of.1).map V8 ++ (([VI x.size] : List Value)))).toArray, .string ⟨(p).toArray⟩] w0 fun v w' => ∃ z' e', (e' = 0 → z'.ok l) ∧ z'.tl = z.tl ∧ Rel z' e' (wlkAll (obL l) [⟨1, x.of, x.size, dp, p ++ x.name⟩] s) ∧ Hp w0 w' (keys (wch wb z 0)) (wch wb z' e') := by
  refine ret_mk Try.func48 rfl Try.ntmps48 (by simp) ?_
  have H : Hp w0 w0 (keys (wch wb z 0)) (Ch.blk wb ([.map (some z.mo), .map (some z.mm), VI (z.n : Int), .bool z.tl, .slice (hd z.fa) z.fs.length z.fc, VI 0]) 70 :: Ch.obj z.mo (mobj kA z.Mo z.co) :: Ch.obj z.mm (mobj kA z.Mm z.cm) :: Ch.own z.fa z.fs.length z.fc ((z.fs).flatMap flE) 48 3 :: z.T) := hO.start
  have hnn := hz.nn
  have hfl := hz.fl
  have hs0 : s.err = 0 := hr.1.symm
  obtain ⟨hrn, hrg, hrf⟩ := hr.2 hs0
  have hobd := fun {w : World} {L : List Ch} (H : Hp w0 w (keys (wch wb z 0)) L) k => (look_ok ho hap H k).1
  have hobl := fun k => look_le ho k
  have hob := hobl x.of
  repeat refine c_seq ?_
  refine c_region ?_; refine l_op (o_box (v := .agg (([.string ⟨(x.name).toArray⟩, VI x.kind] : List Value) ++ ((x.of.1).map V8 ++ (([VI x.size] : List Value)))).toArray) H rfl (fun b1 w H hb1 => ?_)); replace H := H.rot
  replace H : Hp _ w _ (Ch.blk b1 (([.string ⟨(x.name).toArray⟩, VI x.kind] : List Value) ++ ((x.of.1).map V8 ++ (([VI x.size] : List Value)))) 54 :: Ch.blk wb ([.map (some z.mo), .map (some z.mm), VI (z.n : Int), .bool z.tl, .slice (hd z.fa) z.fs.length z.fc, VI 0]) 70 :: Ch.obj z.mo (mobj kA z.Mo z.co) :: Ch.obj z.mm (mobj kA z.Mm z.cm) :: Ch.own z.fa z.fs.length z.fc ((z.fs).flatMap flE) 48 3 :: z.T) := H
  first | refine l_end ?_ | refine l_nil ?_
  repeat refine c_seq ?_
  refine c_region ?_; refine l_op (o_val r_mv ?_); refine l_op (o_val (r_fa rfl fo54_2) ?_); refine l_op (o_val (r_lk H (i := 0) rfl rfl rt29 (show Cut3 (([.string ⟨(x.name).toArray⟩, VI x.kind] : List Value) ++ ((x.of.1).map V8 ++ (([VI x.size] : List Value)))) (([.string ⟨(x.name).toArray⟩, VI x.kind] : List Value)) ((x.of.1).map V8) (([VI x.size] : List Value)) 2 32 from ⟨(show ([.string ⟨(x.name).toArray⟩, VI x.kind] : List Value) ++ ((x.of.1).map V8 ++ (([VI x.size] : List Value))) = ([.string ⟨(x.name).toArray⟩, VI x.kind] : List Value) ++ (((x.of.1).map V8) ++ (([VI x.size] : List Value))) from by simp only [List.cons_append, List.nil_append]), (by rfl), (by simp only [List.length_map, (show (x.of.1).length = 32 from x.of.2)])⟩)) ?_)
  by_cases hc2 : 1024 ≤ z.n
  ·
   refine l_op (o_callR Try.func47 rfl rfl rfl (wobj_long _ l wb z.mo z.co z.mm z.cm z.n z.fs.length z.fc z.Mo z.Mm z.G (hd z.fa) z.tl hz.hO hz.hOk hz.hM hz.hMk (by omega) x.of (by omega) (H.ownU (L := [.blk b1 (([.string ⟨(x.name).toArray⟩, VI x.kind] : List Value) ++ ((x.of.1).map V8 ++ (([VI x.size] : List Value)))) 54, .blk wb ([.map (some z.mo), .map (some z.mm), VI (z.n : Int), .bool z.tl, .slice (hd z.fa) z.fs.length z.fc, VI 0]) 70, .obj z.mo (mobj kA z.Mo z.co), .obj z.mm (mobj kA z.Mm z.cm), .own z.fa z.fs.length z.fc ((z.fs).flatMap flE) 48 3]) (L1 := [.blk wb ([.map (some z.mo), .map (some z.mm), VI (z.n : Int), .bool z.tl, .slice (hd z.fa) z.fs.length z.fc, VI 0]) 70, .obj z.mo (mobj kA z.Mo z.co), .obj z.mm (mobj kA z.Mm z.cm)]) (Lr := ([.blk b1 (([.string ⟨(x.name).toArray⟩, VI x.kind] : List Value) ++ ((x.of.1).map V8 ++ (([VI x.size] : List Value)))) 54, .own z.fa z.fs.length z.fc ((z.fs).flatMap flE) 48 3] : List Ch)) (T := z.T) ((perm_front (j := 1) rfl).trans (.cons _ ((perm_front (j := 1) rfl).trans (.cons _ ((perm_front (j := 1) rfl).trans (.cons _ (.refl _))))))))) ?_); rintro _ w ⟨rfl, Hc⟩
   replace H := H.callU (L1' := [.blk wb ([.map (some z.mo), .map (some z.mm), VI ((z.n + 1 : Nat) : Int), .bool z.tl, .slice (hd z.fa) z.fs.length z.fc, VI 2]) 70, .obj z.mo (mobj kA z.Mo z.co), .obj z.mm (mobj kA z.Mm z.cm)]) (L := [.blk b1 (([.string ⟨(x.name).toArray⟩, VI x.kind] : List Value) ++ ((x.of.1).map V8 ++ (([VI x.size] : List Value)))) 54, .blk wb ([.map (some z.mo), .map (some z.mm), VI (z.n : Int), .bool z.tl, .slice (hd z.fa) z.fs.length z.fc, VI 0]) 70, .obj z.mo (mobj kA z.Mo z.co), .obj z.mm (mobj kA z.Mm z.cm), .own z.fa z.fs.length z.fc ((z.fs).flatMap flE) 48 3]) (L1 := [.blk wb ([.map (some z.mo), .map (some z.mm), VI (z.n : Int), .bool z.tl, .slice (hd z.fa) z.fs.length z.fc, VI 0]) 70, .obj z.mo (mobj kA z.Mo z.co), .obj z.mm (mobj kA z.Mm z.cm)]) (Lr := ([.blk b1 (([.string ⟨(x.name).toArray⟩, VI x.kind] : List Value) ++ ((x.of.1).map V8 ++ (([VI x.size] : List Value)))) 54, .own z.fa z.fs.length z.fc ((z.fs).flatMap flE) 48 3] : List Ch)) (T := z.T) ((perm_front (j := 1) rfl).trans (.cons _ ((perm_front (j := 1) rfl).trans (.cons _ ((perm_front (j := 1) rfl).trans (.cons _ (.refl _))))))) Hc ((perm_front (j := 0) rfl).trans (.cons _ ((perm_front (j := 1) rfl).trans (.cons _ ((perm_front (j := 1) rfl).trans (.cons _ ((perm_front (j := 1) rfl).trans (.cons _ (.refl _)))))))))
   clear Hc
   replace H : Hp _ w _ (Ch.blk b1 (([.string ⟨(x.name).toArray⟩, VI x.kind] : List Value) ++ ((x.of.1).map V8 ++ (([VI x.size] : List Value)))) 54 :: Ch.blk wb ([.map (some z.mo), .map (some z.mm), VI ((z.n + 1 : Nat) : Int), .bool z.tl, .slice (hd z.fa) z.fs.length z.fc, VI 2]) 70 :: Ch.obj z.mo (mobj kA z.Mo z.co) :: Ch.obj z.mm (mobj kA z.Mm z.cm) :: Ch.own z.fa z.fs.length z.fc ((z.fs).flatMap flE) 48 3 :: z.T) := H
   refine l_op (o_val r_mv ?_); refine l_op (o_val (r_ext rfl rfl) ?_); refine l_op (o_val (r_ext rfl rfl) ?_); refine l_op (o_val r_as ?_); refine l_op (o_val r_as ?_); first | refine l_end ?_ | refine l_nil ?_
   repeat refine c_seq ?_
   refine c_region ?_; refine l_op (o_val r_mv ?_); refine l_op (o_val (r_not rfl) ?_); first | refine l_end ?_ | refine l_nil ?_
   repeat refine c_seq ?_
   refine c_yes rfl ?_; refine c_ret ?_; try dsimp only [Exit.then, Exit.inBlock]
   refine e_ret0 Try.results48 ?_
   refine ⟨_, rfl, ?_⟩
   have hst := step_long (L := obL l) (t := (⟨1, x.of, x.size, dp, p ++ x.name⟩ : Todo)) (s := s) (.inr (by omega))
   have hw : wlkAll (obL l) [(⟨1, x.of, x.size, dp, p ++ x.name⟩ : Todo)] s = { s with err := 2 } := by rw [wlkAll_one (by rw [hst]), hst]
   rw [hw]
   exact ⟨(⟨z.mo, z.Mo, z.co, z.mm, z.Mm, z.cm, z.G, (z.n + 1), z.tl, z.fa, z.fc, z.fs⟩ : WY), 2, fun h => absurd h (by decide), rfl, ⟨rfl, fun h => absurd (show (2 : Int) = 0 from h) (by decide)⟩, H.sub (.cons _ (.cons_cons _ (.cons_cons _ (.cons_cons _ (.cons_cons _ (List.Sublist.refl _))))))⟩
  ·
   have hc30 := Bool.eq_false_or_eq_true ((lookS l x.of).isSome)
   rcases hc30 with hc3 | hc3
   ·
    refine l_op (o_callR Try.func47 rfl rfl rfl (wobj_ok _ l wb z.mo z.co z.mm z.cm z.n z.fs.length z.fc z.Mo z.Mm z.G (hd z.fa) z.tl hz.hO hz.hOk hz.hM hz.hMk (by omega) x.of (by omega) hc3 (gd_bd hz.bd hz.nn x.of) (H.ownU (L := [.blk b1 (([.string ⟨(x.name).toArray⟩, VI x.kind] : List Value) ++ ((x.of.1).map V8 ++ (([VI x.size] : List Value)))) 54, .blk wb ([.map (some z.mo), .map (some z.mm), VI (z.n : Int), .bool z.tl, .slice (hd z.fa) z.fs.length z.fc, VI 0]) 70, .obj z.mo (mobj kA z.Mo z.co), .obj z.mm (mobj kA z.Mm z.cm), .own z.fa z.fs.length z.fc ((z.fs).flatMap flE) 48 3]) (L1 := [.blk wb ([.map (some z.mo), .map (some z.mm), VI (z.n : Int), .bool z.tl, .slice (hd z.fa) z.fs.length z.fc, VI 0]) 70, .obj z.mo (mobj kA z.Mo z.co), .obj z.mm (mobj kA z.Mm z.cm)]) (Lr := ([.blk b1 (([.string ⟨(x.name).toArray⟩, VI x.kind] : List Value) ++ ((x.of.1).map V8 ++ (([VI x.size] : List Value)))) 54, .own z.fa z.fs.length z.fc ((z.fs).flatMap flE) 48 3] : List Ch)) (T := z.T) ((perm_front (j := 1) rfl).trans (.cons _ ((perm_front (j := 1) rfl).trans (.cons _ ((perm_front (j := 1) rfl).trans (.cons _ (.refl _))))))))) ?_); rintro _ w ⟨rfl, mm4, mc5, hmf6, hmo7, Hc⟩
    replace H := H.callU (L1' := [.blk wb ([.map (some z.mo), .map (some z.mm), VI ((z.n + 1 : Nat) : Int), .bool z.tl, .slice (hd z.fa) z.fs.length z.fc, VI 0]) 70, .obj z.mo (mobj kA z.Mo z.co), .obj z.mm (mobj kA mm4 mc5)]) (L := [.blk b1 (([.string ⟨(x.name).toArray⟩, VI x.kind] : List Value) ++ ((x.of.1).map V8 ++ (([VI x.size] : List Value)))) 54, .blk wb ([.map (some z.mo), .map (some z.mm), VI (z.n : Int), .bool z.tl, .slice (hd z.fa) z.fs.length z.fc, VI 0]) 70, .obj z.mo (mobj kA z.Mo z.co), .obj z.mm (mobj kA z.Mm z.cm), .own z.fa z.fs.length z.fc ((z.fs).flatMap flE) 48 3]) (L1 := [.blk wb ([.map (some z.mo), .map (some z.mm), VI (z.n : Int), .bool z.tl, .slice (hd z.fa) z.fs.length z.fc, VI 0]) 70, .obj z.mo (mobj kA z.Mo z.co), .obj z.mm (mobj kA z.Mm z.cm)]) (Lr := ([.blk b1 (([.string ⟨(x.name).toArray⟩, VI x.kind] : List Value) ++ ((x.of.1).map V8 ++ (([VI x.size] : List Value)))) 54, .own z.fa z.fs.length z.fc ((z.fs).flatMap flE) 48 3] : List Ch)) (T := z.T) ((perm_front (j := 1) rfl).trans (.cons _ ((perm_front (j := 1) rfl).trans (.cons _ ((perm_front (j := 1) rfl).trans (.cons _ (.refl _))))))) Hc ((perm_front (j := 0) rfl).trans (.cons _ ((perm_front (j := 1) rfl).trans (.cons _ ((perm_front (j := 1) rfl).trans (.cons _ ((perm_front (j := 1) rfl).trans (.cons _ (.refl _)))))))))
    clear Hc
    replace H : Hp _ w _ (Ch.blk b1 (([.string ⟨(x.name).toArray⟩, VI x.kind] : List Value) ++ ((x.of.1).map V8 ++ (([VI x.size] : List Value)))) 54 :: Ch.blk wb ([.map (some z.mo), .map (some z.mm), VI ((z.n + 1 : Nat) : Int), .bool z.tl, .slice (hd z.fa) z.fs.length z.fc, VI 0]) 70 :: Ch.obj z.mo (mobj kA z.Mo z.co) :: Ch.obj z.mm (mobj kA mm4 mc5) :: Ch.own z.fa z.fs.length z.fc ((z.fs).flatMap flE) 48 3 :: z.T) := H
    refine l_op (o_val r_mv ?_); refine l_op (o_val (r_ext rfl rfl) ?_); refine l_op (o_val (r_ext rfl rfl) ?_); refine l_op (o_val r_as ?_); refine l_op (o_val r_as ?_); first | refine l_end ?_ | refine l_nil ?_
    repeat refine c_seq ?_
    refine c_region ?_; refine l_op (o_val r_mv ?_); refine l_op (o_val (r_not rfl) ?_); first | refine l_end ?_ | refine l_nil ?_
    repeat refine c_seq ?_
    refine c_no rfl ?_; refine c_skip ?_; repeat refine c_seq ?_
    refine c_region ?_; refine l_op (o_val r_mv ?_); refine l_op (o_val (r_lens el32 rfl) ?_); refine l_op (o_val (r_fa rfl fo54_3) ?_); refine l_op (o_val (r_l1 (v := VI x.size) H (i := 0) rfl rfl ct2 (show Cut3 (([.string ⟨(x.name).toArray⟩, VI x.kind] : List Value) ++ ((x.of.1).map V8 ++ (([VI x.size] : List Value)))) (([.string ⟨(x.name).toArray⟩, VI x.kind] : List Value) ++ ((x.of.1).map V8)) (([VI x.size] : List Value)) (([] : List Value)) 34 1 from ⟨(show ([.string ⟨(x.name).toArray⟩, VI x.kind] : List Value) ++ ((x.of.1).map V8 ++ (([VI x.size] : List Value))) = (([.string ⟨(x.name).toArray⟩, VI x.kind] : List Value) ++ ((x.of.1).map V8)) ++ ((([VI x.size] : List Value)) ++ (([] : List Value))) from by simp only [List.cons_append, List.nil_append]), (by simp only [List.length_append, List.length_map, List.length_cons, List.length_nil, (show (x.of.1).length = 32 from x.of.2)]), (by rfl)⟩)) ?_); refine l_op (o_val (r_bin (a := ((((lookS l x.of).getD nilS).len : Nat) : Int)) (b := x.size) rfl rfl (fun _ => b_neq)) ?_); first | refine l_end ?_ | refine l_nil ?_
    by_cases hc8 : ((((lookS l x.of).getD nilS).len : Nat) : Int) ≠ x.size
    ·
     repeat refine c_seq ?_
     refine c_yes (by exact congrArg Value.bool (decide_eq_true hc8)) ?_; repeat refine c_seq ?_
     refine c_region ?_; refine l_op (o_val r_mv ?_); refine l_op (o_callR Try.func46 rfl rfl rfl (wbad_ret _ _ z.fs.length z.fc (z.n + 1) (hd z.fa) (some z.mo) (some z.mm) z.tl (H.has _ (List.mem_of_getElem? (i := 1) rfl)) 9) ?_); rintro _ w ⟨rfl, Hc⟩
     replace H := (H.callA (i := 1) rfl rfl rfl Hc)
     clear Hc
     replace H : Hp _ w _ (Ch.blk b1 (([.string ⟨(x.name).toArray⟩, VI x.kind] : List Value) ++ ((x.of.1).map V8 ++ (([VI x.size] : List Value)))) 54 :: Ch.blk wb ([.map (some z.mo), .map (some z.mm), VI ((z.n + 1 : Nat) : Int), .bool z.tl, .slice (hd z.fa) z.fs.length z.fc, VI 9]) 70 :: Ch.obj z.mo (mobj kA z.Mo z.co) :: Ch.obj z.mm (mobj kA mm4 mc5) :: Ch.own z.fa z.fs.length z.fc ((z.fs).flatMap flE) 48 3 :: z.T) := H
     first | refine l_end ?_ | refine l_nil ?_
     refine c_ret ?_; try dsimp only [Exit.then, Exit.inBlock]
     refine e_ret0 Try.results48 ?_
     refine ⟨_, rfl, ?_⟩
     have hst := step_size (L := obL l) (t := (⟨1, x.of, x.size, dp, p ++ x.name⟩ : Todo)) (s := s) (fun h => h.elim (fun h => absurd (show (1 : Int) = 2 from h.1) (by decide)) (fun h => by omega)) (look_some hc3) rfl (show (((lookS l x.of).getD nilS).l.length : Int) ≠ x.size by rw [hob.2]; omega)
     have hw : wlkAll (obL l) [(⟨1, x.of, x.size, dp, p ++ x.name⟩ : Todo)] s = { s with err := 9 } := by rw [wlkAll_one (by rw [hst]), hst]
     rw [hw]
     exact ⟨(⟨z.mo, z.Mo, z.co, z.mm, mm4, mc5, fput z.G x.of ((z.G x.of).getD 0 + 1), (z.n + 1), z.tl, z.fa, z.fc, z.fs⟩ : WY), 9, fun h => absurd h (by decide), rfl, ⟨rfl, fun h => absurd (show (9 : Int) = 0 from h) (by decide)⟩, H.sub (.cons _ (.cons_cons _ (.cons_cons _ (.cons_cons _ (.cons_cons _ (List.Sublist.refl _))))))⟩
    ·
     repeat refine c_seq ?_
     refine c_no (by exact congrArg Value.bool (decide_eq_false hc8)) ?_; refine c_skip ?_; repeat refine c_seq ?_
     refine c_region ?_; refine l_op (o_val r_mv ?_); refine l_op (o_val (r_nilc rfl) ?_); refine l_op (o_val (r_fa rfl fo70_3) ?_); refine l_op (o_val (r_ld (v := .bool z.tl) H (i := 1) rfl rfl ct4 rfl) ?_); first | refine l_end ?_ | refine l_nil ?_
     have hc90 := Bool.eq_false_or_eq_true (z.tl)
     rcases hc90 with hc9 | hc9
     ·
      repeat refine c_seq ?_
      refine c_yes (by exact congrArg Value.bool hc9) ?_; repeat refine c_seq ?_
      refine wp_held (fun w => Hp w0 w (keys (wch wb z 0)) [.blk b1 (([.string ⟨(x.name).toArray⟩, VI x.kind] : List Value) ++ ((x.of.1).map V8 ++ (([VI x.size] : List Value)))) 54, .obj z.mo (mobj kA z.Mo z.co), .obj z.mm (mobj kA mm4 mc5)]) mixed ?_; replace H := H.drew
      have HS := H.sub (.cons_cons _ (.cons _ (.cons_cons _ (.cons_cons _ (List.nil_sublist _)))))
      refine t_take 0 rfl (by kernel_rfl) (by kernel_rfl) (by kernel_rfl) (fun _ _ _ h => h) (fun w HS => r_mv) HS ?_; refine t_take 1 rfl (by kernel_rfl) (by kernel_rfl) (by kernel_rfl) (fun _ _ _ h => h) (fun w HS => r_mv) HS ?_; refine t_take 2 rfl (by kernel_rfl) (by kernel_rfl) (by kernel_rfl) (fun _ _ _ h => h) (fun w HS => r_nilc rfl) HS ?_; refine t_take 3 rfl (by kernel_rfl) (by kernel_rfl) (by kernel_rfl) (fun _ _ _ h => h) (fun w HS => r_fa rfl fo70_4) HS ?_; refine t_take 5 rfl (by kernel_rfl) (by kernel_rfl) (by kernel_rfl) (fun _ _ _ h => h) (fun w HS => r_mv) HS ?_; refine t_take 6 rfl (by kernel_rfl) (by kernel_rfl) (by kernel_rfl) (fun _ _ _ h => h) (fun w HS => r_fa rfl fo54_0) HS ?_; refine t_take 7 rfl (by kernel_rfl) (by kernel_rfl) (by kernel_rfl) (fun _ _ _ h => h) (fun w HS => r_l1 (v := .string ⟨(x.name).toArray⟩) HS (i := 0) rfl rfl ct9 (show Cut3 (([.string ⟨(x.name).toArray⟩, VI x.kind] : List Value) ++ ((x.of.1).map V8 ++ (([VI x.size] : List Value)))) (([] : List Value)) (([.string ⟨(x.name).toArray⟩] : List Value)) (([VI x.kind] : List Value) ++ ((x.of.1).map V8 ++ (([VI x.size] : List Value)))) 0 1 from ⟨(show ([.string ⟨(x.name).toArray⟩, VI x.kind] : List Value) ++ ((x.of.1).map V8 ++ (([VI x.size] : List Value))) = ([] : List Value) ++ ((([.string ⟨(x.name).toArray⟩] : List Value)) ++ (([VI x.kind] : List Value) ++ ((x.of.1).map V8 ++ (([VI x.size] : List Value))))) from by simp only [List.cons_append, List.nil_append]), (by rfl), (by rfl)⟩)) HS ?_; refine t_take 8 rfl (by kernel_rfl) (by kernel_rfl) (by kernel_rfl) (fun _ _ _ h => h) (fun w HS => r_stradd (a := p) (b := x.name) rfl rfl (by (try simp only [List.length_cons, List.length_nil]); omega)) HS ?_; refine t_take 9 rfl (by kernel_rfl) (by kernel_rfl) (by kernel_rfl) (fun _ _ _ h => h) (fun w HS => r_mv) HS ?_; refine t_all [4, 10] (by kernel_rfl) (by simp) (all_cons (w_op 4 rfl ?_) (all_cons (w_op 10 rfl ?_) (all_nil)))
      ·
       refine (o_val (r_ld (v := .slice (hd z.fa) z.fs.length z.fc) H (i := 1) rfl rfl ct40 rfl) ?_)
       refine ⟨H.sub (.cons_cons _ (.cons _ (.cons_cons _ (.cons_cons _ (List.nil_sublist _))))), ?_⟩
       replace HS := H.sub (.cons_cons _ (.cons _ (.cons_cons _ (.cons_cons _ (List.nil_sublist _)))))
       refine t_step 10 rfl (by kernel_rfl) (o_callR Try.func64 rfl rfl rfl (wclone_ret _ ((lookS l x.of).getD nilS) (hobd H _) (by (try dsimp only); omega)) ?_); rintro _ w ⟨a10, c11, rfl, Hc⟩
       replace H : Hp _ w _ (Ch.own a10 (((lookS l x.of).getD nilS).l.length) c11 ((((lookS l x.of).getD nilS).l).map V8) 5 1 :: Ch.blk b1 (([.string ⟨(x.name).toArray⟩, VI x.kind] : List Value) ++ ((x.of.1).map V8 ++ (([VI x.size] : List Value)))) 54 :: Ch.blk wb ([.map (some z.mo), .map (some z.mm), VI ((z.n + 1 : Nat) : Int), .bool z.tl, .slice (hd z.fa) z.fs.length z.fc, VI 0]) 70 :: Ch.obj z.mo (mobj kA z.Mo z.co) :: Ch.obj z.mm (mobj kA mm4 mc5) :: Ch.own z.fa z.fs.length z.fc ((z.fs).flatMap flE) 48 3 :: z.T) := (H.call Hc).rot
       clear Hc
       refine ⟨H.sub (.cons _ (.cons_cons _ (.cons _ (.cons_cons _ (.cons_cons _ (List.nil_sublist _)))))), ?_⟩
       replace HS := H.sub (.cons _ (.cons_cons _ (.cons _ (.cons_cons _ (.cons_cons _ (List.nil_sublist _))))))
       refine t_take 11 rfl (by kernel_rfl) (by kernel_rfl) (by kernel_rfl) (fun _ _ _ h => h) (fun w HS => r_bldG (Z := ([.string ⟨(([] : List UInt8)).toArray⟩, .bool false, .slice none 0 0] : List Value)) (E := ([.string ⟨(p ++ x.name).toArray⟩, .bool false, .slice (hd a10) (((lookS l x.of).getD nilS).l.length) c11] : List Value)) (pv := [(0, .string ⟨(p ++ x.name).toArray⟩), (2, .slice (hd a10) (((lookS l x.of).getD nilS).l.length) c11)]) bd48 rfl rfl (.cons (A := ([] : List Value)) (B := ([.string ⟨(([] : List UInt8)).toArray⟩] : List Value)) (D := ([.bool false, .slice none 0 0] : List Value)) (V := ([.string ⟨(p ++ x.name).toArray⟩] : List Value)) (a := 0) (b := 1) rfl (show Cut3 (([.string ⟨(([] : List UInt8)).toArray⟩, .bool false, .slice none 0 0] : List Value)) (([] : List Value)) (([.string ⟨(([] : List UInt8)).toArray⟩] : List Value)) (([.bool false, .slice none 0 0] : List Value)) 0 1 from ⟨(show ([.string ⟨(([] : List UInt8)).toArray⟩, .bool false, .slice none 0 0] : List Value) = ([] : List Value) ++ ((([.string ⟨(([] : List UInt8)).toArray⟩] : List Value)) ++ (([.bool false, .slice none 0 0] : List Value))) from by simp only [List.cons_append, List.nil_append]), (by rfl), (by rfl)⟩) (by rfl) (by rfl) ((show ([.string ⟨(p ++ x.name).toArray⟩, .bool false, .slice none 0 0] : List Value) = ([] : List Value) ++ ((([.string ⟨(p ++ x.name).toArray⟩] : List Value)) ++ (([.bool false, .slice none 0 0] : List Value))) from by simp only [List.cons_append, List.nil_append]) ▸ .cons (A := ([.string ⟨(p ++ x.name).toArray⟩, .bool false] : List Value)) (B := ([.slice none 0 0] : List Value)) (D := ([] : List Value)) (V := ([.slice (hd a10) (((lookS l x.of).getD nilS).l.length) c11] : List Value)) (a := 2) (b := 1) rfl (show Cut3 (([.string ⟨(p ++ x.name).toArray⟩, .bool false, .slice none 0 0] : List Value)) (([.string ⟨(p ++ x.name).toArray⟩, .bool false] : List Value)) (([.slice none 0 0] : List Value)) (([] : List Value)) 2 1 from ⟨(show ([.string ⟨(p ++ x.name).toArray⟩, .bool false, .slice none 0 0] : List Value) = ([.string ⟨(p ++ x.name).toArray⟩, .bool false] : List Value) ++ ((([.slice none 0 0] : List Value)) ++ (([] : List Value))) from by simp only [List.cons_append, List.nil_append]), (by rfl), (by rfl)⟩) (by rfl) (by rfl) ((show ([.string ⟨(p ++ x.name).toArray⟩, .bool false, .slice (hd a10) (((lookS l x.of).getD nilS).l.length) c11] : List Value) = ([.string ⟨(p ++ x.name).toArray⟩, .bool false] : List Value) ++ ((([.slice (hd a10) (((lookS l x.of).getD nilS).l.length) c11] : List Value)) ++ (([] : List Value))) from by simp only [List.cons_append, List.nil_append]) ▸ .nil _)))) HS ?_; refine t_step 12 rfl (by kernel_rfl) (o_bslG1 (enc := flE) ((⟨p ++ x.name, false, ⟨hd a10, ((lookS l x.of).getD nilS).l.length, c11, ((lookS l x.of).getD nilS).l⟩⟩ : Fl)) H sl40 zc48 (by rfl) (by decide) (by decide) rfl (flE_len _) (fun b12 w H hb12 => ?_)); replace H := H.rot
       replace H : Hp _ w _ (Ch.own (some b12) 1 1 (([(⟨p ++ x.name, false, ⟨hd a10, ((lookS l x.of).getD nilS).l.length, c11, ((lookS l x.of).getD nilS).l⟩⟩ : Fl)]).flatMap flE) 48 3 :: Ch.own a10 (((lookS l x.of).getD nilS).l.length) c11 ((((lookS l x.of).getD nilS).l).map V8) 5 1 :: Ch.blk b1 (([.string ⟨(x.name).toArray⟩, VI x.kind] : List Value) ++ ((x.of.1).map V8 ++ (([VI x.size] : List Value)))) 54 :: Ch.blk wb ([.map (some z.mo), .map (some z.mm), VI ((z.n + 1 : Nat) : Int), .bool z.tl, .slice (hd z.fa) z.fs.length z.fc, VI 0]) 70 :: Ch.obj z.mo (mobj kA z.Mo z.co) :: Ch.obj z.mm (mobj kA mm4 mc5) :: Ch.own z.fa z.fs.length z.fc ((z.fs).flatMap flE) 48 3 :: z.T) := H
       refine ⟨H.sub (.cons _ (.cons _ (.cons_cons _ (.cons _ (.cons_cons _ (.cons_cons _ (List.nil_sublist _))))))), ?_⟩
       replace HS := H.sub (.cons _ (.cons _ (.cons_cons _ (.cons _ (.cons_cons _ (.cons_cons _ (List.nil_sublist _)))))))
       refine t_step 13 rfl (by kernel_rfl) (o_appG (enc := flE) (s := ⟨hd (some b12), 1, 1, [(⟨p ++ x.name, false, ⟨hd a10, ((lookS l x.of).getD nilS).l.length, c11, ((lookS l x.of).getD nilS).l⟩⟩ : Fl)]⟩) (l' := z.fs ++ ([(⟨p ++ x.name, false, ⟨hd a10, ((lookS l x.of).getD nilS).l.length, c11, ((lookS l x.of).getD nilS).l⟩⟩ : Fl)])) (len' := z.fs.length + 1) rfl rfl H (i := 6) rfl sl40 Try.underlying40 rfl rfl (H.glOwn (i := 0) rfl (by decide) (fun c _ => flE_len c)) (by decide) (fun c _ => flE_all c) (by omega) (by decide) (fun a13 c14 w H => ?_)); replace H : Hp _ w _ (Ch.own (some b12) 1 1 (([(⟨p ++ x.name, false, ⟨hd a10, ((lookS l x.of).getD nilS).l.length, c11, ((lookS l x.of).getD nilS).l⟩⟩ : Fl)]).flatMap flE) 48 3 :: Ch.own a10 (((lookS l x.of).getD nilS).l.length) c11 ((((lookS l x.of).getD nilS).l).map V8) 5 1 :: Ch.blk b1 (([.string ⟨(x.name).toArray⟩, VI x.kind] : List Value) ++ ((x.of.1).map V8 ++ (([VI x.size] : List Value)))) 54 :: Ch.blk wb ([.map (some z.mo), .map (some z.mm), VI ((z.n + 1 : Nat) : Int), .bool z.tl, .slice (hd z.fa) z.fs.length z.fc, VI 0]) 70 :: Ch.obj z.mo (mobj kA z.Mo z.co) :: Ch.obj z.mm (mobj kA mm4 mc5) :: Ch.own a13 (z.fs.length + 1) c14 ((z.fs ++ ([(⟨p ++ x.name, false, ⟨hd a10, ((lookS l x.of).getD nilS).l.length, c11, ((lookS l x.of).getD nilS).l⟩⟩ : Fl)])).flatMap flE) 48 3 :: z.T) := H
       refine ⟨H.sub (.cons _ (.cons _ (.cons_cons _ (.cons _ (.cons_cons _ (.cons_cons _ (List.nil_sublist _))))))), ?_⟩
       replace HS := H.sub (.cons _ (.cons _ (.cons_cons _ (.cons _ (.cons_cons _ (.cons_cons _ (List.nil_sublist _)))))))
       refine t_take 14 rfl (by kernel_rfl) (by kernel_rfl) (by kernel_rfl) (fun _ _ _ h => h) (fun w HS => r_nilc rfl) HS ?_; refine t_take 15 rfl (by kernel_rfl) (by kernel_rfl) (by kernel_rfl) (fun _ _ _ h => h) (fun w HS => r_fa rfl fo70_4) HS ?_; refine t_step 16 rfl (by kernel_rfl) (o_st (v := .slice (hd a13) (z.fs.length + 1) c14) H (i := 3) rfl rfl rfl cs40 rfl (by simp only [List.length_cons, List.length_nil]; omega) (fun w H => ?_)); replace H : Hp _ w _ (Ch.own (some b12) 1 1 (([(⟨p ++ x.name, false, ⟨hd a10, ((lookS l x.of).getD nilS).l.length, c11, ((lookS l x.of).getD nilS).l⟩⟩ : Fl)]).flatMap flE) 48 3 :: Ch.own a10 (((lookS l x.of).getD nilS).l.length) c11 ((((lookS l x.of).getD nilS).l).map V8) 5 1 :: Ch.blk b1 (([.string ⟨(x.name).toArray⟩, VI x.kind] : List Value) ++ ((x.of.1).map V8 ++ (([VI x.size] : List Value)))) 54 :: Ch.blk wb ([.map (some z.mo), .map (some z.mm), VI ((z.n + 1 : Nat) : Int), .bool z.tl, .slice (hd a13) (z.fs.length + 1) c14, VI 0]) 70 :: Ch.obj z.mo (mobj kA z.Mo z.co) :: Ch.obj z.mm (mobj kA mm4 mc5) :: Ch.own a13 (z.fs.length + 1) c14 ((z.fs ++ ([(⟨p ++ x.name, false, ⟨hd a10, ((lookS l x.of).getD nilS).l.length, c11, ((lookS l x.of).getD nilS).l⟩⟩ : Fl)])).flatMap flE) 48 3 :: z.T) := H
       refine ⟨H.sub (.cons _ (.cons _ (.cons_cons _ (.cons _ (.cons_cons _ (.cons_cons _ (List.nil_sublist _))))))), ?_⟩
       replace HS := H.sub (.cons _ (.cons _ (.cons_cons _ (.cons _ (.cons_cons _ (.cons_cons _ (List.nil_sublist _)))))))
       refine t_done (by kernel_rfl) ?_
       clear HS
       try simp only [Exit.then, Exit.inBlock, ↓reduceIte]
       refine e_norm ?_; refine e_ret0 Try.results48 ?_
       refine ⟨_, rfl, ?_⟩
       have hst := step_file (L := obL l) (t := (⟨1, x.of, x.size, dp, p ++ x.name⟩ : Todo)) (s := s) (fun h => h.elim (fun h => absurd (show (1 : Int) = 2 from h.1) (by decide)) (fun h => by omega)) (look_some hc3) rfl (show (((lookS l x.of).getD nilS).l.length : Int) = x.size by rw [hob.2]; omega)
       have hw := wlkAll_one (L := obL l) (t := (⟨1, x.of, x.size, dp, p ++ x.name⟩ : Todo)) (s := s) (by rw [hst])
       rw [hst] at hw
       rw [hw]
       have hl1 : (z.fs ++ ([(⟨p ++ x.name, false, ⟨hd a10, ((lookS l x.of).getD nilS).l.length, c11, ((lookS l x.of).getD nilS).l⟩⟩ : Fl)])).length = z.fs.length + 1 := by rw [List.length_append]; rfl
       rw [← hl1] at H
       exact ⟨(⟨z.mo, z.Mo, z.co, z.mm, mm4, mc5, fput z.G x.of ((z.G x.of).getD 0 + 1), (z.n + 1), z.tl, a13, c14, z.fs ++ ([(⟨p ++ x.name, false, ⟨hd a10, ((lookS l x.of).getD nilS).l.length, c11, ((lookS l x.of).getD nilS).l⟩⟩ : Fl)])⟩ : WY), 0, fun _ => ⟨hz.hO, hz.hOk, hmf6, hmo7, bd_put hz.bd x.of, by show z.n + 1 ≤ 1024; omega, fat_add hz.fat rfl, by simp only [List.length_append, List.length_singleton]; omega⟩, rfl, ⟨hs0.symm, fun _ => ⟨congrArg (· + 1) hrn, keys_put hrg x.of, fun ht => by rw [List.map_append, List.map_append, hrf ht]; rfl⟩⟩, wfile_step (H.sub (.cons _ (.cons_cons _ (.cons _ (.cons_cons _ (.cons_cons _ (.cons_cons _ (.cons_cons _ (List.Sublist.refl _)))))))))⟩
      ·
       refine (o_callR Try.func64 rfl rfl rfl (wclone_ret _ ((lookS l x.of).getD nilS) (hobd H _) (by (try dsimp only); omega)) ?_)
       rintro _ w ⟨a15, c16, rfl, Hc⟩
       replace H : Hp _ w _ (Ch.own a15 (((lookS l x.of).getD nilS).l.length) c16 ((((lookS l x.of).getD nilS).l).map V8) 5 1 :: Ch.blk b1 (([.string ⟨(x.name).toArray⟩, VI x.kind] : List Value) ++ ((x.of.1).map V8 ++ (([VI x.size] : List Value)))) 54 :: Ch.blk wb ([.map (some z.mo), .map (some z.mm), VI ((z.n + 1 : Nat) : Int), .bool z.tl, .slice (hd z.fa) z.fs.length z.fc, VI 0]) 70 :: Ch.obj z.mo (mobj kA z.Mo z.co) :: Ch.obj z.mm (mobj kA mm4 mc5) :: Ch.own z.fa z.fs.length z.fc ((z.fs).flatMap flE) 48 3 :: z.T) := (H.call Hc).rot
       clear Hc
       refine ⟨H.sub (.cons _ (.cons_cons _ (.cons _ (.cons_cons _ (.cons_cons _ (List.nil_sublist _)))))), ?_⟩
       replace HS := H.sub (.cons _ (.cons_cons _ (.cons _ (.cons_cons _ (.cons_cons _ (List.nil_sublist _))))))
       refine t_take 11 rfl (by kernel_rfl) (by kernel_rfl) (by kernel_rfl) (fun _ _ _ h => h) (fun w HS => r_bldG (Z := ([.string ⟨(([] : List UInt8)).toArray⟩, .bool false, .slice none 0 0] : List Value)) (E := ([.string ⟨(p ++ x.name).toArray⟩, .bool false, .slice (hd a15) (((lookS l x.of).getD nilS).l.length) c16] : List Value)) (pv := [(0, .string ⟨(p ++ x.name).toArray⟩), (2, .slice (hd a15) (((lookS l x.of).getD nilS).l.length) c16)]) bd48 rfl rfl (.cons (A := ([] : List Value)) (B := ([.string ⟨(([] : List UInt8)).toArray⟩] : List Value)) (D := ([.bool false, .slice none 0 0] : List Value)) (V := ([.string ⟨(p ++ x.name).toArray⟩] : List Value)) (a := 0) (b := 1) rfl (show Cut3 (([.string ⟨(([] : List UInt8)).toArray⟩, .bool false, .slice none 0 0] : List Value)) (([] : List Value)) (([.string ⟨(([] : List UInt8)).toArray⟩] : List Value)) (([.bool false, .slice none 0 0] : List Value)) 0 1 from ⟨(show ([.string ⟨(([] : List UInt8)).toArray⟩, .bool false, .slice none 0 0] : List Value) = ([] : List Value) ++ ((([.string ⟨(([] : List UInt8)).toArray⟩] : List Value)) ++ (([.bool false, .slice none 0 0] : List Value))) from by simp only [List.cons_append, List.nil_append]), (by rfl), (by rfl)⟩) (by rfl) (by rfl) ((show ([.string ⟨(p ++ x.name).toArray⟩, .bool false, .slice none 0 0] : List Value) = ([] : List Value) ++ ((([.string ⟨(p ++ x.name).toArray⟩] : List Value)) ++ (([.bool false, .slice none 0 0] : List Value))) from by simp only [List.cons_append, List.nil_append]) ▸ .cons (A := ([.string ⟨(p ++ x.name).toArray⟩, .bool false] : List Value)) (B := ([.slice none 0 0] : List Value)) (D := ([] : List Value)) (V := ([.slice (hd a15) (((lookS l x.of).getD nilS).l.length) c16] : List Value)) (a := 2) (b := 1) rfl (show Cut3 (([.string ⟨(p ++ x.name).toArray⟩, .bool false, .slice none 0 0] : List Value)) (([.string ⟨(p ++ x.name).toArray⟩, .bool false] : List Value)) (([.slice none 0 0] : List Value)) (([] : List Value)) 2 1 from ⟨(show ([.string ⟨(p ++ x.name).toArray⟩, .bool false, .slice none 0 0] : List Value) = ([.string ⟨(p ++ x.name).toArray⟩, .bool false] : List Value) ++ ((([.slice none 0 0] : List Value)) ++ (([] : List Value))) from by simp only [List.cons_append, List.nil_append]), (by rfl), (by rfl)⟩) (by rfl) (by rfl) ((show ([.string ⟨(p ++ x.name).toArray⟩, .bool false, .slice (hd a15) (((lookS l x.of).getD nilS).l.length) c16] : List Value) = ([.string ⟨(p ++ x.name).toArray⟩, .bool false] : List Value) ++ ((([.slice (hd a15) (((lookS l x.of).getD nilS).l.length) c16] : List Value)) ++ (([] : List Value))) from by simp only [List.cons_append, List.nil_append]) ▸ .nil _)))) HS ?_; refine t_all [4, 12] (by kernel_rfl) (by simp) (all_cons (w_op 4 rfl ?_) (all_cons (w_op 12 rfl ?_) (all_nil)))
       ·
        refine (o_val (r_ld (v := .slice (hd z.fa) z.fs.length z.fc) H (i := 2) rfl rfl ct40 rfl) ?_)
        refine ⟨H.sub (.cons _ (.cons_cons _ (.cons _ (.cons_cons _ (.cons_cons _ (List.nil_sublist _)))))), ?_⟩
        replace HS := H.sub (.cons _ (.cons_cons _ (.cons _ (.cons_cons _ (.cons_cons _ (List.nil_sublist _))))))
        refine t_step 12 rfl (by kernel_rfl) (o_bslG1 (enc := flE) ((⟨p ++ x.name, false, ⟨hd a15, ((lookS l x.of).getD nilS).l.length, c16, ((lookS l x.of).getD nilS).l⟩⟩ : Fl)) H sl40 zc48 (by rfl) (by decide) (by decide) rfl (flE_len _) (fun b17 w H hb17 => ?_)); replace H := H.rot
        replace H : Hp _ w _ (Ch.own (some b17) 1 1 (([(⟨p ++ x.name, false, ⟨hd a15, ((lookS l x.of).getD nilS).l.length, c16, ((lookS l x.of).getD nilS).l⟩⟩ : Fl)]).flatMap flE) 48 3 :: Ch.own a15 (((lookS l x.of).getD nilS).l.length) c16 ((((lookS l x.of).getD nilS).l).map V8) 5 1 :: Ch.blk b1 (([.string ⟨(x.name).toArray⟩, VI x.kind] : List Value) ++ ((x.of.1).map V8 ++ (([VI x.size] : List Value)))) 54 :: Ch.blk wb ([.map (some z.mo), .map (some z.mm), VI ((z.n + 1 : Nat) : Int), .bool z.tl, .slice (hd z.fa) z.fs.length z.fc, VI 0]) 70 :: Ch.obj z.mo (mobj kA z.Mo z.co) :: Ch.obj z.mm (mobj kA mm4 mc5) :: Ch.own z.fa z.fs.length z.fc ((z.fs).flatMap flE) 48 3 :: z.T) := H
        refine ⟨H.sub (.cons _ (.cons _ (.cons_cons _ (.cons _ (.cons_cons _ (.cons_cons _ (List.nil_sublist _))))))), ?_⟩
        replace HS := H.sub (.cons _ (.cons _ (.cons_cons _ (.cons _ (.cons_cons _ (.cons_cons _ (List.nil_sublist _)))))))
        refine t_step 13 rfl (by kernel_rfl) (o_appG (enc := flE) (s := ⟨hd (some b17), 1, 1, [(⟨p ++ x.name, false, ⟨hd a15, ((lookS l x.of).getD nilS).l.length, c16, ((lookS l x.of).getD nilS).l⟩⟩ : Fl)]⟩) (l' := z.fs ++ ([(⟨p ++ x.name, false, ⟨hd a15, ((lookS l x.of).getD nilS).l.length, c16, ((lookS l x.of).getD nilS).l⟩⟩ : Fl)])) (len' := z.fs.length + 1) rfl rfl H (i := 6) rfl sl40 Try.underlying40 rfl rfl (H.glOwn (i := 0) rfl (by decide) (fun c _ => flE_len c)) (by decide) (fun c _ => flE_all c) (by omega) (by decide) (fun a18 c19 w H => ?_)); replace H : Hp _ w _ (Ch.own (some b17) 1 1 (([(⟨p ++ x.name, false, ⟨hd a15, ((lookS l x.of).getD nilS).l.length, c16, ((lookS l x.of).getD nilS).l⟩⟩ : Fl)]).flatMap flE) 48 3 :: Ch.own a15 (((lookS l x.of).getD nilS).l.length) c16 ((((lookS l x.of).getD nilS).l).map V8) 5 1 :: Ch.blk b1 (([.string ⟨(x.name).toArray⟩, VI x.kind] : List Value) ++ ((x.of.1).map V8 ++ (([VI x.size] : List Value)))) 54 :: Ch.blk wb ([.map (some z.mo), .map (some z.mm), VI ((z.n + 1 : Nat) : Int), .bool z.tl, .slice (hd z.fa) z.fs.length z.fc, VI 0]) 70 :: Ch.obj z.mo (mobj kA z.Mo z.co) :: Ch.obj z.mm (mobj kA mm4 mc5) :: Ch.own a18 (z.fs.length + 1) c19 ((z.fs ++ ([(⟨p ++ x.name, false, ⟨hd a15, ((lookS l x.of).getD nilS).l.length, c16, ((lookS l x.of).getD nilS).l⟩⟩ : Fl)])).flatMap flE) 48 3 :: z.T) := H
        refine ⟨H.sub (.cons _ (.cons _ (.cons_cons _ (.cons _ (.cons_cons _ (.cons_cons _ (List.nil_sublist _))))))), ?_⟩
        replace HS := H.sub (.cons _ (.cons _ (.cons_cons _ (.cons _ (.cons_cons _ (.cons_cons _ (List.nil_sublist _)))))))
        refine t_take 14 rfl (by kernel_rfl) (by kernel_rfl) (by kernel_rfl) (fun _ _ _ h => h) (fun w HS => r_nilc rfl) HS ?_; refine t_take 15 rfl (by kernel_rfl) (by kernel_rfl) (by kernel_rfl) (fun _ _ _ h => h) (fun w HS => r_fa rfl fo70_4) HS ?_; refine t_step 16 rfl (by kernel_rfl) (o_st (v := .slice (hd a18) (z.fs.length + 1) c19) H (i := 3) rfl rfl rfl cs40 rfl (by simp only [List.length_cons, List.length_nil]; omega) (fun w H => ?_)); replace H : Hp _ w _ (Ch.own (some b17) 1 1 (([(⟨p ++ x.name, false, ⟨hd a15, ((lookS l x.of).getD nilS).l.length, c16, ((lookS l x.of).getD nilS).l⟩⟩ : Fl)]).flatMap flE) 48 3 :: Ch.own a15 (((lookS l x.of).getD nilS).l.length) c16 ((((lookS l x.of).getD nilS).l).map V8) 5 1 :: Ch.blk b1 (([.string ⟨(x.name).toArray⟩, VI x.kind] : List Value) ++ ((x.of.1).map V8 ++ (([VI x.size] : List Value)))) 54 :: Ch.blk wb ([.map (some z.mo), .map (some z.mm), VI ((z.n + 1 : Nat) : Int), .bool z.tl, .slice (hd a18) (z.fs.length + 1) c19, VI 0]) 70 :: Ch.obj z.mo (mobj kA z.Mo z.co) :: Ch.obj z.mm (mobj kA mm4 mc5) :: Ch.own a18 (z.fs.length + 1) c19 ((z.fs ++ ([(⟨p ++ x.name, false, ⟨hd a15, ((lookS l x.of).getD nilS).l.length, c16, ((lookS l x.of).getD nilS).l⟩⟩ : Fl)])).flatMap flE) 48 3 :: z.T) := H
        refine ⟨H.sub (.cons _ (.cons _ (.cons_cons _ (.cons _ (.cons_cons _ (.cons_cons _ (List.nil_sublist _))))))), ?_⟩
        replace HS := H.sub (.cons _ (.cons _ (.cons_cons _ (.cons _ (.cons_cons _ (.cons_cons _ (List.nil_sublist _)))))))
        refine t_done (by kernel_rfl) ?_
        clear HS
        try simp only [Exit.then, Exit.inBlock, ↓reduceIte]
        refine e_norm ?_; refine e_ret0 Try.results48 ?_
        refine ⟨_, rfl, ?_⟩
        have hst := step_file (L := obL l) (t := (⟨1, x.of, x.size, dp, p ++ x.name⟩ : Todo)) (s := s) (fun h => h.elim (fun h => absurd (show (1 : Int) = 2 from h.1) (by decide)) (fun h => by omega)) (look_some hc3) rfl (show (((lookS l x.of).getD nilS).l.length : Int) = x.size by rw [hob.2]; omega)
        have hw := wlkAll_one (L := obL l) (t := (⟨1, x.of, x.size, dp, p ++ x.name⟩ : Todo)) (s := s) (by rw [hst])
        rw [hst] at hw
        rw [hw]
        have hl1 : (z.fs ++ ([(⟨p ++ x.name, false, ⟨hd a15, ((lookS l x.of).getD nilS).l.length, c16, ((lookS l x.of).getD nilS).l⟩⟩ : Fl)])).length = z.fs.length + 1 := by rw [List.length_append]; rfl
        rw [← hl1] at H
        exact ⟨(⟨z.mo, z.Mo, z.co, z.mm, mm4, mc5, fput z.G x.of ((z.G x.of).getD 0 + 1), (z.n + 1), z.tl, a18, c19, z.fs ++ ([(⟨p ++ x.name, false, ⟨hd a15, ((lookS l x.of).getD nilS).l.length, c16, ((lookS l x.of).getD nilS).l⟩⟩ : Fl)])⟩ : WY), 0, fun _ => ⟨hz.hO, hz.hOk, hmf6, hmo7, bd_put hz.bd x.of, by show z.n + 1 ≤ 1024; omega, fat_add hz.fat rfl, by simp only [List.length_append, List.length_singleton]; omega⟩, rfl, ⟨hs0.symm, fun _ => ⟨congrArg (· + 1) hrn, keys_put hrg x.of, fun ht => by rw [List.map_append, List.map_append, hrf ht]; rfl⟩⟩, wfile_step (H.sub (.cons _ (.cons_cons _ (.cons _ (.cons_cons _ (.cons_cons _ (.cons_cons _ (.cons_cons _ (List.Sublist.refl _)))))))))⟩
       ·
        refine (o_bslG1 (enc := flE) ((⟨p ++ x.name, false, ⟨hd a15, ((lookS l x.of).getD nilS).l.length, c16, ((lookS l x.of).getD nilS).l⟩⟩ : Fl)) H sl40 zc48 (by rfl) (by decide) (by decide) rfl (flE_len _) (fun b20 w H hb20 => ?_))
        replace H := H.rot
        replace H : Hp _ w _ (Ch.own (some b20) 1 1 (([(⟨p ++ x.name, false, ⟨hd a15, ((lookS l x.of).getD nilS).l.length, c16, ((lookS l x.of).getD nilS).l⟩⟩ : Fl)]).flatMap flE) 48 3 :: Ch.own a15 (((lookS l x.of).getD nilS).l.length) c16 ((((lookS l x.of).getD nilS).l).map V8) 5 1 :: Ch.blk b1 (([.string ⟨(x.name).toArray⟩, VI x.kind] : List Value) ++ ((x.of.1).map V8 ++ (([VI x.size] : List Value)))) 54 :: Ch.blk wb ([.map (some z.mo), .map (some z.mm), VI ((z.n + 1 : Nat) : Int), .bool z.tl, .slice (hd z.fa) z.fs.length z.fc, VI 0]) 70 :: Ch.obj z.mo (mobj kA z.Mo z.co) :: Ch.obj z.mm (mobj kA mm4 mc5) :: Ch.own z.fa z.fs.length z.fc ((z.fs).flatMap flE) 48 3 :: z.T) := H
        refine ⟨H.sub (.cons _ (.cons _ (.cons_cons _ (.cons _ (.cons_cons _ (.cons_cons _ (List.nil_sublist _))))))), ?_⟩
        replace HS := H.sub (.cons _ (.cons _ (.cons_cons _ (.cons _ (.cons_cons _ (.cons_cons _ (List.nil_sublist _)))))))
        refine t_step 4 rfl (by kernel_rfl) (o_val (r_ld (v := .slice (hd z.fa) z.fs.length z.fc) H (i := 3) rfl rfl ct40 rfl) ?_); refine ⟨H.sub (.cons _ (.cons _ (.cons_cons _ (.cons _ (.cons_cons _ (.cons_cons _ (List.nil_sublist _))))))), ?_⟩
        replace HS := H.sub (.cons _ (.cons _ (.cons_cons _ (.cons _ (.cons_cons _ (.cons_cons _ (List.nil_sublist _)))))))
        refine t_step 13 rfl (by kernel_rfl) (o_appG (enc := flE) (s := ⟨hd (some b20), 1, 1, [(⟨p ++ x.name, false, ⟨hd a15, ((lookS l x.of).getD nilS).l.length, c16, ((lookS l x.of).getD nilS).l⟩⟩ : Fl)]⟩) (l' := z.fs ++ ([(⟨p ++ x.name, false, ⟨hd a15, ((lookS l x.of).getD nilS).l.length, c16, ((lookS l x.of).getD nilS).l⟩⟩ : Fl)])) (len' := z.fs.length + 1) rfl rfl H (i := 6) rfl sl40 Try.underlying40 rfl rfl (H.glOwn (i := 0) rfl (by decide) (fun c _ => flE_len c)) (by decide) (fun c _ => flE_all c) (by omega) (by decide) (fun a21 c22 w H => ?_)); replace H : Hp _ w _ (Ch.own (some b20) 1 1 (([(⟨p ++ x.name, false, ⟨hd a15, ((lookS l x.of).getD nilS).l.length, c16, ((lookS l x.of).getD nilS).l⟩⟩ : Fl)]).flatMap flE) 48 3 :: Ch.own a15 (((lookS l x.of).getD nilS).l.length) c16 ((((lookS l x.of).getD nilS).l).map V8) 5 1 :: Ch.blk b1 (([.string ⟨(x.name).toArray⟩, VI x.kind] : List Value) ++ ((x.of.1).map V8 ++ (([VI x.size] : List Value)))) 54 :: Ch.blk wb ([.map (some z.mo), .map (some z.mm), VI ((z.n + 1 : Nat) : Int), .bool z.tl, .slice (hd z.fa) z.fs.length z.fc, VI 0]) 70 :: Ch.obj z.mo (mobj kA z.Mo z.co) :: Ch.obj z.mm (mobj kA mm4 mc5) :: Ch.own a21 (z.fs.length + 1) c22 ((z.fs ++ ([(⟨p ++ x.name, false, ⟨hd a15, ((lookS l x.of).getD nilS).l.length, c16, ((lookS l x.of).getD nilS).l⟩⟩ : Fl)])).flatMap flE) 48 3 :: z.T) := H
        refine ⟨H.sub (.cons _ (.cons _ (.cons_cons _ (.cons _ (.cons_cons _ (.cons_cons _ (List.nil_sublist _))))))), ?_⟩
        replace HS := H.sub (.cons _ (.cons _ (.cons_cons _ (.cons _ (.cons_cons _ (.cons_cons _ (List.nil_sublist _)))))))
        refine t_take 14 rfl (by kernel_rfl) (by kernel_rfl) (by kernel_rfl) (fun _ _ _ h => h) (fun w HS => r_nilc rfl) HS ?_; refine t_take 15 rfl (by kernel_rfl) (by kernel_rfl) (by kernel_rfl) (fun _ _ _ h => h) (fun w HS => r_fa rfl fo70_4) HS ?_; refine t_step 16 rfl (by kernel_rfl) (o_st (v := .slice (hd a21) (z.fs.length + 1) c22) H (i := 3) rfl rfl rfl cs40 rfl (by simp only [List.length_cons, List.length_nil]; omega) (fun w H => ?_)); replace H : Hp _ w _ (Ch.own (some b20) 1 1 (([(⟨p ++ x.name, false, ⟨hd a15, ((lookS l x.of).getD nilS).l.length, c16, ((lookS l x.of).getD nilS).l⟩⟩ : Fl)]).flatMap flE) 48 3 :: Ch.own a15 (((lookS l x.of).getD nilS).l.length) c16 ((((lookS l x.of).getD nilS).l).map V8) 5 1 :: Ch.blk b1 (([.string ⟨(x.name).toArray⟩, VI x.kind] : List Value) ++ ((x.of.1).map V8 ++ (([VI x.size] : List Value)))) 54 :: Ch.blk wb ([.map (some z.mo), .map (some z.mm), VI ((z.n + 1 : Nat) : Int), .bool z.tl, .slice (hd a21) (z.fs.length + 1) c22, VI 0]) 70 :: Ch.obj z.mo (mobj kA z.Mo z.co) :: Ch.obj z.mm (mobj kA mm4 mc5) :: Ch.own a21 (z.fs.length + 1) c22 ((z.fs ++ ([(⟨p ++ x.name, false, ⟨hd a15, ((lookS l x.of).getD nilS).l.length, c16, ((lookS l x.of).getD nilS).l⟩⟩ : Fl)])).flatMap flE) 48 3 :: z.T) := H
        refine ⟨H.sub (.cons _ (.cons _ (.cons_cons _ (.cons _ (.cons_cons _ (.cons_cons _ (List.nil_sublist _))))))), ?_⟩
        replace HS := H.sub (.cons _ (.cons _ (.cons_cons _ (.cons _ (.cons_cons _ (.cons_cons _ (List.nil_sublist _)))))))
        refine t_done (by kernel_rfl) ?_
        clear HS
        try simp only [Exit.then, Exit.inBlock, ↓reduceIte]
        refine e_norm ?_; refine e_ret0 Try.results48 ?_
        refine ⟨_, rfl, ?_⟩
        have hst := step_file (L := obL l) (t := (⟨1, x.of, x.size, dp, p ++ x.name⟩ : Todo)) (s := s) (fun h => h.elim (fun h => absurd (show (1 : Int) = 2 from h.1) (by decide)) (fun h => by omega)) (look_some hc3) rfl (show (((lookS l x.of).getD nilS).l.length : Int) = x.size by rw [hob.2]; omega)
        have hw := wlkAll_one (L := obL l) (t := (⟨1, x.of, x.size, dp, p ++ x.name⟩ : Todo)) (s := s) (by rw [hst])
        rw [hst] at hw
        rw [hw]
        have hl1 : (z.fs ++ ([(⟨p ++ x.name, false, ⟨hd a15, ((lookS l x.of).getD nilS).l.length, c16, ((lookS l x.of).getD nilS).l⟩⟩ : Fl)])).length = z.fs.length + 1 := by rw [List.length_append]; rfl
        rw [← hl1] at H
        exact ⟨(⟨z.mo, z.Mo, z.co, z.mm, mm4, mc5, fput z.G x.of ((z.G x.of).getD 0 + 1), (z.n + 1), z.tl, a21, c22, z.fs ++ ([(⟨p ++ x.name, false, ⟨hd a15, ((lookS l x.of).getD nilS).l.length, c16, ((lookS l x.of).getD nilS).l⟩⟩ : Fl)])⟩ : WY), 0, fun _ => ⟨hz.hO, hz.hOk, hmf6, hmo7, bd_put hz.bd x.of, by show z.n + 1 ≤ 1024; omega, fat_add hz.fat rfl, by simp only [List.length_append, List.length_singleton]; omega⟩, rfl, ⟨hs0.symm, fun _ => ⟨congrArg (· + 1) hrn, keys_put hrg x.of, fun ht => by rw [List.map_append, List.map_append, hrf ht]; rfl⟩⟩, wfile_step (H.sub (.cons _ (.cons_cons _ (.cons _ (.cons_cons _ (.cons_cons _ (.cons_cons _ (.cons_cons _ (List.Sublist.refl _)))))))))⟩
     ·
      repeat refine c_seq ?_
      refine c_no (by exact congrArg Value.bool hc9) ?_; refine c_skip ?_; try simp only [Exit.then, Exit.inBlock, ↓reduceIte]
      refine e_norm ?_; refine e_ret0 Try.results48 ?_
      refine ⟨_, rfl, ?_⟩
      have hst := step_file (L := obL l) (t := (⟨1, x.of, x.size, dp, p ++ x.name⟩ : Todo)) (s := s) (fun h => h.elim (fun h => absurd (show (1 : Int) = 2 from h.1) (by decide)) (fun h => by omega)) (look_some hc3) rfl (show (((lookS l x.of).getD nilS).l.length : Int) = x.size by rw [hob.2]; omega)
      have hw := wlkAll_one (L := obL l) (t := (⟨1, x.of, x.size, dp, p ++ x.name⟩ : Todo)) (s := s) (by rw [hst])
      rw [hst] at hw
      rw [hw]
      exact ⟨(⟨z.mo, z.Mo, z.co, z.mm, mm4, mc5, fput z.G x.of ((z.G x.of).getD 0 + 1), (z.n + 1), z.tl, z.fa, z.fc, z.fs⟩ : WY), 0, fun _ => ⟨hz.hO, hz.hOk, hmf6, hmo7, bd_put hz.bd x.of, by show z.n + 1 ≤ 1024; omega, hz.fat, by show z.fs.length ≤ z.n + 1; omega⟩, rfl, ⟨hs0.symm, fun _ => ⟨congrArg (· + 1) hrn, keys_put hrg x.of, fun ht => absurd (show z.tl = true from ht) (by rw [hc9]; decide)⟩⟩, H.sub (.cons _ (.cons_cons _ (.cons_cons _ (.cons_cons _ (.cons_cons _ (List.Sublist.refl _))))))⟩
   ·
    refine l_op (o_callR Try.func47 rfl rfl rfl (wobj_miss _ l wb z.mo z.co z.mm z.cm z.n z.fs.length z.fc z.Mo z.Mm z.G (hd z.fa) z.tl hz.hO hz.hOk hz.hM hz.hMk (by omega) x.of (by omega) hc3 (H.ownU (L := [.blk b1 (([.string ⟨(x.name).toArray⟩, VI x.kind] : List Value) ++ ((x.of.1).map V8 ++ (([VI x.size] : List Value)))) 54, .blk wb ([.map (some z.mo), .map (some z.mm), VI (z.n : Int), .bool z.tl, .slice (hd z.fa) z.fs.length z.fc, VI 0]) 70, .obj z.mo (mobj kA z.Mo z.co), .obj z.mm (mobj kA z.Mm z.cm), .own z.fa z.fs.length z.fc ((z.fs).flatMap flE) 48 3]) (L1 := [.blk wb ([.map (some z.mo), .map (some z.mm), VI (z.n : Int), .bool z.tl, .slice (hd z.fa) z.fs.length z.fc, VI 0]) 70, .obj z.mo (mobj kA z.Mo z.co), .obj z.mm (mobj kA z.Mm z.cm)]) (Lr := ([.blk b1 (([.string ⟨(x.name).toArray⟩, VI x.kind] : List Value) ++ ((x.of.1).map V8 ++ (([VI x.size] : List Value)))) 54, .own z.fa z.fs.length z.fc ((z.fs).flatMap flE) 48 3] : List Ch)) (T := z.T) ((perm_front (j := 1) rfl).trans (.cons _ ((perm_front (j := 1) rfl).trans (.cons _ ((perm_front (j := 1) rfl).trans (.cons _ (.refl _))))))))) ?_); rintro _ w ⟨rfl, Hc⟩
    replace H := H.callU (L1' := [.blk wb ([.map (some z.mo), .map (some z.mm), VI ((z.n + 1 : Nat) : Int), .bool z.tl, .slice (hd z.fa) z.fs.length z.fc, VI 15]) 70, .obj z.mo (mobj kA z.Mo z.co), .obj z.mm (mobj kA z.Mm z.cm)]) (L := [.blk b1 (([.string ⟨(x.name).toArray⟩, VI x.kind] : List Value) ++ ((x.of.1).map V8 ++ (([VI x.size] : List Value)))) 54, .blk wb ([.map (some z.mo), .map (some z.mm), VI (z.n : Int), .bool z.tl, .slice (hd z.fa) z.fs.length z.fc, VI 0]) 70, .obj z.mo (mobj kA z.Mo z.co), .obj z.mm (mobj kA z.Mm z.cm), .own z.fa z.fs.length z.fc ((z.fs).flatMap flE) 48 3]) (L1 := [.blk wb ([.map (some z.mo), .map (some z.mm), VI (z.n : Int), .bool z.tl, .slice (hd z.fa) z.fs.length z.fc, VI 0]) 70, .obj z.mo (mobj kA z.Mo z.co), .obj z.mm (mobj kA z.Mm z.cm)]) (Lr := ([.blk b1 (([.string ⟨(x.name).toArray⟩, VI x.kind] : List Value) ++ ((x.of.1).map V8 ++ (([VI x.size] : List Value)))) 54, .own z.fa z.fs.length z.fc ((z.fs).flatMap flE) 48 3] : List Ch)) (T := z.T) ((perm_front (j := 1) rfl).trans (.cons _ ((perm_front (j := 1) rfl).trans (.cons _ ((perm_front (j := 1) rfl).trans (.cons _ (.refl _))))))) Hc ((perm_front (j := 0) rfl).trans (.cons _ ((perm_front (j := 1) rfl).trans (.cons _ ((perm_front (j := 1) rfl).trans (.cons _ ((perm_front (j := 1) rfl).trans (.cons _ (.refl _)))))))))
    clear Hc
    replace H : Hp _ w _ (Ch.blk b1 (([.string ⟨(x.name).toArray⟩, VI x.kind] : List Value) ++ ((x.of.1).map V8 ++ (([VI x.size] : List Value)))) 54 :: Ch.blk wb ([.map (some z.mo), .map (some z.mm), VI ((z.n + 1 : Nat) : Int), .bool z.tl, .slice (hd z.fa) z.fs.length z.fc, VI 15]) 70 :: Ch.obj z.mo (mobj kA z.Mo z.co) :: Ch.obj z.mm (mobj kA z.Mm z.cm) :: Ch.own z.fa z.fs.length z.fc ((z.fs).flatMap flE) 48 3 :: z.T) := H
    refine l_op (o_val r_mv ?_); refine l_op (o_val (r_ext rfl rfl) ?_); refine l_op (o_val (r_ext rfl rfl) ?_); refine l_op (o_val r_as ?_); refine l_op (o_val r_as ?_); first | refine l_end ?_ | refine l_nil ?_
    repeat refine c_seq ?_
    refine c_region ?_; refine l_op (o_val r_mv ?_); refine l_op (o_val (r_not rfl) ?_); first | refine l_end ?_ | refine l_nil ?_
    repeat refine c_seq ?_
    refine c_yes rfl ?_; refine c_ret ?_; try dsimp only [Exit.then, Exit.inBlock]
    refine e_ret0 Try.results48 ?_
    refine ⟨_, rfl, ?_⟩
    have hst := step_miss (L := obL l) (t := (⟨1, x.of, x.size, dp, p ++ x.name⟩ : Todo)) (s := s) (fun h => h.elim (fun h => absurd (show (1 : Int) = 2 from h.1) (by decide)) (fun h => by omega)) (look_none hc3)
    have hw : wlkAll (obL l) [(⟨1, x.of, x.size, dp, p ++ x.name⟩ : Todo)] s = { s with err := 15 } := by rw [wlkAll_one (by rw [hst]), hst]
    rw [hw]
    exact ⟨(⟨z.mo, z.Mo, z.co, z.mm, z.Mm, z.cm, z.G, (z.n + 1), z.tl, z.fa, z.fc, z.fs⟩ : WY), 15, fun h => absurd h (by decide), rfl, ⟨rfl, fun h => absurd (show (15 : Int) = 0 from h) (by decide)⟩, H.sub (.cons _ (.cons_cons _ (.cons_cons _ (.cons_cons _ (.cons_cons _ (List.Sublist.refl _))))))⟩
end Go.Proofs.Ytomjbabllcmodaa
namespace Go.Proofs.Ytomjbabllcmodaa
open Go
set_option maxRecDepth 100000
section
variable {P : Program} {n : Nat} {σ : Nat → Value} {w : World} {ty : TypeId} {pos : String} {aft : Array Edge} {g : Option (Nat × Bool)} {d : Nat} {t : TypeId} {x y : Operand}
theorem ext_take (l : List UInt8) (h : Nat) : ByteArray.extract ⟨l.toArray⟩ 0 h = ⟨(l.take h).toArray⟩ := by
  apply ByteArray.ext; simp [ByteArray.data_extract]
theorem r_slstrH {l : List UInt8} {h : Nat} {kk : IntKind} {j : Int} (hu : P.underlying t = some .string) (hx : ev n σ x = .string ⟨l.toArray⟩) (hy : ev n σ y = .int kk j) (hj : j = (h : Int)) (hl : h ≤ l.length) :
    (execOp (ev n σ) ⟨some d, .slice t x none (some y) none, ty, pos, aft, g⟩).run P w = .ok (.value (.string ⟨(l.take h).toArray⟩)) w := by
  rw [← ext_take]
  exact r_sls (m := ByteArray.size ⟨l.toArray⟩) hu hx rfl (congrArg some hy) (fun w => sbh h hj (by simpa [ByteArray.size] using hl) w)
end
end Go.Proofs.Ytomjbabllcmodaa
