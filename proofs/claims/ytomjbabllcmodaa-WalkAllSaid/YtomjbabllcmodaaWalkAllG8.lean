/- Lemmas for the statement WalkAll, part 8: rules of operations, walks through functions, plain laws. -/
import Derived.Test.YtomjbabllcmodaaWalkAllG7
namespace Go.Proofs.Ytomjbabllcmodaa
open Go
set_option maxRecDepth 100000
def sp (C : List Value) (i : Nat) : List Value := List.replicate i (V8 90) ++ C.drop i
theorem sp_set (C : List Value) (i : Nat) (h : i < C.length) : (sp C i).set i (V8 90) = sp C (i + 1) := by
  unfold sp
  rw [List.set_append_right _ _ (by simp), List.length_replicate, Nat.sub_self, List.drop_eq_getElem_cons h, List.set_cons_zero, List.replicate_succ']
  simp
theorem sp_length (C : List Value) (i : Nat) (h : i ≤ C.length) : (sp C i).length = C.length := by simp [sp]; omega
theorem spoilN_ret (w0 : World) (b len cap : Nat) (C : List Value) (hH : w0.heap[b]? = some (.cells C.toArray 5 (0, 0))) (hC : C.length = cap) (hlc : len ≤ cap) (hm : cap ≤ maxLen) :
    Ret Try.prog 22 [.slice (some ⟨b, 0, none⟩) len cap] w0 fun v w' => v = .tuple #[] ∧ Hp w0 w' [b] [.blk b (List.replicate cap (V8 90)) 5] := by
  refine ret_mk Try.func22 rfl Try.ntmps22 (by simp) ?_
  have hmL : maxLen = 9223372036854775807 := rfl
  have H := Hp.start w0 (.blk b C 5) b hH rfl
  repeat refine c_seq ?_
  refine c_region ?_; refine l_op (o_mv ?_); refine l_op (o_mv ?_); refine l_op (o_caps el32 rfl ?_); refine l_op (o_sl (a := some ⟨b, 0, none⟩) (len := len) (cap := cap) rfl el32 rfl rfl rfl (fun w => by exact sb_h (by omega) (by omega) w) ?_); refine l_op (o_as ?_); first | refine l_end ?_ | refine l_nil ?_
  rw [sa_zero]
  repeat refine c_seq ?_
  refine c_region ?_; refine l_op (o_as ?_); first | refine l_end ?_ | refine l_nil ?_
  repeat refine c_seq ?_
  refine c_block ?_; have hcap : ((cap : Int).toNat - 0) = cap := by omega
  rw [hcap]
  refine c_loop (ι := Nat) (fun i => [(3, VI i), (2, .slice (some ⟨b, 0, none⟩) cap cap)])
    (fun i w => i ≤ cap ∧ Hp w0 w [b] [.blk b (sp C i) 5])
    (fun i => cap - i) 0 ⟨rfl, rfl, trivial⟩ ⟨by omega, H⟩ ?_
  clear H
  rintro i τ w ⟨hi, H⟩
  have hsl := sp_length C i (by omega)
  repeat refine c_seq ?_
  refine c_region ?_; refine l_op (o_mv ?_); refine l_op (o_mv ?_); refine l_op (o_lens el32 rfl ?_); refine l_op (o_bin rfl rfl (fun _ => b_lss) ?_); first | refine l_end ?_ | refine l_nil ?_
  repeat refine c_seq ?_
  refine c_ifD rfl (fun hlt => ?_) (fun hlt => ?_)
  · have hlt' : i < cap := by omega
    have x1 : 0 + (i : Int).toNat * 1 = i := by omega
    refine c_skip ?_; repeat refine c_seq ?_
    refine c_block ?_; repeat refine c_seq ?_
    refine c_region ?_; refine l_op (o_mv ?_); refine l_op (o_mv ?_); refine l_op (o_is (a := some ⟨b, 0, none⟩) rfl rfl el32 (by omega) (by omega) (by decide) (Ch.rd_all (H.has _ List.mem_cons_self)) (by omega) (fun b' o' ha => ?_))
    cases ha
    refine l_op (o_st H (i := 0) (v := V8 90) rfl rfl rfl cs5 rfl (by rw [x1]; omega) (fun w H => ?_)); first | refine l_end ?_ | refine l_nil ?_
    have e1 := sp_set C i (by omega)
    simp only [List.set_cons_zero] at H
    rw [x1, e1] at H
    repeat refine c_seq ?_
    refine c_region ?_; refine l_op (o_mv ?_); refine l_op (o_bin rfl rfl (fun _ => b_add (by omega) (by omega)) ?_); refine l_op (o_as ?_); first | refine l_end ?_ | refine l_nil ?_
    refine round_end (i + 1) ?_ ?_ ?_
    · exact ⟨rfl, rfl, trivial⟩
    · exact ⟨hlt', H⟩
    · show cap - (i + 1) < cap - i; omega
  · have hi' : i = cap := by omega
    subst hi'
    have e1 : sp C i = List.replicate i (V8 90) := by rw [sp, List.drop_of_length_le (by omega), List.append_nil]
    rw [e1] at H
    refine c_exit ?_
    simp only [Exit.then, Exit.inBlock, ↓reduceIte]
    refine e_norm (e_ret0 Try.results22 ?_); exact ⟨_, rfl, rfl, H⟩
end Go.Proofs.Ytomjbabllcmodaa
namespace Go.Proofs.Ytomjbabllcmodaa
open Go
set_option maxRecDepth 100000
theorem ach_ok {w : World} {a : Option Nat} {n c : Nat} {l : List UInt8} {T : TypeId} (h : (Ch.own a n c (l.map V8) T 1).ok w) : (⟨hd a, n, c, l⟩ : Sl).ok w :=
  (Own.start (w := w) (L := [.own a n c (l.map V8) T 1]) ⟨fun d hd => by rw [List.mem_singleton.1 hd]; exact h, List.pairwise_singleton ..⟩).slOwn (i := 0) rfl
theorem key_no {l m : List Fl} {i : Nat} {x y : Fl} (hx : l[i]? = some x) (hy : m[i]? = some y) (h : l.map Fl.key = m.map Fl.key) (hn : x.key = y.key → False) : False := by
  have := congrArg (·[i]?) h
  simp only [List.getElem?_map, hx, hy, Option.map_some] at this
  exact hn (Option.some.inj this)
theorem alikeFiles_ret (w0 : World) (r u : Gl Fl) (hr : r.ok flE 3 w0) (hu : u.ok flE 3 w0) (hrd : ∀ f ∈ r.l, f.data.ok w0) (hud : ∀ f ∈ u.l, f.data.ok w0) :
    Ret Try.prog 21 [r.v, u.v] w0 fun v w' => v = .bool (decide (r.l.map Fl.key = u.l.map Fl.key)) ∧ Hp w0 w' [] [] := by
  refine ret_mk Try.func21 rfl Try.ntmps21 (by simp) ?_
  have H := Hp.refl w0 []
  have hrl := hr.ln
  have hul := hu.ln
  have hrx := hr.mx
  have hrm := hr.le
  have hmL : maxLen = 9223372036854775807 := rfl
  repeat refine c_seq ?_
  refine c_region ?_; refine l_op (o_val r_as ?_); first | refine l_end ?_ | refine l_nil ?_
  repeat refine c_seq ?_
  refine c_region ?_; refine l_op (o_val r_mv ?_); refine l_op (o_val (r_lens el40 rfl) ?_); refine l_op (o_val r_mv ?_); refine l_op (o_val (r_lens el40 rfl) ?_); refine l_op (o_val (r_bin (a := (r.len : Int)) (b := (u.len : Int)) rfl rfl (fun _ => b_neq)) ?_); first | refine l_end ?_ | refine l_nil ?_
  by_cases hc1 : (r.len : Int) ≠ (u.len : Int)
  ·
   repeat refine c_seq ?_
   refine c_yes (by exact congrArg Value.bool (decide_eq_true hc1)) ?_; repeat refine c_seq ?_
   refine c_region ?_; refine l_op (o_val r_as ?_); first | refine l_end ?_ | refine l_nil ?_
   refine c_ret ?_; try dsimp only [Exit.then, Exit.inBlock]
   refine e_ret1 (v := .bool false) Try.results21 rfl ?_
   refine ⟨_, rfl, ?_⟩
   exact ⟨congrArg Value.bool (decide_eq_false (fun h => by have := congrArg List.length h; rw [List.length_map, List.length_map] at this; omega)).symm, H⟩
  ·
   repeat refine c_seq ?_
   refine c_no (by exact congrArg Value.bool (decide_eq_false hc1)) ?_; refine c_skip ?_; repeat refine c_seq ?_
   refine c_region ?_; refine l_op (o_val r_as ?_); first | refine l_end ?_ | refine l_nil ?_
   repeat refine c_seq ?_
   refine c_block ?_; repeat refine c_seq ?_
   refine c_loop (fun (i : Nat) => [(0, r.v), (1, u.v), (5, VI (i : Int))])
     (fun (i : Nat) w => (i ≤ r.len ∧ (r.l.take i).map Fl.key = (u.l.take i).map Fl.key) ∧ Hp w0 w [] ([]))
     (fun (i : Nat) => r.len - i) 0 ⟨rfl, rfl, rfl, trivial⟩ ⟨⟨Nat.zero_le _, rfl⟩, H⟩ ?_
   clear H
   rintro i τ w ⟨⟨hil, hta⟩, H⟩
   repeat refine c_seq ?_
   refine c_region ?_; refine l_op (o_val r_mv ?_); refine l_op (o_val r_mv ?_); refine l_op (o_val (r_lens el40 rfl) ?_); refine l_op (o_val (r_bin (a := (i : Int)) (b := (r.len : Int)) rfl rfl (fun _ => b_lss)) ?_); first | refine l_end ?_ | refine l_nil ?_
   by_cases hc2 : (i : Int) < (r.len : Int)
   ·
    repeat refine c_seq ?_
    refine c_yes (by exact congrArg Value.bool (decide_eq_true hc2)) ?_; refine c_skip ?_; repeat refine c_seq ?_
    refine c_block ?_; repeat refine c_seq ?_
    refine c_still mixed (by kernel_rfl) ?_; replace H := H.drew
    refine s_op (r_mv) ?_; refine s_op (r_mv) ?_; have ah5 := ((hr.up H)).addr (by decide) (by first | omega | (dsimp only; omega))
    obtain ⟨ab3, ao4, ah5⟩ := ah5
    refine s_op (r_isN i rfl rfl el40 ah5 (by omega) (by (try simp only [Sl.cut]); omega)) ?_; refine s_op (r_fa rfl fo48_0) ?_; have he7 : ∃ c, r.l[i]? = some c := ⟨_, List.getElem?_eq_getElem (by have := ((hr.up H)).ln; (try dsimp only at this ⊢); omega)⟩
    obtain ⟨e6, he7⟩ := he7
    have hez8 := ((hr.up H)).sz e6 (List.mem_of_getElem? he7)
    have hfd_e6 := hrd e6 (List.mem_of_getElem? he7)
    refine s_op (r_g1 (v := .string ⟨(e6.path).toArray⟩) (s := r) (j := i) (hr.up H) ah5 rfl ct9 he7 (by decide) (show Cut3 (flE e6) (([] : List Value)) (([.string ⟨(e6.path).toArray⟩] : List Value)) (([.bool e6.dir, e6.data.v] : List Value)) 0 1 from ⟨(show ([.string ⟨(e6.path).toArray⟩, .bool e6.dir, e6.data.v] : List Value) = ([] : List Value) ++ ((([.string ⟨(e6.path).toArray⟩] : List Value)) ++ (([.bool e6.dir, e6.data.v] : List Value))) from by simp only [List.cons_append, List.nil_append]), (by rfl), (by rfl)⟩)) ?_; refine s_op (r_mv) ?_; refine s_op (r_mv) ?_; have ah11 := ((hu.up H)).addr (by decide) (by first | omega | (dsimp only; omega))
    obtain ⟨ab9, ao10, ah11⟩ := ah11
    refine s_op (r_isN i rfl rfl el40 ah11 (by omega) (by (try simp only [Sl.cut]); omega)) ?_; refine s_op (r_fa rfl fo48_0) ?_; have he13 : ∃ c, u.l[i]? = some c := ⟨_, List.getElem?_eq_getElem (by have := ((hu.up H)).ln; (try dsimp only at this ⊢); omega)⟩
    obtain ⟨e12, he13⟩ := he13
    have hez14 := ((hu.up H)).sz e12 (List.mem_of_getElem? he13)
    have hfd_e12 := hud e12 (List.mem_of_getElem? he13)
    refine s_op (r_g1 (v := .string ⟨(e12.path).toArray⟩) (s := u) (j := i) (hu.up H) ah11 rfl ct9 he13 (by decide) (show Cut3 (flE e12) (([] : List Value)) (([.string ⟨(e12.path).toArray⟩] : List Value)) (([.bool e12.dir, e12.data.v] : List Value)) 0 1 from ⟨(show ([.string ⟨(e12.path).toArray⟩, .bool e12.dir, e12.data.v] : List Value) = ([] : List Value) ++ ((([.string ⟨(e12.path).toArray⟩] : List Value)) ++ (([.bool e12.dir, e12.data.v] : List Value))) from by simp only [List.cons_append, List.nil_append]), (by rfl), (by rfl)⟩)) ?_; refine s_op (r_strne (a := e6.path) (b := e12.path) rfl rfl) ?_; refine s_op (r_mv) ?_
    by_cases hc15 : e6.path = e12.path
    ·
     refine s_yes rfl rfl (by exact congrArg Value.bool (congrArg not (decide_eq_true hc15))) (r_mv) ?_; refine s_yes rfl rfl (by exact congrArg Value.bool (congrArg not (decide_eq_true hc15))) (r_mv) ?_; refine s_yes rfl rfl (by exact congrArg Value.bool (congrArg not (decide_eq_true hc15))) (r_isN i rfl rfl el40 ah5 (by omega) (by (try simp only [Sl.cut]); omega)) ?_; refine s_yes rfl rfl (by exact congrArg Value.bool (congrArg not (decide_eq_true hc15))) (r_fa rfl fo48_1) ?_; refine s_yes rfl rfl (by exact congrArg Value.bool (congrArg not (decide_eq_true hc15))) (r_g1 (v := .bool e6.dir) (s := r) (j := i) (hr.up H) ah5 rfl ct4 he7 (by decide) (show Cut3 (flE e6) (([.string ⟨(e6.path).toArray⟩] : List Value)) (([.bool e6.dir] : List Value)) (([e6.data.v] : List Value)) 1 1 from ⟨(show ([.string ⟨(e6.path).toArray⟩, .bool e6.dir, e6.data.v] : List Value) = ([.string ⟨(e6.path).toArray⟩] : List Value) ++ ((([.bool e6.dir] : List Value)) ++ (([e6.data.v] : List Value))) from by simp only [List.cons_append, List.nil_append]), (by rfl), (by rfl)⟩)) ?_; refine s_yes rfl rfl (by exact congrArg Value.bool (congrArg not (decide_eq_true hc15))) (r_mv) ?_; refine s_yes rfl rfl (by exact congrArg Value.bool (congrArg not (decide_eq_true hc15))) (r_mv) ?_; refine s_yes rfl rfl (by exact congrArg Value.bool (congrArg not (decide_eq_true hc15))) (r_isN i rfl rfl el40 ah11 (by omega) (by (try simp only [Sl.cut]); omega)) ?_; refine s_yes rfl rfl (by exact congrArg Value.bool (congrArg not (decide_eq_true hc15))) (r_fa rfl fo48_1) ?_; refine s_yes rfl rfl (by exact congrArg Value.bool (congrArg not (decide_eq_true hc15))) (r_g1 (v := .bool e12.dir) (s := u) (j := i) (hu.up H) ah11 rfl ct4 he13 (by decide) (show Cut3 (flE e12) (([.string ⟨(e12.path).toArray⟩] : List Value)) (([.bool e12.dir] : List Value)) (([e12.data.v] : List Value)) 1 1 from ⟨(show ([.string ⟨(e12.path).toArray⟩, .bool e12.dir, e12.data.v] : List Value) = ([.string ⟨(e12.path).toArray⟩] : List Value) ++ ((([.bool e12.dir] : List Value)) ++ (([e12.data.v] : List Value))) from by simp only [List.cons_append, List.nil_append]), (by rfl), (by rfl)⟩)) ?_; refine s_yes rfl rfl (by exact congrArg Value.bool (congrArg not (decide_eq_true hc15))) (r_bne Try.underlying4 rfl rfl) ?_; refine s_op (r_pick (b := false) (congrArg Value.bool (congrArg not (decide_eq_true hc15)))) ?_; refine s_op (r_mv) ?_; have hc160 := Bool.eq_false_or_eq_true (e6.dir == e12.dir)
     rcases hc160 with hc16 | hc16
     ·
      refine s_yes rfl rfl (by exact congrArg Value.bool (congrArg not hc16)) (r_mv) ?_; refine s_yes rfl rfl (by exact congrArg Value.bool (congrArg not hc16)) (r_mv) ?_; refine s_yes rfl rfl (by exact congrArg Value.bool (congrArg not hc16)) (r_isN i rfl rfl el40 ah5 (by omega) (by (try simp only [Sl.cut]); omega)) ?_; refine s_yes rfl rfl (by exact congrArg Value.bool (congrArg not hc16)) (r_fa rfl fo48_2) ?_; refine s_yes rfl rfl (by exact congrArg Value.bool (congrArg not hc16)) (r_g1 (v := e6.data.v) (s := r) (j := i) (hr.up H) ah5 rfl ct32 he7 (by decide) (show Cut3 (flE e6) (([.string ⟨(e6.path).toArray⟩, .bool e6.dir] : List Value)) (([e6.data.v] : List Value)) (([] : List Value)) 2 1 from ⟨(show ([.string ⟨(e6.path).toArray⟩, .bool e6.dir, e6.data.v] : List Value) = ([.string ⟨(e6.path).toArray⟩, .bool e6.dir] : List Value) ++ ((([e6.data.v] : List Value)) ++ (([] : List Value))) from by simp only [List.cons_append, List.nil_append]), (by rfl), (by rfl)⟩)) ?_; refine s_yes rfl rfl (by exact congrArg Value.bool (congrArg not hc16)) (r_b2S (s := e6.data) Try.underlying32 Try.underlying5 Try.underlying9 rfl (hfd_e6.up H (fun _ => apart_nil _))) ?_; refine s_yes rfl rfl (by exact congrArg Value.bool (congrArg not hc16)) (r_mv) ?_; refine s_yes rfl rfl (by exact congrArg Value.bool (congrArg not hc16)) (r_mv) ?_; refine s_yes rfl rfl (by exact congrArg Value.bool (congrArg not hc16)) (r_isN i rfl rfl el40 ah11 (by omega) (by (try simp only [Sl.cut]); omega)) ?_; refine s_yes rfl rfl (by exact congrArg Value.bool (congrArg not hc16)) (r_fa rfl fo48_2) ?_; refine s_yes rfl rfl (by exact congrArg Value.bool (congrArg not hc16)) (r_g1 (v := e12.data.v) (s := u) (j := i) (hu.up H) ah11 rfl ct32 he13 (by decide) (show Cut3 (flE e12) (([.string ⟨(e12.path).toArray⟩, .bool e12.dir] : List Value)) (([e12.data.v] : List Value)) (([] : List Value)) 2 1 from ⟨(show ([.string ⟨(e12.path).toArray⟩, .bool e12.dir, e12.data.v] : List Value) = ([.string ⟨(e12.path).toArray⟩, .bool e12.dir] : List Value) ++ ((([e12.data.v] : List Value)) ++ (([] : List Value))) from by simp only [List.cons_append, List.nil_append]), (by rfl), (by rfl)⟩)) ?_; refine s_yes rfl rfl (by exact congrArg Value.bool (congrArg not hc16)) (r_b2S (s := e12.data) Try.underlying32 Try.underlying5 Try.underlying9 rfl (hfd_e12.up H (fun _ => apart_nil _))) ?_; refine s_yes rfl rfl (by exact congrArg Value.bool (congrArg not hc16)) (r_strne (a := e6.data.l) (b := e12.data.l) rfl rfl) ?_; refine s_op (r_pick (b := false) (congrArg Value.bool (congrArg not hc16))) ?_; refine s_nil ?_
      by_cases hc17 : e6.data.l = e12.data.l
      ·
       repeat refine c_seq ?_
       refine c_no (by exact congrArg Value.bool (congrArg not (decide_eq_true hc17))) ?_; refine c_skip ?_; repeat refine c_seq ?_
       refine c_region ?_; refine l_op (o_val r_mv ?_); refine l_op (o_val (r_bin (a := (i : Int)) (b := 1) rfl rfl (fun _ => b_add (by omega) (by omega))) ?_); refine l_op (o_val r_as ?_); first | refine l_end ?_ | refine l_nil ?_
       have heq : Fl.key e6 = Fl.key e12 := by rw [Fl.key, Fl.key, hc15, beq_iff_eq.1 hc16, hc17]
       refine round_end (i + 1) ?_ ?_ ?_
       · exact ⟨rfl, rfl, show VI ((i : Int) + 1) = VI ((i + 1 : Nat) : Int) from congrArg VI (by omega), trivial⟩
       · refine ⟨?_, ?_⟩
         · try dsimp only
           exact ⟨by omega, by rw [take_snocG he7, take_snocG he13, List.map_append, List.map_append, hta]; exact congrArg (fun q => (u.l.take i).map Fl.key ++ [q]) heq⟩
         · exact H
       · show r.len - (i + 1 : Nat) < r.len - i; omega
      ·
       repeat refine c_seq ?_
       refine c_yes (by exact congrArg Value.bool (congrArg not (decide_eq_false hc17))) ?_; repeat refine c_seq ?_
       refine c_region ?_; refine l_op (o_val r_as ?_); first | refine l_end ?_ | refine l_nil ?_
       refine c_ret ?_; try dsimp only [Exit.then, Exit.inBlock]
       refine e_ret1 (v := .bool false) Try.results21 rfl ?_
       refine ⟨_, rfl, ?_⟩
       exact ⟨congrArg Value.bool (decide_eq_false (fun h => key_no he7 he13 h (fun hk => hc17 (congrArg (fun q => q.2.2) hk)))).symm, H⟩
     ·
      refine s_no rfl rfl (by exact congrArg Value.bool (congrArg not hc16)) rfl ?_; refine s_no rfl rfl (by exact congrArg Value.bool (congrArg not hc16)) rfl ?_; refine s_no rfl rfl (by exact congrArg Value.bool (congrArg not hc16)) rfl ?_; refine s_no rfl rfl (by exact congrArg Value.bool (congrArg not hc16)) rfl ?_; refine s_no rfl rfl (by exact congrArg Value.bool (congrArg not hc16)) rfl ?_; refine s_no rfl rfl (by exact congrArg Value.bool (congrArg not hc16)) rfl ?_; refine s_no rfl rfl (by exact congrArg Value.bool (congrArg not hc16)) rfl ?_; refine s_no rfl rfl (by exact congrArg Value.bool (congrArg not hc16)) rfl ?_; refine s_no rfl rfl (by exact congrArg Value.bool (congrArg not hc16)) rfl ?_; refine s_no rfl rfl (by exact congrArg Value.bool (congrArg not hc16)) rfl ?_; refine s_no rfl rfl (by exact congrArg Value.bool (congrArg not hc16)) rfl ?_; refine s_no rfl rfl (by exact congrArg Value.bool (congrArg not hc16)) rfl ?_; refine s_no rfl rfl (by exact congrArg Value.bool (congrArg not hc16)) rfl ?_; refine s_op (r_pick (b := true) (congrArg Value.bool (congrArg not hc16))) ?_; refine s_nil ?_; repeat refine c_seq ?_
      refine c_yes rfl ?_; repeat refine c_seq ?_
      refine c_region ?_; refine l_op (o_val r_as ?_); first | refine l_end ?_ | refine l_nil ?_
      refine c_ret ?_; try dsimp only [Exit.then, Exit.inBlock]
      refine e_ret1 (v := .bool false) Try.results21 rfl ?_
      refine ⟨_, rfl, ?_⟩
      exact ⟨congrArg Value.bool (decide_eq_false (fun h => key_no he7 he13 h (fun hk => by have h9 : e6.dir = e12.dir := congrArg (fun q => q.2.1) hk; rw [h9] at hc16; simp at hc16))).symm, H⟩
    ·
     refine s_no rfl rfl (by exact congrArg Value.bool (congrArg not (decide_eq_false hc15))) rfl ?_; refine s_no rfl rfl (by exact congrArg Value.bool (congrArg not (decide_eq_false hc15))) rfl ?_; refine s_no rfl rfl (by exact congrArg Value.bool (congrArg not (decide_eq_false hc15))) rfl ?_; refine s_no rfl rfl (by exact congrArg Value.bool (congrArg not (decide_eq_false hc15))) rfl ?_; refine s_no rfl rfl (by exact congrArg Value.bool (congrArg not (decide_eq_false hc15))) rfl ?_; refine s_no rfl rfl (by exact congrArg Value.bool (congrArg not (decide_eq_false hc15))) rfl ?_; refine s_no rfl rfl (by exact congrArg Value.bool (congrArg not (decide_eq_false hc15))) rfl ?_; refine s_no rfl rfl (by exact congrArg Value.bool (congrArg not (decide_eq_false hc15))) rfl ?_; refine s_no rfl rfl (by exact congrArg Value.bool (congrArg not (decide_eq_false hc15))) rfl ?_; refine s_no rfl rfl (by exact congrArg Value.bool (congrArg not (decide_eq_false hc15))) rfl ?_; refine s_no rfl rfl (by exact congrArg Value.bool (congrArg not (decide_eq_false hc15))) rfl ?_; refine s_op (r_pick (b := true) (congrArg Value.bool (congrArg not (decide_eq_false hc15)))) ?_; refine s_op (r_mv) ?_; refine s_no rfl rfl rfl rfl ?_; refine s_no rfl rfl rfl rfl ?_; refine s_no rfl rfl rfl rfl ?_; refine s_no rfl rfl rfl rfl ?_; refine s_no rfl rfl rfl rfl ?_; refine s_no rfl rfl rfl rfl ?_; refine s_no rfl rfl rfl rfl ?_; refine s_no rfl rfl rfl rfl ?_; refine s_no rfl rfl rfl rfl ?_; refine s_no rfl rfl rfl rfl ?_; refine s_no rfl rfl rfl rfl ?_; refine s_no rfl rfl rfl rfl ?_; refine s_no rfl rfl rfl rfl ?_; refine s_op (r_pick rfl) ?_; refine s_nil ?_; repeat refine c_seq ?_
     refine c_yes rfl ?_; repeat refine c_seq ?_
     refine c_region ?_; refine l_op (o_val r_as ?_); first | refine l_end ?_ | refine l_nil ?_
     refine c_ret ?_; try dsimp only [Exit.then, Exit.inBlock]
     refine e_ret1 (v := .bool false) Try.results21 rfl ?_
     refine ⟨_, rfl, ?_⟩
     exact ⟨congrArg Value.bool (decide_eq_false (fun h => key_no he7 he13 h (fun hk => hc15 (congrArg Prod.fst hk)))).symm, H⟩
   ·
    repeat refine c_seq ?_
    refine c_no (by exact congrArg Value.bool (decide_eq_false hc2)) ?_; refine c_exit ?_; repeat refine c_seq ?_
    refine c_region ?_; refine l_op (o_val r_as ?_); first | refine l_end ?_ | refine l_nil ?_
    refine c_ret ?_; try dsimp only [Exit.then, Exit.inBlock]
    refine e_ret1 (v := .bool true) Try.results21 rfl ?_
    refine ⟨_, rfl, ?_⟩
    exact ⟨congrArg Value.bool (decide_eq_true (by rw [List.take_of_length_le (by omega), List.take_of_length_le (by omega)] at hta; exact hta)).symm, H⟩
end Go.Proofs.Ytomjbabllcmodaa
namespace Go.Proofs.Ytomjbabllcmodaa
open Go
set_option maxRecDepth 100000
def bIt : It := ⟨[97], 1, shaI [7], 1⟩
def bDir : List UInt8 := fldB [bIt]
theorem sha_7d : (sha256 [7] == sha256 bDir) = false := by decide +kernel
theorem ne_of_beq {a b : List UInt8} (h : (sha256 a == sha256 b) = false) : shaI a ≠ shaI b := fun e => by
  have e3 : sha256 a = sha256 b := congrArg Subtype.val e
  rw [e3] at h
  simp at h
theorem nameOk_a : NameOk [97] := by decide
theorem bIt_may : MayF [bIt] := by
  refine ⟨by simp, fun x hx => ?_, fun i x y hx hy => ?_⟩
  · rw [List.mem_singleton.1 hx]
    exact ⟨nameOk_a, .inl rfl, by decide, by decide⟩
  · have := (List.getElem?_eq_some_iff.1 hy).1
    simp at this
theorem bDir_len : bDir.length = 39 := by
  have := (shaI [7]).2
  simp only [bDir, fldB, List.flatMap_cons, List.flatMap_nil, List.append_nil, itB, bIt, List.length_append, List.length_cons, List.length_nil, this]
  rw [cnt_one _ (by decide), cnt_one _ (by decide)]
  rfl
theorem bDir_take : takeF bDir = some [bIt] := takeF_some bIt_may rfl (by rw [bDir_len]; decide)
theorem bytesRes_ok {g : List It} {t : List UInt8} {e : Int} (h : BytesRes g t e) (hm : MayF g) (hl : (fldB g).length ≤ 4000) : e = 0 ∧ t = fldB g := by
  rcases h with ⟨h1, _, h2, _⟩ | ⟨_, _, h3⟩
  · exact ⟨h1, h2⟩
  · exact absurd ⟨mayB_of hm, hl⟩ h3
theorem ris_nodup {l : List Id32} (h : RisA l) : l.Nodup := h.imp fun {x y} hxy e => by rw [e] at hxy; exact lt_irr _ hxy
end Go.Proofs.Ytomjbabllcmodaa
namespace Go.Proofs.Ytomjbabllcmodaa
open Go
set_option maxRecDepth 100000
theorem bFits : ∀ x ∈ [bIt], x.name.length ≤ 65536 ∧ x.size ≤ 9223372036854775807 := fun x hx => by
  rw [List.mem_singleton.1 hx]; exact ⟨by decide, by decide⟩
end Go.Proofs.Ytomjbabllcmodaa
namespace Go.Proofs.Ytomjbabllcmodaa
open Go
set_option maxRecDepth 100000
theorem tail_ok2 {w : World} {fs : List Fl} (h : ∀ f ∈ fs, (fch f).ok w) (hf : ∀ f ∈ fs, f.data.a = hd (f.data.a.map (·.block)) ∧ f.data.l.length = f.data.len) : ∀ f ∈ fs, f.data.ok w := fun f hm => by
  have h1 := ach_ok (h f hm)
  rw [← (hf f hm).1] at h1
  exact h1
theorem obs2 {w : World} {a b : Ob} (ha : a.data.ok w ∧ a.data.len ≤ 1048576) (hb : b.data.ok w ∧ b.data.len ≤ 1048576) : ∀ o ∈ [a, b], o.data.ok w ∧ o.data.len ≤ 1048576 := fun o ho => by
  simp only [List.mem_cons, List.not_mem_nil, or_false] at ho
  rcases ho with rfl | rfl
  · exact ha
  · exact hb
theorem obs1 {w : World} {a : Ob} (ha : a.data.ok w ∧ a.data.len ≤ 1048576) : ∀ o ∈ [a], o.data.ok w ∧ o.data.len ≤ 1048576 := fun o ho => by
  rw [List.mem_singleton.1 ho]; exact ha
theorem brun2 {x z : Sl} {t : List UInt8} (ht : t = bDir) (hx : x.l = [7]) (hz : z.l = t) : wlkAll (obL [⟨shaI [7], x⟩, ⟨shaI t, z⟩]) [⟨2, shaI t, 0, 1, []⟩] ⟨0, [], [], 0⟩ = ⟨2, [shaI t, shaI [7]], [⟨[97], some [7]⟩], 0⟩ := by
  subst ht
  have hne := ne_of_beq sha_7d
  have l2 : lookO (obL [⟨shaI [7], x⟩, ⟨shaI bDir, z⟩]) (shaI bDir) = some bDir := by rw [lookS_l]; simp [lookS_cons, hne, hz]
  have l1 : lookO (obL [⟨shaI [7], x⟩, ⟨shaI bDir, z⟩]) (shaI [7]) = some [7] := by rw [lookS_l]; simp [lookS_cons, hx]
  have h1 := step_dir (L := obL [⟨shaI [7], x⟩, ⟨shaI bDir, z⟩]) (t := ⟨2, shaI bDir, 0, 1, []⟩) (s := ⟨0, [], [], 0⟩) (by intro h; rcases h with ⟨_, h⟩ | h <;> simp at h) l2 (by show ¬ (2 : Int) = 1; decide) bDir_take
  rw [wlkAll_good (by rw [h1]), h1]
  have h2 := step_file (L := obL [⟨shaI [7], x⟩, ⟨shaI bDir, z⟩]) (t := ⟨1, shaI [7], 1, 2, [97]⟩) (s := ⟨1, [shaI bDir], [], 0⟩) (by intro h; rcases h with ⟨h, _⟩ | h <;> simp at h) l1 rfl rfl
  exact (wlkAll_one (t := ⟨1, shaI [7], 1, 2, [97]⟩) (s := ⟨1, [shaI bDir], [], 0⟩) (by rw [h2])).trans (by rw [h2]; rfl)
theorem brun1 {z : Sl} {t : List UInt8} (ht : t = bDir) (hz : z.l = t) : (wlkAll (obL [⟨shaI t, z⟩]) [⟨2, shaI t, 0, 1, []⟩] ⟨0, [], [], 0⟩).err = 15 := by
  subst ht
  have hne := ne_of_beq sha_7d
  have l2 : lookO (obL [⟨shaI bDir, z⟩]) (shaI bDir) = some bDir := by rw [lookS_l]; simp [lookS_cons, hz]
  have l1 : lookO (obL [⟨shaI bDir, z⟩]) (shaI [7]) = none := by rw [lookS_l]; simp [lookS, hne.symm]
  have h1 := step_dir (L := obL [⟨shaI bDir, z⟩]) (t := ⟨2, shaI bDir, 0, 1, []⟩) (s := ⟨0, [], [], 0⟩) (by intro h; rcases h with ⟨_, h⟩ | h <;> simp at h) l2 (by show ¬ (2 : Int) = 1; decide) bDir_take
  rw [wlkAll_good (by rw [h1]), h1]
  have h2 := step_miss (L := obL [⟨shaI bDir, z⟩]) (t := ⟨1, shaI [7], 1, 2, [97]⟩) (s := ⟨1, [shaI bDir], [], 0⟩) (by intro h; rcases h with ⟨h, _⟩ | h <;> simp at h) l1
  exact congrArg WS.err ((wlkAll_one (t := ⟨1, shaI [7], 1, 2, [97]⟩) (s := ⟨1, [shaI bDir], [], 0⟩) (by rw [h2])).trans (by rw [h2]))
theorem bnames {t : List UInt8} (ht : t = bDir) {W : WS} (hW : W = ⟨2, [shaI t, shaI [7]], [⟨[97], some [7]⟩], 0⟩) {R : List Id32} (h : NamesOk W R) : R.length = 2 := by
  subst hW ht
  obtain ⟨h1, h2⟩ := h.1 rfl
  have h3 := nd_le (m := [shaI bDir, shaI [7]]) (ris_nodup h1) (fun k hk => (h2 k).1 hk)
  have h4 := nd_le (l := [shaI bDir, shaI [7]]) (m := R) (by simp [(ne_of_beq sha_7d).symm]) (fun k hk => (h2 k).2 hk)
  simp only [List.length_cons, List.length_nil] at h3 h4
  omega
theorem bfiles {t : List UInt8} {W : WS} (hW : W = ⟨2, [shaI t, shaI [7]], [⟨[97], some [7]⟩], 0⟩) {fs : List Fl} (h : FilesOk W fs) : fs.length = 1 ∧ ∀ f, fs[0]? = some f → f.path = [97] ∧ f.data.l = [7] := by
  subst hW
  have h1 := h.1 rfl
  have h2 := congrArg List.length h1
  rw [List.length_map] at h2
  refine ⟨h2, fun f hf => ?_⟩
  have h3 := congrArg (·[0]?) h1
  simp only [List.getElem?_map, hf, Option.map_some] at h3
  have h4 := Option.some.inj h3
  exact ⟨congrArg Prod.fst h4, congrArg (fun q => q.2.2) h4⟩
theorem begun17_ret (w0 : World) :
    Ret Try.prog 17 [] w0 fun v w' => v = .bool true ∧ Hp w0 w' [] [] := by
  refine ret_mk Try.func17 rfl Try.ntmps17 (by simp) ?_
  have H := Hp.refl w0 []
  repeat refine c_seq ?_
  refine c_region ?_; refine l_op (o_val r_as ?_); first | refine l_end ?_ | refine l_nil ?_
  repeat refine c_seq ?_
  refine c_region ?_; refine l_op (o_bslB ([(7 : UInt8)]) H sl32 zc5 rfl rfl (by decide) (fun b1 w H hb1 => ?_)); replace H : Hp _ w _ ([.own (some b1) 1 1 (([(7 : UInt8)]).map V8) 5 1]) := H
  refine l_op (o_callR Try.func24 rfl rfl rfl (of17_ret _ ⟨hd (some b1), 1, 1, [(7 : UInt8)]⟩ (H.slOwn (i := 0) rfl) (by (try dsimp only); omega)) ?_); rintro _ w ⟨a2, c3, rfl, Hc⟩
  replace H : Hp _ w _ ([_, .own a2 (([(7 : UInt8)]).length) c3 (([(7 : UInt8)]).map V8) 5 1]) := H.call Hc
  clear Hc
  refine l_op (o_alloc H zc34 (fun b4 w H hb4 => ?_)); replace H : Hp _ w _ ([_, _, .blk b4 ((List.replicate 32 (0 : UInt8)).map V8 ++ (([.slice none 0 0] : List Value))) 34]) := H
  refine l_op (o_stW (C' := ((shaI ([(7 : UInt8)])).1).map V8 ++ (([.slice (hd a2) (([(7 : UInt8)]).length) c3] : List Value))) H (i := 2) rfl rfl rfl cs34 (by first | (simp [Value.oneCell', List.all_append, List.all_map]; done) | (simp only [List.all_append, List.all_cons, List.all_nil, List.all_map]; simp [Value.oneCell', Function.comp_def])) (by simp only [List.length_append, List.length_map, List.length_cons, List.length_nil, (show (List.replicate 32 (0 : UInt8)).length = 32 from (List.length_replicate ..))]) (by simp only [List.length_append, List.length_map, List.length_cons, List.length_nil, (show ((shaI ([(7 : UInt8)])).1).length = 32 from (shaI ([(7 : UInt8)])).2)]) (fun w H => ?_)); replace H : Hp _ w _ ([_, _, .blk b4 (((shaI ([(7 : UInt8)])).1).map V8 ++ (([.slice (hd a2) (([(7 : UInt8)]).length) c3] : List Value))) 34]) := H
  first | refine l_end ?_ | refine l_nil ?_
  repeat refine c_seq ?_
  refine c_region ?_; refine l_op (o_val (r_fa rfl fo34_0) ?_); refine l_op (o_val (r_lk H (i := 2) rfl rfl rt29 (show Cut3 (((shaI ([(7 : UInt8)])).1).map V8 ++ (([.slice (hd a2) (([(7 : UInt8)]).length) c3] : List Value))) (([] : List Value)) (((shaI ([(7 : UInt8)])).1).map V8) (([.slice (hd a2) (([(7 : UInt8)]).length) c3] : List Value)) 0 32 from ⟨(show ((shaI ([(7 : UInt8)])).1).map V8 ++ (([.slice (hd a2) (([(7 : UInt8)]).length) c3] : List Value)) = ([] : List Value) ++ ((((shaI ([(7 : UInt8)])).1).map V8) ++ (([.slice (hd a2) (([(7 : UInt8)]).length) c3] : List Value))) from by simp only [List.nil_append]), (by rfl), (by simp only [List.length_map, (show ((shaI ([(7 : UInt8)])).1).length = 32 from (shaI ([(7 : UInt8)])).2)])⟩)) ?_); refine l_op (o_val (r_bldG (Z := ([.string ⟨(([] : List UInt8)).toArray⟩, VI 0] : List Value) ++ ((List.replicate 32 (0 : UInt8)).map V8 ++ (([VI 0] : List Value)))) (E := ([.string ⟨(([97] : List UInt8)).toArray⟩, VI 1] : List Value) ++ (((shaI ([(7 : UInt8)])).1).map V8 ++ (([VI 1] : List Value)))) (pv := [(0, .string ⟨(([97] : List UInt8)).toArray⟩), (1, VI 1), (2, .agg (((shaI ([(7 : UInt8)])).1).map V8).toArray), (3, VI 1)]) bd54 rfl rfl (.cons (A := ([] : List Value)) (B := ([.string ⟨(([] : List UInt8)).toArray⟩] : List Value)) (D := ([VI 0] : List Value) ++ ((List.replicate 32 (0 : UInt8)).map V8 ++ (([VI 0] : List Value)))) (V := ([.string ⟨(([97] : List UInt8)).toArray⟩] : List Value)) (a := 0) (b := 1) rfl (show Cut3 (([.string ⟨(([] : List UInt8)).toArray⟩, VI 0] : List Value) ++ ((List.replicate 32 (0 : UInt8)).map V8 ++ (([VI 0] : List Value)))) (([] : List Value)) (([.string ⟨(([] : List UInt8)).toArray⟩] : List Value)) (([VI 0] : List Value) ++ ((List.replicate 32 (0 : UInt8)).map V8 ++ (([VI 0] : List Value)))) 0 1 from ⟨(show ([.string ⟨(([] : List UInt8)).toArray⟩, VI 0] : List Value) ++ ((List.replicate 32 (0 : UInt8)).map V8 ++ (([VI 0] : List Value))) = ([] : List Value) ++ ((([.string ⟨(([] : List UInt8)).toArray⟩] : List Value)) ++ (([VI 0] : List Value) ++ ((List.replicate 32 (0 : UInt8)).map V8 ++ (([VI 0] : List Value))))) from by simp only [List.cons_append, List.nil_append]), (by rfl), (by rfl)⟩) (by rfl) (by rfl) ((show ([.string ⟨(([97] : List UInt8)).toArray⟩, VI 0] : List Value) ++ ((List.replicate 32 (0 : UInt8)).map V8 ++ (([VI 0] : List Value))) = ([] : List Value) ++ ((([.string ⟨(([97] : List UInt8)).toArray⟩] : List Value)) ++ (([VI 0] : List Value) ++ ((List.replicate 32 (0 : UInt8)).map V8 ++ (([VI 0] : List Value))))) from by simp only [List.cons_append, List.nil_append]) ▸ .cons (A := ([.string ⟨(([97] : List UInt8)).toArray⟩] : List Value)) (B := ([VI 0] : List Value)) (D := (List.replicate 32 (0 : UInt8)).map V8 ++ (([VI 0] : List Value))) (V := ([VI 1] : List Value)) (a := 1) (b := 1) rfl (show Cut3 (([.string ⟨(([97] : List UInt8)).toArray⟩, VI 0] : List Value) ++ ((List.replicate 32 (0 : UInt8)).map V8 ++ (([VI 0] : List Value)))) (([.string ⟨(([97] : List UInt8)).toArray⟩] : List Value)) (([VI 0] : List Value)) ((List.replicate 32 (0 : UInt8)).map V8 ++ (([VI 0] : List Value))) 1 1 from ⟨(show ([.string ⟨(([97] : List UInt8)).toArray⟩, VI 0] : List Value) ++ ((List.replicate 32 (0 : UInt8)).map V8 ++ (([VI 0] : List Value))) = ([.string ⟨(([97] : List UInt8)).toArray⟩] : List Value) ++ ((([VI 0] : List Value)) ++ ((List.replicate 32 (0 : UInt8)).map V8 ++ (([VI 0] : List Value)))) from by simp only [List.cons_append, List.nil_append]), (by rfl), (by rfl)⟩) (by rfl) (by rfl) ((show ([.string ⟨(([97] : List UInt8)).toArray⟩, VI 1] : List Value) ++ ((List.replicate 32 (0 : UInt8)).map V8 ++ (([VI 0] : List Value))) = ([.string ⟨(([97] : List UInt8)).toArray⟩] : List Value) ++ ((([VI 1] : List Value)) ++ ((List.replicate 32 (0 : UInt8)).map V8 ++ (([VI 0] : List Value)))) from by simp only [List.cons_append, List.nil_append]) ▸ .cons (A := ([.string ⟨(([97] : List UInt8)).toArray⟩, VI 1] : List Value)) (B := (List.replicate 32 (0 : UInt8)).map V8) (D := ([VI 0] : List Value)) (V := ((shaI ([(7 : UInt8)])).1).map V8) (a := 2) (b := 32) rfl (show Cut3 (([.string ⟨(([97] : List UInt8)).toArray⟩, VI 1] : List Value) ++ ((List.replicate 32 (0 : UInt8)).map V8 ++ (([VI 0] : List Value)))) (([.string ⟨(([97] : List UInt8)).toArray⟩, VI 1] : List Value)) ((List.replicate 32 (0 : UInt8)).map V8) (([VI 0] : List Value)) 2 32 from ⟨(show ([.string ⟨(([97] : List UInt8)).toArray⟩, VI 1] : List Value) ++ ((List.replicate 32 (0 : UInt8)).map V8 ++ (([VI 0] : List Value))) = ([.string ⟨(([97] : List UInt8)).toArray⟩, VI 1] : List Value) ++ (((List.replicate 32 (0 : UInt8)).map V8) ++ (([VI 0] : List Value))) from by simp only [List.cons_append, List.nil_append]), (by rfl), (by simp only [List.length_map, (show (List.replicate 32 (0 : UInt8)).length = 32 from (List.length_replicate ..))])⟩) (by rfl) (by simp only [List.length_map, (show ((shaI ([(7 : UInt8)])).1).length = 32 from (shaI ([(7 : UInt8)])).2)]) ((show ([.string ⟨(([97] : List UInt8)).toArray⟩, VI 1] : List Value) ++ (((shaI ([(7 : UInt8)])).1).map V8 ++ (([VI 0] : List Value))) = ([.string ⟨(([97] : List UInt8)).toArray⟩, VI 1] : List Value) ++ ((((shaI ([(7 : UInt8)])).1).map V8) ++ (([VI 0] : List Value))) from by simp only [List.cons_append, List.nil_append]) ▸ .cons (A := ([.string ⟨(([97] : List UInt8)).toArray⟩, VI 1] : List Value) ++ (((shaI ([(7 : UInt8)])).1).map V8)) (B := ([VI 0] : List Value)) (D := ([] : List Value)) (V := ([VI 1] : List Value)) (a := 34) (b := 1) rfl (show Cut3 (([.string ⟨(([97] : List UInt8)).toArray⟩, VI 1] : List Value) ++ (((shaI ([(7 : UInt8)])).1).map V8 ++ (([VI 0] : List Value)))) (([.string ⟨(([97] : List UInt8)).toArray⟩, VI 1] : List Value) ++ (((shaI ([(7 : UInt8)])).1).map V8)) (([VI 0] : List Value)) (([] : List Value)) 34 1 from ⟨(show ([.string ⟨(([97] : List UInt8)).toArray⟩, VI 1] : List Value) ++ (((shaI ([(7 : UInt8)])).1).map V8 ++ (([VI 0] : List Value))) = (([.string ⟨(([97] : List UInt8)).toArray⟩, VI 1] : List Value) ++ (((shaI ([(7 : UInt8)])).1).map V8)) ++ ((([VI 0] : List Value)) ++ (([] : List Value))) from by simp only [List.cons_append, List.nil_append]), (by simp only [List.length_append, List.length_map, List.length_cons, List.length_nil, (show ((shaI ([(7 : UInt8)])).1).length = 32 from (shaI ([(7 : UInt8)])).2)]), (by rfl)⟩) (by rfl) (by rfl) ((show ([.string ⟨(([97] : List UInt8)).toArray⟩, VI 1] : List Value) ++ (((shaI ([(7 : UInt8)])).1).map V8 ++ (([VI 1] : List Value))) = (([.string ⟨(([97] : List UInt8)).toArray⟩, VI 1] : List Value) ++ (((shaI ([(7 : UInt8)])).1).map V8)) ++ ((([VI 1] : List Value)) ++ (([] : List Value))) from by simp only [List.cons_append, List.nil_append]) ▸ .nil _)))))) ?_)
  refine l_op (o_bslG1 (enc := itE) ((⟨([97] : List UInt8), 1, shaI ([(7 : UInt8)]), 1⟩ : It)) H sl52 zc54 (by rfl) (by decide) (by decide) rfl (itE_len _) (fun b5 w H hb5 => ?_)); replace H : Hp _ w _ ([_, _, _, .own (some b5) 1 1 (([(⟨([97] : List UInt8), 1, shaI ([(7 : UInt8)]), 1⟩ : It)]).flatMap itE) 54 35]) := H
  refine l_op (o_callR Try.func25 rfl rfl rfl (folder17_ret _ ⟨hd (some b5), 1, 1, [(⟨([97] : List UInt8), 1, shaI ([(7 : UInt8)]), 1⟩ : It)]⟩ (H.glOwn (i := 3) rfl (by decide) (fun c _ => itE_len c)) bFits) ?_); rintro _ w ⟨a6, c7, t8, e9, hfo10, rfl, Hc⟩
  replace H : Hp _ w _ ([_, _, _, _, .own a6 t8.length c7 ((t8).map V8) 5 1]) := H.call Hc
  clear Hc
  skip
  refine l_op (o_alloc H zc34 (fun b11 w H hb11 => ?_)); replace H : Hp _ w _ ([_, _, _, _, _, .blk b11 ((List.replicate 32 (0 : UInt8)).map V8 ++ (([.slice none 0 0] : List Value))) 34]) := H
  refine l_op (o_stW (C' := ((shaI t8).1).map V8 ++ (([.slice (hd a6) t8.length c7] : List Value))) H (i := 5) rfl rfl rfl cs34 (by first | (simp [Value.oneCell', List.all_append, List.all_map]; done) | (simp only [List.all_append, List.all_cons, List.all_nil, List.all_map]; simp [Value.oneCell', Function.comp_def])) (by simp only [List.length_append, List.length_map, List.length_cons, List.length_nil, (show (List.replicate 32 (0 : UInt8)).length = 32 from (List.length_replicate ..))]) (by simp only [List.length_append, List.length_map, List.length_cons, List.length_nil, (show ((shaI t8).1).length = 32 from (shaI t8).2)]) (fun w H => ?_)); replace H : Hp _ w _ ([_, _, _, _, _, .blk b11 (((shaI t8).1).map V8 ++ (([.slice (hd a6) t8.length c7] : List Value))) 34]) := H
  first | refine l_end ?_ | refine l_nil ?_
  have hby := bytesRes_ok hfo10 bIt_may (by show bDir.length ≤ 4000; rw [bDir_len]; decide)
  have hbt : t8 = bDir := hby.2
  have hbl : t8.length = 39 := by rw [hbt, bDir_len]
  repeat refine c_seq ?_
  refine c_region ?_; refine l_op (o_val (r_ldA (C := ((shaI ([(7 : UInt8)])).1).map V8 ++ (([.slice (hd a2) (([(7 : UInt8)]).length) c3] : List Value))) H (i := 2) rfl rfl rt34 (by simp only [List.length_append, List.length_map, List.length_cons, List.length_nil, (show ((shaI ([(7 : UInt8)])).1).length = 32 from (shaI ([(7 : UInt8)])).2)])) ?_); refine l_op (o_val (r_ldA (C := ((shaI t8).1).map V8 ++ (([.slice (hd a6) t8.length c7] : List Value))) H (i := 5) rfl rfl rt34 (by simp only [List.length_append, List.length_map, List.length_cons, List.length_nil, (show ((shaI t8).1).length = 32 from (shaI t8).2)])) ?_); refine l_op (o_bslGn (enc := obE) ([(⟨shaI ([(7 : UInt8)]), ⟨hd a2, ([(7 : UInt8)]).length, c3, [(7 : UInt8)]⟩⟩ : Ob), (⟨shaI t8, ⟨hd a6, t8.length, c7, t8⟩⟩ : Ob)]) H sl22 zc34 (by decide) rfl (by decide) (by rfl) (fun c _ => obE_len c) (fun b12 w H hb12 => ?_)); replace H : Hp _ w _ ([_, _, _, _, _, _, .own (some b12) 2 2 (([(⟨shaI ([(7 : UInt8)]), ⟨hd a2, ([(7 : UInt8)]).length, c3, [(7 : UInt8)]⟩⟩ : Ob), (⟨shaI t8, ⟨hd a6, t8.length, c7, t8⟩⟩ : Ob)]).flatMap obE) 34 33]) := H
  refine l_op (o_val (r_fa rfl fo34_0) ?_); refine l_op (o_val (r_lk H (i := 5) rfl rfl rt29 (show Cut3 (((shaI t8).1).map V8 ++ (([.slice (hd a6) t8.length c7] : List Value))) (([] : List Value)) (((shaI t8).1).map V8) (([.slice (hd a6) t8.length c7] : List Value)) 0 32 from ⟨(show ((shaI t8).1).map V8 ++ (([.slice (hd a6) t8.length c7] : List Value)) = ([] : List Value) ++ ((((shaI t8).1).map V8) ++ (([.slice (hd a6) t8.length c7] : List Value))) from by simp only [List.nil_append]), (by rfl), (by simp only [List.length_map, (show ((shaI t8).1).length = 32 from (shaI t8).2)])⟩)) ?_); refine l_op (o_callR Try.func18 rfl rfl rfl (wclose_ret _ ⟨hd (some b12), 2, 2, [(⟨shaI ([(7 : UInt8)]), ⟨hd a2, ([(7 : UInt8)]).length, c3, [(7 : UInt8)]⟩⟩ : Ob), (⟨shaI t8, ⟨hd a6, t8.length, c7, t8⟩⟩ : Ob)]⟩ (H.glOwn (i := 6) rfl (by decide) (fun c _ => obE_len c)) (obs2 ⟨H.slOwn (i := 1) rfl, (by show 1 ≤ 1048576; decide)⟩ ⟨H.slOwn (i := 4) rfl, (by show t8.length ≤ 1048576; omega)⟩) (shaI t8)) ?_); rintro _ w ⟨a13, c14, R15, rfl, hcl16, Hc⟩
  replace H : Hp _ w _ ([_, _, _, _, _, _, _, .own a13 R15.length c14 ((R15).flatMap idE) 29 32]) := H.call Hc
  clear Hc
  refine l_op (o_val r_mv ?_); refine l_op (o_val (r_ext rfl rfl) ?_); refine l_op (o_val (r_ext rfl rfl) ?_); refine l_op (o_val r_as ?_); refine l_op (o_val r_as ?_); first | refine l_end ?_ | refine l_nil ?_
  repeat refine c_seq ?_
  refine c_region ?_; refine l_op (o_val (r_ldA (C := ((shaI ([(7 : UInt8)])).1).map V8 ++ (([.slice (hd a2) (([(7 : UInt8)]).length) c3] : List Value))) H (i := 2) rfl rfl rt34 (by simp only [List.length_append, List.length_map, List.length_cons, List.length_nil, (show ((shaI ([(7 : UInt8)])).1).length = 32 from (shaI ([(7 : UInt8)])).2)])) ?_); refine l_op (o_val (r_ldA (C := ((shaI t8).1).map V8 ++ (([.slice (hd a6) t8.length c7] : List Value))) H (i := 5) rfl rfl rt34 (by simp only [List.length_append, List.length_map, List.length_cons, List.length_nil, (show ((shaI t8).1).length = 32 from (shaI t8).2)])) ?_); refine l_op (o_bslGn (enc := obE) ([(⟨shaI ([(7 : UInt8)]), ⟨hd a2, ([(7 : UInt8)]).length, c3, [(7 : UInt8)]⟩⟩ : Ob), (⟨shaI t8, ⟨hd a6, t8.length, c7, t8⟩⟩ : Ob)]) H sl22 zc34 (by decide) rfl (by decide) (by rfl) (fun c _ => obE_len c) (fun b17 w H hb17 => ?_)); replace H : Hp _ w _ ([_, _, _, _, _, _, _, _, .own (some b17) 2 2 (([(⟨shaI ([(7 : UInt8)]), ⟨hd a2, ([(7 : UInt8)]).length, c3, [(7 : UInt8)]⟩⟩ : Ob), (⟨shaI t8, ⟨hd a6, t8.length, c7, t8⟩⟩ : Ob)]).flatMap obE) 34 33]) := H
  refine l_op (o_val (r_fa rfl fo34_0) ?_); refine l_op (o_val (r_lk H (i := 5) rfl rfl rt29 (show Cut3 (((shaI t8).1).map V8 ++ (([.slice (hd a6) t8.length c7] : List Value))) (([] : List Value)) (((shaI t8).1).map V8) (([.slice (hd a6) t8.length c7] : List Value)) 0 32 from ⟨(show ((shaI t8).1).map V8 ++ (([.slice (hd a6) t8.length c7] : List Value)) = ([] : List Value) ++ ((((shaI t8).1).map V8) ++ (([.slice (hd a6) t8.length c7] : List Value))) from by simp only [List.nil_append]), (by rfl), (by simp only [List.length_map, (show ((shaI t8).1).length = 32 from (shaI t8).2)])⟩)) ?_); refine l_op (o_callR Try.func19 rfl rfl rfl (wfiles_ret _ ⟨hd (some b17), 2, 2, [(⟨shaI ([(7 : UInt8)]), ⟨hd a2, ([(7 : UInt8)]).length, c3, [(7 : UInt8)]⟩⟩ : Ob), (⟨shaI t8, ⟨hd a6, t8.length, c7, t8⟩⟩ : Ob)]⟩ (H.glOwn (i := 8) rfl (by decide) (fun c _ => obE_len c)) (obs2 ⟨H.slOwn (i := 1) rfl, (by show 1 ≤ 1048576; decide)⟩ ⟨H.slOwn (i := 4) rfl, (by show t8.length ≤ 1048576; omega)⟩) (shaI t8)) ?_); rintro _ w ⟨a18, c19, fl20, rfl, hfl21, Hc⟩
  replace H : Hp _ w _ (Ch.own (some b1) 1 1 (([(7 : UInt8)]).map V8) 5 1 :: Ch.own a2 (([(7 : UInt8)]).length) c3 (([(7 : UInt8)]).map V8) 5 1 :: Ch.blk b4 (((shaI ([(7 : UInt8)])).1).map V8 ++ (([.slice (hd a2) (([(7 : UInt8)]).length) c3] : List Value))) 34 :: Ch.own (some b5) 1 1 (([(⟨([97] : List UInt8), 1, shaI ([(7 : UInt8)]), 1⟩ : It)]).flatMap itE) 54 35 :: Ch.own a6 t8.length c7 ((t8).map V8) 5 1 :: Ch.blk b11 (((shaI t8).1).map V8 ++ (([.slice (hd a6) t8.length c7] : List Value))) 34 :: Ch.own (some b12) 2 2 (([(⟨shaI ([(7 : UInt8)]), ⟨hd a2, ([(7 : UInt8)]).length, c3, [(7 : UInt8)]⟩⟩ : Ob), (⟨shaI t8, ⟨hd a6, t8.length, c7, t8⟩⟩ : Ob)]).flatMap obE) 34 33 :: Ch.own a13 R15.length c14 ((R15).flatMap idE) 29 32 :: Ch.own (some b17) 2 2 (([(⟨shaI ([(7 : UInt8)]), ⟨hd a2, ([(7 : UInt8)]).length, c3, [(7 : UInt8)]⟩⟩ : Ob), (⟨shaI t8, ⟨hd a6, t8.length, c7, t8⟩⟩ : Ob)]).flatMap obE) 34 33 :: Ch.own a18 fl20.length c19 ((fl20).flatMap flE) 48 3 :: fl20.map fch) := H.call Hc
  clear Hc
  refine l_op (o_val r_mv ?_); refine l_op (o_val (r_ext rfl rfl) ?_); refine l_op (o_val (r_ext rfl rfl) ?_); refine l_op (o_val r_as ?_); refine l_op (o_val r_as ?_); first | refine l_end ?_ | refine l_nil ?_
  have hfl := bfiles (brun2 hbt rfl rfl) hfl21
  have hfl1 := hfl.1
  have hfat := hfl21.2.2.1
  have hcn := bnames hbt (brun2 hbt rfl rfl) hcl16
  repeat refine c_seq ?_
  refine c_region ?_; refine l_op (o_val (r_ldA (C := ((shaI t8).1).map V8 ++ (([.slice (hd a6) t8.length c7] : List Value))) H (i := 5) rfl rfl rt34 (by simp only [List.length_append, List.length_map, List.length_cons, List.length_nil, (show ((shaI t8).1).length = 32 from (shaI t8).2)])) ?_); refine l_op (o_bslG1 (enc := obE) ((⟨shaI t8, ⟨hd a6, t8.length, c7, t8⟩⟩ : Ob)) H sl22 zc34 (by rfl) (by decide) (by decide) rfl (obE_len _) (fun b22 w H hb22 => ?_)); replace H := H.rot
  replace H : Hp _ w _ (Ch.own (some b22) 1 1 (([(⟨shaI t8, ⟨hd a6, t8.length, c7, t8⟩⟩ : Ob)]).flatMap obE) 34 33 :: Ch.own (some b1) 1 1 (([(7 : UInt8)]).map V8) 5 1 :: Ch.own a2 (([(7 : UInt8)]).length) c3 (([(7 : UInt8)]).map V8) 5 1 :: Ch.blk b4 (((shaI ([(7 : UInt8)])).1).map V8 ++ (([.slice (hd a2) (([(7 : UInt8)]).length) c3] : List Value))) 34 :: Ch.own (some b5) 1 1 (([(⟨([97] : List UInt8), 1, shaI ([(7 : UInt8)]), 1⟩ : It)]).flatMap itE) 54 35 :: Ch.own a6 t8.length c7 ((t8).map V8) 5 1 :: Ch.blk b11 (((shaI t8).1).map V8 ++ (([.slice (hd a6) t8.length c7] : List Value))) 34 :: Ch.own (some b12) 2 2 (([(⟨shaI ([(7 : UInt8)]), ⟨hd a2, ([(7 : UInt8)]).length, c3, [(7 : UInt8)]⟩⟩ : Ob), (⟨shaI t8, ⟨hd a6, t8.length, c7, t8⟩⟩ : Ob)]).flatMap obE) 34 33 :: Ch.own a13 R15.length c14 ((R15).flatMap idE) 29 32 :: Ch.own (some b17) 2 2 (([(⟨shaI ([(7 : UInt8)]), ⟨hd a2, ([(7 : UInt8)]).length, c3, [(7 : UInt8)]⟩⟩ : Ob), (⟨shaI t8, ⟨hd a6, t8.length, c7, t8⟩⟩ : Ob)]).flatMap obE) 34 33 :: Ch.own a18 fl20.length c19 ((fl20).flatMap flE) 48 3 :: fl20.map fch) := H
  refine l_op (o_val (r_fa rfl fo34_0) ?_); refine l_op (o_val (r_lk H (i := 6) rfl rfl rt29 (show Cut3 (((shaI t8).1).map V8 ++ (([.slice (hd a6) t8.length c7] : List Value))) (([] : List Value)) (((shaI t8).1).map V8) (([.slice (hd a6) t8.length c7] : List Value)) 0 32 from ⟨(show ((shaI t8).1).map V8 ++ (([.slice (hd a6) t8.length c7] : List Value)) = ([] : List Value) ++ ((((shaI t8).1).map V8) ++ (([.slice (hd a6) t8.length c7] : List Value))) from by simp only [List.nil_append]), (by rfl), (by simp only [List.length_map, (show ((shaI t8).1).length = 32 from (shaI t8).2)])⟩)) ?_); refine l_op (o_callR Try.func18 rfl rfl rfl (wclose_ret _ ⟨hd (some b22), 1, 1, [(⟨shaI t8, ⟨hd a6, t8.length, c7, t8⟩⟩ : Ob)]⟩ (H.glOwn (i := 0) rfl (by decide) (fun c _ => obE_len c)) (obs1 ⟨H.slOwn (i := 5) rfl, (by show t8.length ≤ 1048576; omega)⟩) (shaI t8)) ?_); rintro _ w ⟨a23, c24, R25, rfl, hcl26, Hc⟩
  replace H : Hp _ w _ (Ch.own a23 R25.length c24 ((R25).flatMap idE) 29 32 :: Ch.own (some b22) 1 1 (([(⟨shaI t8, ⟨hd a6, t8.length, c7, t8⟩⟩ : Ob)]).flatMap obE) 34 33 :: Ch.own (some b1) 1 1 (([(7 : UInt8)]).map V8) 5 1 :: Ch.own a2 (([(7 : UInt8)]).length) c3 (([(7 : UInt8)]).map V8) 5 1 :: Ch.blk b4 (((shaI ([(7 : UInt8)])).1).map V8 ++ (([.slice (hd a2) (([(7 : UInt8)]).length) c3] : List Value))) 34 :: Ch.own (some b5) 1 1 (([(⟨([97] : List UInt8), 1, shaI ([(7 : UInt8)]), 1⟩ : It)]).flatMap itE) 54 35 :: Ch.own a6 t8.length c7 ((t8).map V8) 5 1 :: Ch.blk b11 (((shaI t8).1).map V8 ++ (([.slice (hd a6) t8.length c7] : List Value))) 34 :: Ch.own (some b12) 2 2 (([(⟨shaI ([(7 : UInt8)]), ⟨hd a2, ([(7 : UInt8)]).length, c3, [(7 : UInt8)]⟩⟩ : Ob), (⟨shaI t8, ⟨hd a6, t8.length, c7, t8⟩⟩ : Ob)]).flatMap obE) 34 33 :: Ch.own a13 R15.length c14 ((R15).flatMap idE) 29 32 :: Ch.own (some b17) 2 2 (([(⟨shaI ([(7 : UInt8)]), ⟨hd a2, ([(7 : UInt8)]).length, c3, [(7 : UInt8)]⟩⟩ : Ob), (⟨shaI t8, ⟨hd a6, t8.length, c7, t8⟩⟩ : Ob)]).flatMap obE) 34 33 :: Ch.own a18 fl20.length c19 ((fl20).flatMap flE) 48 3 :: fl20.map fch) := (H.call Hc).rot
  clear Hc
  refine l_op (o_val r_mv ?_); refine l_op (o_val (r_ext rfl rfl) ?_); refine l_op (o_val (r_ext rfl rfl) ?_); refine l_op (o_val r_as ?_); refine l_op (o_val r_as ?_); first | refine l_end ?_ | refine l_nil ?_
  repeat refine c_seq ?_
  refine c_region ?_; refine l_op (o_val r_mv ?_); refine l_op (o_val (r_bin (a := (wlkAll (obL ([(⟨shaI ([(7 : UInt8)]), ⟨hd a2, ([(7 : UInt8)]).length, c3, [(7 : UInt8)]⟩⟩ : Ob), (⟨shaI t8, ⟨hd a6, t8.length, c7, t8⟩⟩ : Ob)])) [⟨2, (shaI t8), 0, 1, []⟩] ⟨0, [], [], 0⟩).err) (b := 0) rfl rfl (fun _ => b_eqlB true (decide_eq_true (congrArg WS.err (brun2 hbt rfl rfl))))) ?_); refine l_op (o_val r_mv ?_); refine l_yes rfl rfl rfl (o_val r_mv ?_); refine l_yes rfl rfl rfl (o_val (r_bin (a := (wlkAll (obL ([(⟨shaI ([(7 : UInt8)]), ⟨hd a2, ([(7 : UInt8)]).length, c3, [(7 : UInt8)]⟩⟩ : Ob), (⟨shaI t8, ⟨hd a6, t8.length, c7, t8⟩⟩ : Ob)])) [⟨2, (shaI t8), 0, 1, []⟩] ⟨0, [], [], 0⟩).err) (b := 0) rfl rfl (fun _ => b_eqlB true (decide_eq_true (congrArg WS.err (brun2 hbt rfl rfl))))) ?_); refine l_op (o_val (r_pick rfl) ?_); refine l_op (o_val r_mv ?_); refine l_yes rfl rfl rfl (o_val r_mv ?_); refine l_yes rfl rfl rfl (o_val (r_bin (a := (wlkAll (obL ([(⟨shaI t8, ⟨hd a6, t8.length, c7, t8⟩⟩ : Ob)])) [⟨2, (shaI t8), 0, 1, []⟩] ⟨0, [], [], 0⟩).err) (b := 15) rfl rfl (fun _ => b_eqlB true (decide_eq_true (brun1 hbt rfl)))) ?_); refine l_op (o_val (r_pick rfl) ?_); refine l_op (o_val r_mv ?_); refine l_yes rfl rfl rfl (o_val r_mv ?_); refine l_yes rfl rfl rfl (o_val (r_lens el23 rfl) ?_); refine l_yes rfl rfl rfl (o_val (r_bin (a := (R15.length : Int)) (b := 2) rfl rfl (fun _ => b_eqlB true (decide_eq_true (by omega)))) ?_); refine l_op (o_val (r_pick rfl) ?_); refine l_op (o_val r_mv ?_); refine l_yes rfl rfl rfl (o_val r_mv ?_); refine l_yes rfl rfl rfl (o_val (r_lens el40 rfl) ?_); refine l_yes rfl rfl rfl (o_val (r_bin (a := (fl20.length : Int)) (b := 1) rfl rfl (fun _ => b_eqlB true (decide_eq_true (by omega)))) ?_); refine l_op (o_val (r_pick rfl) ?_); refine l_op (o_val r_mv ?_); refine l_yes rfl rfl rfl (o_val r_mv ?_); have ah28 := H.ownAddr (i := 11) rfl (by omega)
  obtain ⟨ab27, ah28⟩ := ah28
  refine l_yes rfl rfl rfl (o_val (r_isN 0 rfl rfl el40 ah28 (by omega) (by (try simp only [Sl.cut]); omega)) ?_); refine l_yes rfl rfl rfl (o_val (r_fa rfl fo48_0) ?_); have he30 : ∃ c, (fl20)[0]? = some c := ⟨_, List.getElem?_eq_getElem (by have := ((H.glOwn (i := 11) rfl (by decide) (fun c _ => flE_len c))).ln; (try dsimp only at this ⊢); omega)⟩
  obtain ⟨e29, he30⟩ := he30
  have hez31 := ((H.glOwn (i := 11) rfl (by decide) (fun c _ => flE_len c))).sz e29 (List.mem_of_getElem? he30)
  have hfm_e29 := List.mem_of_getElem? he30
  have hfe_e29 := hfl.2 e29 he30
  refine l_yes rfl rfl rfl (o_val (r_g1 (v := .string ⟨(e29.path).toArray⟩) (s := (⟨hd a18, fl20.length, c19, fl20⟩ : Gl Fl)) (j := 0) (H.glOwn (i := 11) rfl (by decide) (fun c _ => flE_len c)) ah28 rfl ct9 he30 (by decide) (show Cut3 (flE e29) (([] : List Value)) (([.string ⟨(e29.path).toArray⟩] : List Value)) (([.bool e29.dir, e29.data.v] : List Value)) 0 1 from ⟨(show ([.string ⟨(e29.path).toArray⟩, .bool e29.dir, e29.data.v] : List Value) = ([] : List Value) ++ ((([.string ⟨(e29.path).toArray⟩] : List Value)) ++ (([.bool e29.dir, e29.data.v] : List Value))) from by simp only [List.cons_append, List.nil_append]), (by rfl), (by rfl)⟩)) ?_); refine l_yes rfl rfl rfl (o_val (r_streq (a := e29.path) (b := ([97] : List UInt8)) rfl rfl) ?_); have hk32 : (decide (e29.path = ([97] : List UInt8))) = true := (decide_eq_true hfe_e29.1)
  refine l_op (o_val (r_pick rfl) ?_); refine l_op (o_val r_mv ?_); refine l_yes rfl rfl (by exact congrArg Value.bool hk32) (o_val r_mv ?_); refine l_yes rfl rfl (by exact congrArg Value.bool hk32) (o_val (r_isN 0 rfl rfl el40 ah28 (by omega) (by (try simp only [Sl.cut]); omega)) ?_); refine l_yes rfl rfl (by exact congrArg Value.bool hk32) (o_val (r_fa rfl fo48_2) ?_); refine l_yes rfl rfl (by exact congrArg Value.bool hk32) (o_val (r_g1 (v := e29.data.v) (s := (⟨hd a18, fl20.length, c19, fl20⟩ : Gl Fl)) (j := 0) (H.glOwn (i := 11) rfl (by decide) (fun c _ => flE_len c)) ah28 rfl ct32 he30 (by decide) (show Cut3 (flE e29) (([.string ⟨(e29.path).toArray⟩, .bool e29.dir] : List Value)) (([e29.data.v] : List Value)) (([] : List Value)) 2 1 from ⟨(show ([.string ⟨(e29.path).toArray⟩, .bool e29.dir, e29.data.v] : List Value) = ([.string ⟨(e29.path).toArray⟩, .bool e29.dir] : List Value) ++ ((([e29.data.v] : List Value)) ++ (([] : List Value))) from by simp only [List.cons_append, List.nil_append]), (by rfl), (by rfl)⟩)) ?_); refine l_yes rfl rfl (by exact congrArg Value.bool hk32) (o_val (r_b2S (s := e29.data) Try.underlying32 Try.underlying5 Try.underlying9 rfl ((tail_ok2 (fun f hm => H.has (fch f) (by repeat (first | exact List.mem_map_of_mem hm | apply List.mem_cons_of_mem))) hfat) e29 hfm_e29)) ?_); refine l_yes rfl rfl (by exact congrArg Value.bool hk32) (o_val (r_streq (a := e29.data.l) (b := ([7] : List UInt8)) rfl rfl) ?_); have hk33 : (decide (e29.data.l = ([7] : List UInt8))) = true := (decide_eq_true hfe_e29.2)
  refine l_op (o_val (r_pick (b := true) (congrArg Value.bool hk32)) ?_); refine l_op (o_val r_as ?_); first | refine l_end ?_ | refine l_nil ?_
  refine c_ret ?_; try dsimp only [Exit.then, Exit.inBlock]
  refine e_ret1 (v := .bool (decide (e29.data.l = ([7] : List UInt8)))) Try.results17 rfl ?_
  refine ⟨_, rfl, ?_⟩
  exact ⟨congrArg Value.bool hk33, H.sub (List.nil_sublist _)⟩
end Go.Proofs.Ytomjbabllcmodaa
namespace Go.Proofs.Ytomjbabllcmodaa
open Go
set_option maxRecDepth 100000
theorem spoil17_ret (w0 : World) :
    Ret Try.prog 22 [.slice none 0 0] w0 fun v w' => v = .tuple #[] ∧ Hp w0 w' [] [] := by
  refine ret_mk Try.func22 rfl Try.ntmps22 (by simp) ?_
  have H := Hp.refl w0 []
  repeat refine c_seq ?_
  refine c_region ?_; refine l_op (o_val r_mv ?_); refine l_op (o_val r_mv ?_); refine l_op (o_val (r_caps el32 rfl) ?_); refine l_op (o_val (r_slH (h := 0) (m := 0) (hv := some (VI 0)) rfl el32 rfl rfl rfl (fun w => by exact sbh 0 rfl (by omega) w)) ?_); refine l_op (o_val r_as ?_); first | refine l_end ?_ | refine l_nil ?_
  repeat refine c_seq ?_
  refine c_region ?_; refine l_op (o_val r_as ?_); first | refine l_end ?_ | refine l_nil ?_
  repeat refine c_seq ?_
  refine c_block ?_; repeat refine c_seq ?_
  refine c_loop (fun (i : Nat) => [(2, .slice none 0 0), (3, VI (i : Int))])
    (fun (i : Nat) w => (i = 0) ∧ Hp w0 w [] ([]))
    (fun (i : Nat) => 0) 0 ⟨rfl, rfl, trivial⟩ ⟨rfl, H⟩ ?_
  clear H
  rintro i τ w ⟨hi, H⟩
  repeat refine c_seq ?_
  refine c_region ?_; refine l_op (o_val r_mv ?_); refine l_op (o_val r_mv ?_); refine l_op (o_val (r_lens el32 rfl) ?_); refine l_op (o_val (r_bin (a := (i : Int)) (b := 0) rfl rfl (fun _ => b_lssB false (decide_eq_false (by omega)))) ?_); first | refine l_end ?_ | refine l_nil ?_
  repeat refine c_seq ?_
  refine c_no rfl ?_; refine c_exit ?_; try simp only [Exit.then, Exit.inBlock, ↓reduceIte]
  refine e_norm ?_; refine e_ret0 Try.results22 ?_
  refine ⟨_, rfl, ?_⟩
  exact ⟨rfl, H⟩
theorem spoilOwn17_ret {w0 w : World} {S : List Nat} {L : List Ch} {i : Nat} {a : Option Nat} {len cap : Nat} {l : List UInt8} (H : Hp w0 w S L) (hi : L[i]? = some (.own a len cap (l.map V8) 5 1)) :
    Ret Try.prog 22 [.slice (hd a) len cap] w fun v w' => v = .tuple #[] ∧ Hp w0 w' S (L.set i (.own a len cap ((List.replicate len (90 : UInt8)).map V8) 5 1)) := by
  have hok := H.has _ (List.mem_of_getElem? hi)
  cases a with
  | none =>
    obtain ⟨h1, h2, h3⟩ := id hok
    subst h1 h2
    refine (spoil17_ret w).mono fun v w' ⟨hv, Hc⟩ => ⟨hv, ?_⟩
    have := H.call Hc
    rw [List.append_nil] at this
    exact this.conv hi rfl fun _ => ⟨rfl, rfl, rfl⟩
  | some b =>
    obtain ⟨h1, h2, h3, rest, hw, h5⟩ := id hok
    refine (spoilN_ret w b len cap (l.map V8 ++ rest) hw (by omega) h2 h3).mono fun v w' ⟨hv, Hc⟩ => ⟨hv, ?_⟩
    have hc' : Hp w w' [b] [.own (some b) len cap ((List.replicate len (90 : UInt8)).map V8) 5 1] := by
      refine Hc.conv (i := 0) rfl rfl fun hblk => ⟨by simp, h2, h3, List.replicate (cap - len) (V8 90), ?_, by simp; omega⟩
      simp only [Ch.ok] at hblk
      rw [hblk, List.map_replicate, List.replicate_append_replicate, show len + (cap - len) = cap by omega]
    have := H.callAt hi rfl rfl hc'
    rwa [List.append_nil] at this
def ach (s : Sl) : Ch := .own (s.a.map (·.block)) s.len s.cap (s.l.map V8) 5 1
def spld (d : Sl) : Sl := ⟨d.a, d.len, d.cap, List.replicate d.len 90⟩
/-- a list of files, and what their bytes are by now. -/
def DRel (f2 : List Fl) (ds : List Sl) : Prop := ∀ (j : Nat) (c : Fl), f2[j]? = some c → ∃ d, ds[j]? = some d ∧ c.data.v = d.v ∧ d.a = hd (d.a.map (·.block)) ∧ d.l.length = d.len
theorem drel_start {fs : List Fl} (h : ∀ f ∈ fs, f.data.a = hd (f.data.a.map (·.block)) ∧ f.data.l.length = f.data.len) : DRel fs (fs.map (·.data)) := fun j c hj =>
  ⟨c.data, by rw [List.getElem?_map, hj]; rfl, rfl, h c (List.mem_of_getElem? hj)⟩
theorem drel_set {f2 : List Fl} {ds : List Sl} (h : DRel f2 ds) {i : Nat} {c : Fl} {d : Sl} (hc : f2[i]? = some c) (hd1 : ds[i]? = some d) (hd2 : c.data.v = d.v) (hd3 : d.a = hd (d.a.map (·.block))) {p : List UInt8} {b : Bool} : DRel (f2.set i ⟨p, b, c.data⟩) (ds.set i (spld d)) := fun j e hj => by
  have hi := (List.getElem?_eq_some_iff.1 hc).1
  have hi2 := (List.getElem?_eq_some_iff.1 hd1).1
  by_cases hij : i = j
  · subst hij
    rw [List.getElem?_set_self hi] at hj
    cases hj
    exact ⟨spld d, List.getElem?_set_self hi2, hd2, hd3, List.length_replicate⟩
  · rw [List.getElem?_set_ne hij] at hj ⊢
    exact h j e hj
theorem drel_H {w0 w : World} {S : List Nat} {x y z : Ch} {fs : List Fl} (H : Hp w0 w S (x :: y :: z :: fs.map fch)) : Hp w0 w S (x :: y :: z :: (fs.map (·.data)).map ach) := by
  rw [List.map_map]; exact H
theorem spoilTail_ret {w0 w : World} {S : List Nat} {L : List Ch} {ds : List Sl} {i : Nat} {d : Sl} {c : Fl} (H : Hp w0 w S (L ++ ds.map ach)) (h1 : ds[i]? = some d) (h2 : c.data.v = d.v) (h3 : d.a = hd (d.a.map (·.block))) :
    Ret Try.prog 22 [c.data.v] w fun v w' => v = .tuple #[] ∧ Hp w0 w' S (L ++ (ds.set i (spld d)).map ach) := by
  have hi : (L ++ ds.map ach)[L.length + i]? = some (ach d) := by
    rw [List.getElem?_append_right (Nat.le_add_right _ _), Nat.add_sub_cancel_left, List.getElem?_map, h1]; rfl
  have hs : (L ++ ds.map ach).set (L.length + i) (ach (spld d)) = L ++ (ds.set i (spld d)).map ach := by
    rw [List.set_append_right _ _ (Nat.le_add_right _ _), Nat.add_sub_cancel_left, List.map_set]
  have h4 := spoilOwn17_ret H hi
  rw [← h3] at h4
  rw [h2]
  refine h4.mono fun v w' ⟨hv, Hc⟩ => ⟨hv, ?_⟩
  rw [← hs]
  exact Hc
theorem names_eq {W : WS} {A B : List Id32} (ha : NamesOk W A) (hb : NamesOk W B) : A = B := by
  by_cases h : W.err = 0
  · obtain ⟨h1, h2⟩ := ha.1 h
    obtain ⟨h3, h4⟩ := hb.1 h
    exact rising_uniq (fun _ _ h1 h2 => lt_irr _ (lt_tr h1 h2)) h1 h3 fun k => (h2 k).trans (h4 k).symm
  · rw [ha.2 h, hb.2 h]
theorem files_eq {l : List Ob} {W : WS} {A B : List Fl} (ha : FilesOk W A) (hb : FilesOk2 l W B) : A.map Fl.key = B.map Fl.key := by
  by_cases h : W.err = 0
  · rw [ha.1 h, hb.1 h]
  · rw [ha.2.1 h, hb.2.1 h]
theorem walkAll_ret (w0 : World) (g : Gl Ob) (hg : g.ok obE 33 w0) (horaw : ∀ o ∈ g.l, o.data.ok w0) (k : Id32) :
    Ret Try.prog 6 [g.v, .agg ((k.1).map V8).toArray] w0 fun v w' => v = .bool true ∧ Hp w0 w' [] [] := by
  refine ret_mk Try.func6 rfl Try.ntmps6 (by simp) ?_
  have H := Hp.refl w0 []
  have hgl := hg.ln
  have hgc := hg.le
  have hmL : maxLen = 9223372036854775807 := rfl
  repeat refine c_seq ?_
  refine c_region ?_; refine l_op (o_box (v := .agg ((k.1).map V8).toArray) H rfl (fun b1 w H hb1 => ?_)); replace H : Hp _ w _ ([.blk b1 ((k.1).map V8) 29]) := H
  refine l_op (o_val r_as ?_); first | refine l_end ?_ | refine l_nil ?_
  repeat refine c_seq ?_
  refine c_region ?_; refine l_op (o_callR Try.func17 rfl rfl rfl (begun17_ret _) ?_); rintro _ w ⟨rfl, Hc⟩
  replace H : Hp _ w _ ([_]) := H.call Hc
  clear Hc
  refine l_op (o_val (r_not rfl) ?_); first | refine l_end ?_ | refine l_nil ?_
  repeat refine c_seq ?_
  refine c_no rfl ?_; refine c_skip ?_; repeat refine c_seq ?_
  refine c_region ?_; refine l_op (o_val r_mv ?_); refine l_op (o_callR Try.func9 rfl rfl rfl (light17_ret _ g (hg.up H) (ob_raw horaw H) 40) ?_); rintro _ w ⟨b2, rfl, hli3, Hc⟩
  replace H : Hp _ w _ ([_]) := H.call Hc
  clear Hc
  refine l_op (o_val (r_not rfl) ?_); first | refine l_end ?_ | refine l_nil ?_
  have hc40 := Bool.eq_false_or_eq_true (b2)
  rcases hc40 with hc4 | hc4
  ·
   repeat refine c_seq ?_
   refine c_no (by exact congrArg Value.bool (congrArg not hc4)) ?_; refine c_skip ?_; have hli2 := hli3.1 hc4
   have ho : ∀ o ∈ g.l, o.data.ok w0 ∧ o.data.len ≤ 1048576 := fun o h => ⟨horaw o h, by have := hli2.2 o h; omega⟩
   have hg40 := hli2.1
   repeat refine c_seq ?_
   refine c_region ?_; refine l_op (o_val r_as ?_); first | refine l_end ?_ | refine l_nil ?_
   repeat refine c_seq ?_
   refine c_block ?_; repeat refine c_seq ?_
   refine c_loop (fun (t : Nat) => [(0, g.v), (3, .pointer (some ⟨b1, 0, none⟩)), (5, VI (t : Int))])
     (fun (t : Nat) w => (t ≤ 2) ∧ Hp w0 w [] ([.blk b1 ((k.1).map V8) 29]))
     (fun (t : Nat) => 2 - t) 0 ⟨rfl, rfl, rfl, trivial⟩ ⟨by omega, H⟩ ?_
   clear H
   rintro t τ w ⟨ht, H⟩
   repeat refine c_seq ?_
   refine c_region ?_; refine l_op (o_val r_mv ?_); refine l_op (o_val (r_bin (a := (t : Int)) (b := 2) rfl rfl (fun _ => b_lss)) ?_); first | refine l_end ?_ | refine l_nil ?_
   by_cases hc5 : (t : Int) < 2
   ·
    repeat refine c_seq ?_
    refine c_yes (by exact congrArg Value.bool (decide_eq_true hc5)) ?_; refine c_skip ?_; repeat refine c_seq ?_
    refine c_block ?_; repeat refine c_seq ?_
    refine c_region ?_; refine l_op (o_val r_mv ?_); refine l_op (o_val (r_ldAA (l := k.1) H (i := 0) rfl rfl rt29 (show (k.1).length = 32 from k.2)) ?_); refine l_op (o_callR Try.func18 rfl rfl rfl (wclose_ret _ g (hg.up H) (ob_up ho H) k) ?_); rintro _ w ⟨a6, c7, R8, rfl, hcl9, Hc⟩
    replace H : Hp _ w _ ([_, .own a6 R8.length c7 ((R8).flatMap idE) 29 32]) := H.call Hc
    clear Hc
    refine l_op (o_val r_mv ?_); refine l_op (o_val (r_ext rfl rfl) ?_); refine l_op (o_val (r_ext rfl rfl) ?_); refine l_op (o_val r_as ?_); refine l_op (o_val r_as ?_); first | refine l_end ?_ | refine l_nil ?_
    repeat refine c_seq ?_
    refine c_region ?_; refine l_op (o_val r_mv ?_); refine l_op (o_val (r_ldAA (l := k.1) H (i := 0) rfl rfl rt29 (show (k.1).length = 32 from k.2)) ?_); refine l_op (o_callR Try.func19 rfl rfl rfl (wfiles_ret _ g (hg.up H) (ob_up ho H) k) ?_); rintro _ w ⟨a10, c11, fl12, rfl, hfl13, Hc⟩
    replace H : Hp _ w _ (Ch.blk b1 ((k.1).map V8) 29 :: Ch.own a6 R8.length c7 ((R8).flatMap idE) 29 32 :: Ch.own a10 fl12.length c11 ((fl12).flatMap flE) 48 3 :: fl12.map fch) := H.call Hc
    clear Hc
    refine l_op (o_val r_mv ?_); refine l_op (o_val (r_ext rfl rfl) ?_); refine l_op (o_val (r_ext rfl rfl) ?_); refine l_op (o_val r_as ?_); refine l_op (o_val r_as ?_); first | refine l_end ?_ | refine l_nil ?_
    repeat refine c_seq ?_
    refine c_region ?_; refine l_op (o_val r_mv ?_); refine l_op (o_val (r_ldAA (l := k.1) H (i := 0) rfl rfl rt29 (show (k.1).length = 32 from k.2)) ?_); refine l_op (o_callR Try.func20 rfl rfl rfl (walk17_ret _ g (hg.up H) (ob_up ho H) (by omega) k) ?_); rintro _ w ⟨a14, c15, R16, a17, c18, fl19, rfl, hn20, hf21, Hc⟩
    replace H : Hp _ w _ (Ch.own a14 R16.length c15 ((R16).flatMap idE) 29 32 :: Ch.own a17 fl19.length c18 ((fl19).flatMap flE) 48 3 :: Ch.blk b1 ((k.1).map V8) 29 :: Ch.own a6 R8.length c7 ((R8).flatMap idE) 29 32 :: Ch.own a10 fl12.length c11 ((fl12).flatMap flE) 48 3 :: fl12.map fch) := ((H.call Hc).permL List.perm_append_comm)
    clear Hc
    refine l_op (o_val r_mv ?_); refine l_op (o_val (r_ext rfl rfl) ?_); refine l_op (o_val (r_ext rfl rfl) ?_); refine l_op (o_val (r_ext rfl rfl) ?_); refine l_op (o_val r_as ?_); refine l_op (o_val r_as ?_); refine l_op (o_val r_as ?_); first | refine l_end ?_ | refine l_nil ?_
    have hfat := hfl13.2.2.1
    have hflm := hfl13.2.2.2
    repeat refine c_seq ?_
    refine c_region ?_; refine l_op (o_val r_mv ?_); refine l_op (o_val r_mv ?_); refine l_op (o_val (r_bin (a := (wlkAll (obL g.l) [⟨2, k, 0, 1, []⟩] ⟨0, [], [], 0⟩).err) (b := (wlkAll (obL g.l) [⟨2, k, 0, 1, []⟩] ⟨0, [], [], 0⟩).err) rfl rfl (fun _ => b_neqB false (decide_eq_false (fun h => h rfl)))) ?_); refine l_op (o_val r_mv ?_); refine l_yes rfl rfl rfl (o_val r_mv ?_); refine l_yes rfl rfl rfl (o_val r_mv ?_); refine l_yes rfl rfl rfl (o_val (r_bin (a := (wlkAll (obL g.l) [⟨2, k, 0, 1, []⟩] ⟨0, [], [], 0⟩).err) (b := (wlkAll (obL g.l) [⟨2, k, 0, 1, []⟩] ⟨0, [], [], 0⟩).err) rfl rfl (fun _ => b_neqB false (decide_eq_false (fun h => h rfl)))) ?_); refine l_op (o_val (r_pick rfl) ?_); refine l_op (o_val r_mv ?_); refine l_yes rfl rfl rfl (o_val r_mv ?_); refine l_yes rfl rfl rfl (o_val r_mv ?_); refine l_yes rfl rfl rfl (o_callR Try.func12 rfl rfl rfl (alikeIDs_ret _ ⟨hd a6, R8.length, c7, R8⟩ ⟨hd a14, R16.length, c15, R16⟩ (H.glOwn (i := 3) rfl (by decide) (fun c _ => idE_len c)) (H.glOwn (i := 0) rfl (by decide) (fun c _ => idE_len c))) ?_); rintro _ w ⟨rfl, Hc⟩
    replace H : Hp _ w _ (Ch.own a14 R16.length c15 ((R16).flatMap idE) 29 32 :: Ch.own a17 fl19.length c18 ((fl19).flatMap flE) 48 3 :: Ch.blk b1 ((k.1).map V8) 29 :: Ch.own a6 R8.length c7 ((R8).flatMap idE) 29 32 :: Ch.own a10 fl12.length c11 ((fl12).flatMap flE) 48 3 :: fl12.map fch) := H.keep1 Hc
    clear Hc
    have hk22 : (decide (R8 = R16)) = true := (decide_eq_true (names_eq hcl9 hn20))
    refine l_yes rfl rfl rfl (o_val (r_not rfl) ?_); refine l_op (o_val (r_pick rfl) ?_); refine l_op (o_val r_mv ?_); refine l_yes rfl rfl (by exact congrArg Value.bool (congrArg not hk22)) (o_val r_mv ?_); refine l_yes rfl rfl (by exact congrArg Value.bool (congrArg not hk22)) (o_val r_mv ?_); refine l_yes rfl rfl (by exact congrArg Value.bool (congrArg not hk22)) (o_callR Try.func21 rfl rfl rfl (alikeFiles_ret _ ⟨hd a10, fl12.length, c11, fl12⟩ ⟨hd a17, fl19.length, c18, fl19⟩ (H.glOwn (i := 4) rfl (by decide) (fun c _ => flE_len c)) (H.glOwn (i := 1) rfl (by decide) (fun c _ => flE_len c)) (tail_ok2 (fun f hm => H.has (fch f) (by repeat (first | exact List.mem_map_of_mem hm | apply List.mem_cons_of_mem))) hfat) (fun f hf => (hf21.2.2.1 f hf).ok (ob_up ho H))) ?_); rintro _ w ⟨rfl, Hc⟩
    replace H : Hp _ w _ (Ch.own a14 R16.length c15 ((R16).flatMap idE) 29 32 :: Ch.own a17 fl19.length c18 ((fl19).flatMap flE) 48 3 :: Ch.blk b1 ((k.1).map V8) 29 :: Ch.own a6 R8.length c7 ((R8).flatMap idE) 29 32 :: Ch.own a10 fl12.length c11 ((fl12).flatMap flE) 48 3 :: fl12.map fch) := H.keep1 Hc
    clear Hc
    have hk23 : (decide (fl12.map Fl.key = fl19.map Fl.key)) = true := (decide_eq_true (files_eq hfl13 hf21))
    refine l_yes rfl rfl (by exact congrArg Value.bool (congrArg not hk22)) (o_val (r_not rfl) ?_); refine l_op (o_val (r_pick (b := false) (congrArg Value.bool (congrArg not hk22))) ?_); first | refine l_end ?_ | refine l_nil ?_
    repeat refine c_seq ?_
    refine c_no (by exact congrArg Value.bool (congrArg not hk23)) ?_; refine c_skip ?_; repeat refine c_seq ?_
    refine c_region ?_; refine l_op (o_val r_as ?_); first | refine l_end ?_ | refine l_nil ?_
    repeat refine c_seq ?_
    refine c_block ?_; repeat refine c_seq ?_
    refine c_loop3 (fun (i : Nat) (f2 : List Fl) (ds : List Sl) => [(0, g.v), (3, .pointer (some ⟨b1, 0, none⟩)), (5, VI (t : Int)), (6, .slice (hd a6) R8.length c7), (8, .slice (hd a10) fl12.length c11), (13, VI (i : Int))])
      (fun (i : Nat) (f2 : List Fl) (ds : List Sl) w => (i ≤ fl12.length ∧ DRel f2 ds) ∧ Hp w0 w [] (Ch.blk b1 ((k.1).map V8) 29 :: Ch.own a6 R8.length c7 ((R8).flatMap idE) 29 32 :: Ch.own a10 fl12.length c11 ((f2).flatMap flE) 48 3 :: ds.map ach))
      (fun (i : Nat) (f2 : List Fl) (ds : List Sl) => fl12.length - i) 0 fl12 (fl12.map (·.data)) ⟨rfl, rfl, rfl, rfl, rfl, rfl, trivial⟩ ⟨⟨Nat.zero_le _, drel_start hfl13.2.2.1⟩, (drel_H (H.sub (.cons _ (.cons _ (.cons_cons _ (.cons_cons _ (.cons_cons _ (List.Sublist.refl _))))))))⟩ ?_
    clear H
    rintro i f2 ds τ w ⟨⟨hil, hdr⟩, H⟩
    repeat refine c_seq ?_
    refine c_region ?_; refine l_op (o_val r_mv ?_); refine l_op (o_val r_mv ?_); refine l_op (o_val (r_lens el40 rfl) ?_); refine l_op (o_val (r_bin (a := (i : Int)) (b := (fl12.length : Int)) rfl rfl (fun _ => b_lss)) ?_); first | refine l_end ?_ | refine l_nil ?_
    by_cases hc24 : (i : Int) < (fl12.length : Int)
    ·
     repeat refine c_seq ?_
     refine c_yes (by exact congrArg Value.bool (decide_eq_true hc24)) ?_; refine c_skip ?_; repeat refine c_seq ?_
     refine c_block ?_; repeat refine c_seq ?_
     refine c_region ?_; refine l_op (o_val r_mv ?_); refine l_op (o_val r_mv ?_); have ah26 := H.ownAddr (i := 2) rfl (by omega)
     obtain ⟨ab25, ah26⟩ := ah26
     refine l_op (o_val (r_isN i rfl rfl el40 ah26 (by omega) (by (try simp only [Sl.cut]); omega)) ?_); refine l_op (o_val (r_fa rfl fo48_2) ?_); have he28 : ∃ c, (f2)[i]? = some c := ⟨_, List.getElem?_eq_getElem (by have := ((H.glOwn (i := 2) rfl (by decide) (fun c _ => flE_len c))).ln; (try dsimp only at this ⊢); omega)⟩
     obtain ⟨e27, he28⟩ := he28
     have hez29 := ((H.glOwn (i := 2) rfl (by decide) (fun c _ => flE_len c))).sz e27 (List.mem_of_getElem? he28)
     refine l_op (o_val (r_g1 (v := e27.data.v) (s := (⟨hd a10, fl12.length, c11, f2⟩ : Gl Fl)) (j := i) (H.glOwn (i := 2) rfl (by decide) (fun c _ => flE_len c)) ah26 rfl ct32 he28 (by decide) (show Cut3 (flE e27) (([.string ⟨(e27.path).toArray⟩, .bool e27.dir] : List Value)) (([e27.data.v] : List Value)) (([] : List Value)) 2 1 from ⟨(show ([.string ⟨(e27.path).toArray⟩, .bool e27.dir, e27.data.v] : List Value) = ([.string ⟨(e27.path).toArray⟩, .bool e27.dir] : List Value) ++ ((([e27.data.v] : List Value)) ++ (([] : List Value))) from by simp only [List.cons_append, List.nil_append]), (by rfl), (by rfl)⟩)) ?_); obtain ⟨d_e27, hd1_e27, hd2_e27, hd3_e27, hd4_e27⟩ := hdr i e27 he28
     refine l_op (o_callR Try.func22 rfl rfl rfl (spoilTail_ret (L := [.blk b1 ((k.1).map V8) 29, .own a6 R8.length c7 ((R8).flatMap idE) 29 32, .own a10 fl12.length c11 ((f2).flatMap flE) 48 3]) (c := e27) H hd1_e27 hd2_e27 hd3_e27) ?_); rintro _ w ⟨rfl, Hc⟩
     replace H := Hc
     clear Hc
     replace H : Hp _ w _ (Ch.blk b1 ((k.1).map V8) 29 :: Ch.own a6 R8.length c7 ((R8).flatMap idE) 29 32 :: Ch.own a10 fl12.length c11 ((f2).flatMap flE) 48 3 :: (ds.set i (spld d_e27)).map ach) := H
     first | refine l_end ?_ | refine l_nil ?_
     repeat refine c_seq ?_
     refine c_region ?_; refine l_op (o_val r_mv ?_); refine l_op (o_val r_mv ?_); refine l_op (o_val (r_isN i rfl rfl el40 ah26 (by omega) (by (try simp only [Sl.cut]); omega)) ?_); refine l_op (o_val (r_fa rfl fo48_0) ?_); refine l_op (o_stGV (enc := flE) (off := 0) (V := ([.string ⟨(([63] : List UInt8)).toArray⟩] : List Value)) (k := i) (⟨([63] : List UInt8), e27.dir, e27.data⟩ : Fl) H (i := 2) rfl (fun c _ => flE_len c) rfl ah26 rfl (by rfl) cs9 (by rfl) (by simp [Value.oneCell']) he28 (show Cut3 (flE e27) (([] : List Value)) (([.string ⟨(e27.path).toArray⟩] : List Value)) (([.bool e27.dir, e27.data.v] : List Value)) 0 1 from ⟨(show ([.string ⟨(e27.path).toArray⟩, .bool e27.dir, e27.data.v] : List Value) = ([] : List Value) ++ ((([.string ⟨(e27.path).toArray⟩] : List Value)) ++ (([.bool e27.dir, e27.data.v] : List Value))) from by simp only [List.cons_append, List.nil_append]), (by rfl), (by rfl)⟩) (show ([.string ⟨(([63] : List UInt8)).toArray⟩, .bool e27.dir, e27.data.v] : List Value) = ([] : List Value) ++ (([.string ⟨(([63] : List UInt8)).toArray⟩] : List Value) ++ (([.bool e27.dir, e27.data.v] : List Value))) from by simp only [List.cons_append, List.nil_append]) (fun w H => ?_)); replace H : Hp _ w _ (Ch.blk b1 ((k.1).map V8) 29 :: Ch.own a6 R8.length c7 ((R8).flatMap idE) 29 32 :: Ch.own a10 fl12.length c11 (((f2).set i (⟨([63] : List UInt8), e27.dir, e27.data⟩ : Fl)).flatMap flE) 48 3 :: (ds.set i (spld d_e27)).map ach) := H
     first | refine l_end ?_ | refine l_nil ?_
     repeat refine c_seq ?_
     refine c_region ?_; refine l_op (o_val r_mv ?_); refine l_op (o_val (r_bin (a := (i : Int)) (b := 1) rfl rfl (fun _ => b_add (by omega) (by omega))) ?_); refine l_op (o_val r_as ?_); first | refine l_end ?_ | refine l_nil ?_
     refine round_end (i + 1, (f2).set i (⟨([63] : List UInt8), e27.dir, e27.data⟩ : Fl), (ds.set i (spld d_e27))) ?_ ?_ ?_
     · exact ⟨rfl, rfl, rfl, rfl, rfl, show VI ((i : Int) + 1) = VI ((i + 1 : Nat) : Int) from congrArg VI (by omega), trivial⟩
     · refine ⟨?_, ?_⟩
       · try dsimp only
         exact ⟨by omega, drel_set hdr he28 hd1_e27 hd2_e27 hd3_e27⟩
       · exact H.sub (.cons_cons _ (.cons_cons _ (.cons_cons _ (List.Sublist.refl _))))
     · show fl12.length - (i + 1 : Nat) < fl12.length - i; omega
    ·
     repeat refine c_seq ?_
     refine c_no (by exact congrArg Value.bool (decide_eq_false hc24)) ?_; refine c_exit ?_; repeat refine c_seq ?_
     refine c_region ?_; refine l_op (o_val r_as ?_); first | refine l_end ?_ | refine l_nil ?_
     repeat refine c_seq ?_
     refine c_block ?_; replace H := H.sub (.cons_cons _ (.cons_cons _ (List.nil_sublist _)))
     replace H : Hp _ w _ ([.blk b1 ((k.1).map V8) 29, .own a6 R8.length c7 ((R8).flatMap idE) 29 32]) := H
     have hol2 := (H.ownLen (i := 1) rfl).2
     repeat refine c_seq ?_
     refine c_loop2 (fun (j : Nat) (ga : List Id32) => [(0, g.v), (3, .pointer (some ⟨b1, 0, none⟩)), (5, VI (t : Int)), (6, .slice (hd a6) R8.length c7), (14, VI (j : Int))])
       (fun (j : Nat) (ga : List Id32) w => (j ≤ R8.length) ∧ Hp w0 w [] ([.blk b1 ((k.1).map V8) 29, .own a6 R8.length c7 ((ga).flatMap idE) 29 32]))
       (fun (j : Nat) (ga : List Id32) => R8.length - j) 0 R8 ⟨rfl, rfl, rfl, rfl, rfl, trivial⟩ ⟨Nat.zero_le _, H⟩ ?_
     clear H
     rintro j ga τ w ⟨hj, H⟩
     repeat refine c_seq ?_
     refine c_region ?_; refine l_op (o_val r_mv ?_); refine l_op (o_val r_mv ?_); refine l_op (o_val (r_lens el23 rfl) ?_); refine l_op (o_val (r_bin (a := (j : Int)) (b := (R8.length : Int)) rfl rfl (fun _ => b_lss)) ?_); first | refine l_end ?_ | refine l_nil ?_
     by_cases hc30 : (j : Int) < (R8.length : Int)
     ·
      repeat refine c_seq ?_
      refine c_yes (by exact congrArg Value.bool (decide_eq_true hc30)) ?_; refine c_skip ?_; repeat refine c_seq ?_
      refine c_block ?_; repeat refine c_seq ?_
      refine c_region ?_; refine l_op (o_val r_mv ?_); refine l_op (o_val r_mv ?_); refine l_op (o_val (r_bld' (pv := []) bd29 rfl rfl) ?_); have ah32 := H.ownAddr (i := 1) rfl (by omega)
      obtain ⟨ab31, ah32⟩ := ah32
      refine l_op (o_val (r_isN j rfl rfl el23 ah32 (by omega) (by (try simp only [Sl.cut]); omega)) ?_); have hg33 := ((H.glOwn (i := 1) rfl (by decide) (fun c _ => idE_len c))).ln
      refine l_op (o_stG (enc := idE) (c := (⟨List.replicate 32 (0 : UInt8), (show (List.replicate 32 (0 : UInt8)).length = 32 from (List.length_replicate ..))⟩ : Id32)) (k := j) H (i := 1) rfl (fun c _ => idE_len c) rfl ah32 rfl cs29 (idE_len _) (idE_all _) (by dsimp only at hg33; omega) (fun w H => ?_)); replace H : Hp _ w _ ([_, .own a6 R8.length c7 (((ga).set j (⟨List.replicate 32 (0 : UInt8), (show (List.replicate 32 (0 : UInt8)).length = 32 from (List.length_replicate ..))⟩ : Id32)).flatMap idE) 29 32]) := H
      first | refine l_end ?_ | refine l_nil ?_
      repeat refine c_seq ?_
      refine c_region ?_; refine l_op (o_val r_mv ?_); refine l_op (o_val (r_bin (a := (j : Int)) (b := 1) rfl rfl (fun _ => b_add (by omega) (by omega))) ?_); refine l_op (o_val r_as ?_); first | refine l_end ?_ | refine l_nil ?_
      refine round_end (j + 1, (ga).set j (⟨List.replicate 32 (0 : UInt8), (show (List.replicate 32 (0 : UInt8)).length = 32 from (List.length_replicate ..))⟩ : Id32)) ?_ ?_ ?_
      · exact ⟨rfl, rfl, rfl, rfl, show VI ((j : Int) + 1) = VI ((j + 1 : Nat) : Int) from congrArg VI (by omega), trivial⟩
      · refine ⟨?_, ?_⟩
        · try dsimp only
          exact by omega
        · exact H.sub (.cons_cons _ (.cons_cons _ (List.nil_sublist _)))
      · show R8.length - (j + 1 : Nat) < R8.length - j; omega
     ·
      repeat refine c_seq ?_
      refine c_no (by exact congrArg Value.bool (decide_eq_false hc30)) ?_; refine c_exit ?_; repeat refine c_seq ?_
      refine c_region ?_; refine l_op (o_val r_mv ?_); refine l_op (o_val (r_bin (a := (t : Int)) (b := 1) rfl rfl (fun _ => b_add (by omega) (by omega))) ?_); refine l_op (o_val r_as ?_); first | refine l_end ?_ | refine l_nil ?_
      refine round_end (t + 1) ?_ ?_ ?_
      · exact ⟨rfl, rfl, show VI ((t : Int) + 1) = VI ((t + 1 : Nat) : Int) from congrArg VI (by omega), trivial⟩
      · refine ⟨?_, ?_⟩
        · try dsimp only
          exact by omega
        · exact H.sub (.cons_cons _ (List.nil_sublist _))
      · show 2 - (t + 1 : Nat) < 2 - t; omega
   ·
    repeat refine c_seq ?_
    refine c_no (by exact congrArg Value.bool (decide_eq_false hc5)) ?_; refine c_exit ?_; repeat refine c_seq ?_
    refine c_region ?_; refine l_op (o_val r_as ?_); first | refine l_end ?_ | refine l_nil ?_
    refine c_ret ?_; try dsimp only [Exit.then, Exit.inBlock]
    refine e_ret1 (v := .bool true) Try.results6 rfl ?_
    refine ⟨_, rfl, ?_⟩
    exact ⟨rfl, H.sub (List.nil_sublist _)⟩
  ·
   repeat refine c_seq ?_
   refine c_yes (by exact congrArg Value.bool (congrArg not hc4)) ?_; repeat refine c_seq ?_
   refine c_region ?_; refine l_op (o_val r_as ?_); first | refine l_end ?_ | refine l_nil ?_
   refine c_ret ?_; try dsimp only [Exit.then, Exit.inBlock]
   refine e_ret1 (v := .bool true) Try.results6 rfl ?_
   refine ⟨_, rfl, ?_⟩
   exact ⟨rfl, H.sub (List.nil_sublist _)⟩
end Go.Proofs.Ytomjbabllcmodaa
