/- Lemmas for the statement WalkAll, part 4: rules of operations, walks through functions, plain laws. -/
import Derived.Test.YtomjbabllcmodaaWalkAllG3
namespace Go.Proofs.Ytomjbabllcmodaa
open Go
set_option maxRecDepth 100000
theorem fld_head {L : List UInt8} {m : List It} (hm : MayF m) (e : fldB m = L) : 3 ≤ L.length ∧ (L.getD 0 0).toNat = 68 ∧ (L.getD 1 0).toNat = 49 ∧ (L.getD 2 0).toNat = m.length := by
  subst e
  have h := hm.len
  rw [fldB, cnt_one _ (by omega)]
  refine ⟨by simp, rfl, rfl, ?_⟩
  show (UInt8.ofNat m.length).toNat = m.length
  rw [UInt8.toNat_ofNat']; omega
theorem take15_no1 {L : List UInt8} (h : L.length < 3 ∨ ¬ (L.getD 0 0).toNat = 68 ∨ ¬ (L.getD 1 0).toNat = 49 ∨ 64 < (L.getD 2 0).toNat) : takeF L = none := by
  refine takeF_none fun m hm _ e => ?_
  obtain ⟨h1, h2, h3, h4⟩ := fld_head hm e
  have := hm.len
  omega
theorem take15_cut {L : List UInt8} (h3 : ¬ L.length < 3) (h0 : (L.getD 0 0).toNat = 68) (h1 : (L.getD 1 0).toNat = 49) (h2 : (L.getD 2 0).toNat ≤ 64) : L = [68, 49] ++ (cnt (L.getD 2 0).toNat ++ (([] : List It).flatMap itB ++ L.drop 3)) := by
  match L, h3, h0, h1, h2 with
  | a :: b :: c :: t, _, h0, h1, h2 =>
    have e0 : a = 68 := UInt8.toNat_inj.1 h0
    have e1 : b = 49 := UInt8.toNat_inj.1 h1
    have e2 : ([a, b, c].getD 2 0) = c := rfl
    subst e0 e1
    show _ = [68, 49] ++ (cnt c.toNat ++ _)
    have h2' : c.toNat ≤ 64 := h2
    rw [cnt_one _ (by omega), UInt8.ofNat_toNat]
    rfl
  | [], h3, _, _, _ => exact absurd (by simp : ([] : List UInt8).length < 3) h3
  | [_], h3, _, _, _ => exact absurd (by simp) h3
  | [_, _], h3, _, _, _ => exact absurd (by simp) h3
theorem noIt_two {b : List UInt8} (h : b.length < 2) : NoIt b := fun x r _ e => by
  have := congrArg List.length e
  have h2 := cnt_pos x.name.length
  simp only [itB, List.cons_append, List.length_cons, List.length_append] at this
  omega
theorem take15_end {L b : List UInt8} {l : List It} {t : List UInt8} {e : Int} {n : Nat} (hL : L = [68, 49] ++ (cnt n ++ (l.flatMap itB ++ b))) (hl : ∀ x ∈ l, x.fits) (hlt : l.length = n) (hb : BytesRes l t e) : (e = 0 ∧ t = L → takeF L = some l) ∧ (¬ (e = 0 ∧ t = L) → takeF L = none) := by
  constructor
  · rintro ⟨rfl, rfl⟩
    rcases hb with ⟨_, h1, h2, h3⟩ | ⟨h, _⟩
    · exact takeF_some (mayF_of h1 fun x hx => (hl x hx).2.2) h2.symm h3
    · exact absurd rfl h
  · intro h
    refine takeF_none fun m hm h4 he => ?_
    obtain ⟨h1, h2⟩ := take_cnt hL he
    obtain ⟨e1, e2⟩ := items_inj (r := []) (s := b) (l := m) (m := l) (by omega) (fun x hx => (hm.ok x hx).fits.1) (fun x hx => (hl x hx).1) (by rw [List.append_nil]; exact h2)
    subst e1
    rcases hb with ⟨h0, _, h2, _⟩ | ⟨_, _, h3⟩
    · exact h ⟨h0, h2.trans he⟩
    · exact h3 ⟨mayB_of hm, by rw [he]; exact h4⟩
theorem getD_drop (L : List UInt8) (q : Nat) : (L.drop q).getD 0 0 = L.getD q 0 := by
  simp [List.getD_eq_getElem?_getD, List.getElem?_drop]
theorem cut_l4 {s : Sl} {w : World} (hs : s.ok w) (q k : Nat) : (s.cut (q + k) s.len s.cap).l = (s.l.drop q).drop k := by rw [cut_l0 hs, List.drop_drop]
theorem ftake15_ret (w0 : World) (s : Sl) (hs : s.ok w0) (hm : s.len ≤ 1048576) :
    Ret Try.prog 28 [s.v] w0 fun v w' => ∃ (a : Option Nat) (c : Nat) (l : List It) (e : Int), v = .tuple #[.slice (hd a) l.length c, VI e] ∧ TakeRes s.l l e ∧ Hp w0 w' [] [.own a l.length c (l.flatMap itE) 54 35] := by
  refine ret_mk Try.func28 rfl Try.ntmps28 (by simp) ?_
  have H := Hp.refl w0 []
  have hsl := hs.ln
  have hle := hs.le
  have hmx := hs.mx
  repeat refine c_seq ?_
  refine c_region ?_; refine l_op (o_val r_as ?_); refine l_op (o_val r_as ?_); first | refine l_end ?_ | refine l_nil ?_
  repeat refine c_seq ?_
  refine c_region ?_; refine l_op (o_val r_mv ?_); refine l_op (o_val (r_lens el32 rfl) ?_); refine l_op (o_val (r_bin (a := (s.len : Int)) (b := 3) rfl rfl (fun _ => b_lss)) ?_); refine l_op (o_val r_mv ?_)
  by_cases hc1 : (s.len : Int) < 3
  ·
   refine l_no rfl rfl (by exact congrArg Value.bool (decide_eq_true hc1)) rfl ?_; refine l_no rfl rfl (by exact congrArg Value.bool (decide_eq_true hc1)) rfl ?_; refine l_no rfl rfl (by exact congrArg Value.bool (decide_eq_true hc1)) rfl ?_; refine l_no rfl rfl (by exact congrArg Value.bool (decide_eq_true hc1)) rfl ?_; refine l_op (o_val (r_pick (b := true) (congrArg Value.bool (decide_eq_true hc1))) ?_); refine l_op (o_val r_mv ?_); refine l_no rfl rfl rfl rfl ?_; refine l_no rfl rfl rfl rfl ?_; refine l_no rfl rfl rfl rfl ?_; refine l_no rfl rfl rfl rfl ?_; refine l_op (o_val (r_pick rfl) ?_); refine l_op (o_val r_mv ?_); refine l_no rfl rfl rfl rfl ?_; refine l_no rfl rfl rfl rfl ?_; refine l_no rfl rfl rfl rfl ?_; refine l_no rfl rfl rfl rfl ?_; refine l_op (o_val (r_pick rfl) ?_); first | refine l_end ?_ | refine l_nil ?_
   repeat refine c_seq ?_
   refine c_yes rfl ?_; repeat refine c_seq ?_
   refine c_region ?_; refine l_op (o_val r_as ?_); refine l_op (o_val r_as ?_); first | refine l_end ?_ | refine l_nil ?_
   refine c_ret ?_; try dsimp only [Exit.then, Exit.inBlock]
   refine e_retN (vs := [.slice none 0 0, VI 4]) _ Try.results28 rfl (resT (v := .slice none 0 0) rfl (resT (v := VI 4) rfl (resZ))) ?_
   refine ⟨_, rfl, ?_⟩
   refine ⟨none, 0, [], 4, rfl, .inr ⟨rfl, rfl, ?_⟩, (H.sub (List.nil_sublist _)).nilEnd 54 35⟩
   exact take15_no1 (by omega)
  ·
   refine l_yes rfl rfl (by exact congrArg Value.bool (decide_eq_false hc1)) (o_val r_mv ?_); have ah4 := ((hs.up H (fun _ => apart_nil _))).addr (by (try simp only [Sl.cut]); omega)
   obtain ⟨ab2, ao3, ah4⟩ := ah4
   refine l_yes rfl rfl (by exact congrArg Value.bool (decide_eq_false hc1)) (o_val (r_isN 0 rfl rfl el32 ah4 (by omega) (by (try simp only [Sl.cut]); omega)) ?_); refine l_yes rfl rfl (by exact congrArg Value.bool (decide_eq_false hc1)) (o_val (r_ldB (s := s) (k := 0) (hs.up H (fun _ => apart_nil _)) ah4 rfl ct5 (by (try simp only [Sl.cut]); omega)) ?_); refine l_yes rfl rfl (by exact congrArg Value.bool (decide_eq_false hc1)) (o_val (r_bin (a := (((s.l).getD 0 0).toNat : Int)) (b := 68) rfl rfl (fun _ => b_neq)) ?_); refine l_op (o_val (r_pick (b := false) (congrArg Value.bool (decide_eq_false hc1))) ?_); refine l_op (o_val r_mv ?_)
   by_cases hc5 : (((s.l).getD 0 0).toNat : Int) ≠ 68
   ·
    refine l_no rfl rfl (by exact congrArg Value.bool (decide_eq_true hc5)) rfl ?_; refine l_no rfl rfl (by exact congrArg Value.bool (decide_eq_true hc5)) rfl ?_; refine l_no rfl rfl (by exact congrArg Value.bool (decide_eq_true hc5)) rfl ?_; refine l_no rfl rfl (by exact congrArg Value.bool (decide_eq_true hc5)) rfl ?_; refine l_op (o_val (r_pick (b := true) (congrArg Value.bool (decide_eq_true hc5))) ?_); refine l_op (o_val r_mv ?_); refine l_no rfl rfl rfl rfl ?_; refine l_no rfl rfl rfl rfl ?_; refine l_no rfl rfl rfl rfl ?_; refine l_no rfl rfl rfl rfl ?_; refine l_op (o_val (r_pick rfl) ?_); first | refine l_end ?_ | refine l_nil ?_
    repeat refine c_seq ?_
    refine c_yes rfl ?_; repeat refine c_seq ?_
    refine c_region ?_; refine l_op (o_val r_as ?_); refine l_op (o_val r_as ?_); first | refine l_end ?_ | refine l_nil ?_
    refine c_ret ?_; try dsimp only [Exit.then, Exit.inBlock]
    refine e_retN (vs := [.slice none 0 0, VI 4]) _ Try.results28 rfl (resT (v := .slice none 0 0) rfl (resT (v := VI 4) rfl (resZ))) ?_
    refine ⟨_, rfl, ?_⟩
    refine ⟨none, 0, [], 4, rfl, .inr ⟨rfl, rfl, ?_⟩, (H.sub (List.nil_sublist _)).nilEnd 54 35⟩
    exact take15_no1 (by omega)
   ·
    refine l_yes rfl rfl (by exact congrArg Value.bool (decide_eq_false hc5)) (o_val r_mv ?_); refine l_yes rfl rfl (by exact congrArg Value.bool (decide_eq_false hc5)) (o_val (r_isN 1 rfl rfl el32 ah4 (by omega) (by (try simp only [Sl.cut]); omega)) ?_); refine l_yes rfl rfl (by exact congrArg Value.bool (decide_eq_false hc5)) (o_val (r_ldB (s := s) (k := 1) (hs.up H (fun _ => apart_nil _)) ah4 rfl ct5 (by (try simp only [Sl.cut]); omega)) ?_); refine l_yes rfl rfl (by exact congrArg Value.bool (decide_eq_false hc5)) (o_val (r_bin (a := (((s.l).getD 1 0).toNat : Int)) (b := 49) rfl rfl (fun _ => b_neq)) ?_); refine l_op (o_val (r_pick (b := false) (congrArg Value.bool (decide_eq_false hc5))) ?_); refine l_op (o_val r_mv ?_)
    by_cases hc6 : (((s.l).getD 1 0).toNat : Int) ≠ 49
    ·
     refine l_no rfl rfl (by exact congrArg Value.bool (decide_eq_true hc6)) rfl ?_; refine l_no rfl rfl (by exact congrArg Value.bool (decide_eq_true hc6)) rfl ?_; refine l_no rfl rfl (by exact congrArg Value.bool (decide_eq_true hc6)) rfl ?_; refine l_no rfl rfl (by exact congrArg Value.bool (decide_eq_true hc6)) rfl ?_; refine l_op (o_val (r_pick (b := true) (congrArg Value.bool (decide_eq_true hc6))) ?_); first | refine l_end ?_ | refine l_nil ?_
     repeat refine c_seq ?_
     refine c_yes rfl ?_; repeat refine c_seq ?_
     refine c_region ?_; refine l_op (o_val r_as ?_); refine l_op (o_val r_as ?_); first | refine l_end ?_ | refine l_nil ?_
     refine c_ret ?_; try dsimp only [Exit.then, Exit.inBlock]
     refine e_retN (vs := [.slice none 0 0, VI 4]) _ Try.results28 rfl (resT (v := .slice none 0 0) rfl (resT (v := VI 4) rfl (resZ))) ?_
     refine ⟨_, rfl, ?_⟩
     refine ⟨none, 0, [], 4, rfl, .inr ⟨rfl, rfl, ?_⟩, (H.sub (List.nil_sublist _)).nilEnd 54 35⟩
     exact take15_no1 (by omega)
    ·
     refine l_yes rfl rfl (by exact congrArg Value.bool (decide_eq_false hc6)) (o_val r_mv ?_); refine l_yes rfl rfl (by exact congrArg Value.bool (decide_eq_false hc6)) (o_val (r_isN 2 rfl rfl el32 ah4 (by omega) (by (try simp only [Sl.cut]); omega)) ?_); refine l_yes rfl rfl (by exact congrArg Value.bool (decide_eq_false hc6)) (o_val (r_ldB (s := s) (k := 2) (hs.up H (fun _ => apart_nil _)) ah4 rfl ct5 (by (try simp only [Sl.cut]); omega)) ?_); refine l_yes rfl rfl (by exact congrArg Value.bool (decide_eq_false hc6)) (o_val (r_bin (a := (((s.l).getD 2 0).toNat : Int)) (b := 64) rfl rfl (fun _ => b_gtr)) ?_); refine l_op (o_val (r_pick (b := false) (congrArg Value.bool (decide_eq_false hc6))) ?_); first | refine l_end ?_ | refine l_nil ?_
     by_cases hc7 : 64 < (((s.l).getD 2 0).toNat : Int)
     ·
      repeat refine c_seq ?_
      refine c_yes (by exact congrArg Value.bool (decide_eq_true hc7)) ?_; repeat refine c_seq ?_
      refine c_region ?_; refine l_op (o_val r_as ?_); refine l_op (o_val r_as ?_); first | refine l_end ?_ | refine l_nil ?_
      refine c_ret ?_; try dsimp only [Exit.then, Exit.inBlock]
      refine e_retN (vs := [.slice none 0 0, VI 4]) _ Try.results28 rfl (resT (v := .slice none 0 0) rfl (resT (v := VI 4) rfl (resZ))) ?_
      refine ⟨_, rfl, ?_⟩
      refine ⟨none, 0, [], 4, rfl, .inr ⟨rfl, rfl, ?_⟩, (H.sub (List.nil_sublist _)).nilEnd 54 35⟩
      exact take15_no1 (by omega)
     ·
      repeat refine c_seq ?_
      refine c_no (by exact congrArg Value.bool (decide_eq_false hc7)) ?_; refine c_skip ?_; repeat refine c_seq ?_
      refine c_region ?_; refine l_op (o_val r_as ?_); first | refine l_end ?_ | refine l_nil ?_
      repeat refine c_seq ?_
      refine c_region ?_; refine l_op (o_val r_as ?_); first | refine l_end ?_ | refine l_nil ?_
      repeat refine c_seq ?_
      refine c_region ?_; refine l_op (o_val r_as ?_); first | refine l_end ?_ | refine l_nil ?_
      repeat refine c_seq ?_
      refine c_block ?_; repeat refine c_seq ?_
      refine c_loop5 (fun (i : Nat) (q : Nat) (l : List It) (a : Option Nat) (c : Nat) => [(0, s.v), (4, .slice (hd a) l.length c), (5, VI (q : Int)), (6, VI (i : Int))])
        (fun (i : Nat) (q : Nat) (l : List It) (a : Option Nat) (c : Nat) w => (l.length = i ∧ i ≤ ((s.l).getD 2 0).toNat ∧ (∀ y ∈ l, y.fits) ∧ s.l = [68, 49] ++ (cnt ((s.l).getD 2 0).toNat ++ (l.flatMap itB ++ s.l.drop q)) ∧ 3 ≤ q ∧ q ≤ s.len) ∧ Hp w0 w [] ([.own a l.length c ((l).flatMap itE) 54 35]))
        (fun (i : Nat) (q : Nat) (l : List It) (a : Option Nat) (c : Nat) => ((s.l).getD 2 0).toNat - i) 0 3 ([]) none 0 ⟨rfl, rfl, rfl, rfl, trivial⟩ ⟨⟨rfl, Nat.zero_le _, fun y hy => (by cases hy), take15_cut (by omega) (by omega) (by omega) (by omega), Nat.le_refl _, by omega⟩, (H.nilEnd 54 35)⟩ ?_
      clear H
      rintro i q l a c τ w ⟨⟨hli, hix, hfit, hcut, hq3, hql⟩, H⟩
      repeat refine c_seq ?_
      refine c_region ?_; refine l_op (o_val r_mv ?_); refine l_op (o_val r_mv ?_); refine l_op (o_val (r_isN 2 rfl rfl el32 ah4 (by omega) (by (try simp only [Sl.cut]); omega)) ?_); refine l_op (o_val (r_ldB (s := s) (k := 2) (hs.up H (fun _ => apart_nil _)) ah4 rfl ct5 (by (try simp only [Sl.cut]); omega)) ?_); refine l_op (o_val (r_conv Try.underlying5 Try.underlying3 rfl (w_i64_8 _)) ?_); refine l_op (o_val (r_bin (a := (i : Int)) (b := (((s.l).getD 2 0).toNat : Int)) rfl rfl (fun _ => b_lss)) ?_); first | refine l_end ?_ | refine l_nil ?_
      by_cases hc8 : (i : Int) < (((s.l).getD 2 0).toNat : Int)
      ·
       repeat refine c_seq ?_
       refine c_yes (by exact congrArg Value.bool (decide_eq_true hc8)) ?_; refine c_skip ?_; repeat refine c_seq ?_
       refine c_block ?_; repeat refine c_seq ?_
       refine c_region ?_; refine l_op (o_val r_mv ?_); refine l_op (o_val (r_bin (a := (q : Int)) (b := 2) rfl rfl (fun _ => b_add (by omega) (by omega))) ?_); refine l_op (o_val r_mv ?_); refine l_op (o_val (r_lens el32 rfl) ?_); refine l_op (o_val (r_bin (a := (q : Int) + 2) (b := (s.len : Int)) rfl rfl (fun _ => b_gtr)) ?_); first | refine l_end ?_ | refine l_nil ?_
       by_cases hc9 : (s.len : Int) < (q : Int) + 2
       ·
        repeat refine c_seq ?_
        refine c_yes (by exact congrArg Value.bool (decide_eq_true hc9)) ?_; repeat refine c_seq ?_
        refine c_region ?_; refine l_op (o_val r_as ?_); refine l_op (o_val r_as ?_); first | refine l_end ?_ | refine l_nil ?_
        refine c_ret ?_; try dsimp only [Exit.then, Exit.inBlock]
        refine e_retN (vs := [.slice none 0 0, VI 4]) _ Try.results28 rfl (resT (v := .slice none 0 0) rfl (resT (v := VI 4) rfl (resZ))) ?_
        refine ⟨_, rfl, ?_⟩
        refine ⟨none, 0, [], 4, rfl, .inr ⟨rfl, rfl, ?_⟩, (H.sub (List.nil_sublist _)).nilEnd 54 35⟩
        exact take_no3 hcut hfit (by omega) (noIt_two (by rw [List.length_drop]; omega))
       ·
        repeat refine c_seq ?_
        refine c_no (by exact congrArg Value.bool (decide_eq_false hc9)) ?_; refine c_skip ?_; repeat refine c_seq ?_
        refine c_region ?_; refine l_op (o_val r_mv ?_); refine l_op (o_val r_mv ?_); refine l_op (o_val (r_isN q rfl rfl el32 ah4 (by omega) (by (try simp only [Sl.cut]); omega)) ?_); refine l_op (o_val (r_ldB (s := s) (k := q) (hs.up H (fun _ => apart_nil _)) ah4 rfl ct5 (by (try simp only [Sl.cut]); omega)) ?_); refine l_op (o_val (r_conv Try.underlying5 Try.underlying3 rfl (w_i64_8 _)) ?_); refine l_op (o_val (r_bldG (Z := ([.string ⟨(([] : List UInt8)).toArray⟩, VI 0] : List Value) ++ ((List.replicate 32 (0 : UInt8)).map V8 ++ (([VI 0] : List Value)))) (E := ([.string ⟨(([] : List UInt8)).toArray⟩, VI (((s.l).getD q 0).toNat : Int)] : List Value) ++ ((List.replicate 32 (0 : UInt8)).map V8 ++ (([VI 0] : List Value)))) (pv := [(1, VI (((s.l).getD q 0).toNat : Int))]) bd54 rfl rfl (.cons (A := ([.string ⟨(([] : List UInt8)).toArray⟩] : List Value)) (B := ([VI 0] : List Value)) (D := (List.replicate 32 (0 : UInt8)).map V8 ++ (([VI 0] : List Value))) (V := ([VI (((s.l).getD q 0).toNat : Int)] : List Value)) (a := 1) (b := 1) rfl (show Cut3 (([.string ⟨(([] : List UInt8)).toArray⟩, VI 0] : List Value) ++ ((List.replicate 32 (0 : UInt8)).map V8 ++ (([VI 0] : List Value)))) (([.string ⟨(([] : List UInt8)).toArray⟩] : List Value)) (([VI 0] : List Value)) ((List.replicate 32 (0 : UInt8)).map V8 ++ (([VI 0] : List Value))) 1 1 from ⟨(show ([.string ⟨(([] : List UInt8)).toArray⟩, VI 0] : List Value) ++ ((List.replicate 32 (0 : UInt8)).map V8 ++ (([VI 0] : List Value))) = ([.string ⟨(([] : List UInt8)).toArray⟩] : List Value) ++ ((([VI 0] : List Value)) ++ ((List.replicate 32 (0 : UInt8)).map V8 ++ (([VI 0] : List Value)))) from by simp only [List.cons_append, List.nil_append]), (by rfl), (by rfl)⟩) (by rfl) (by rfl) ((show ([.string ⟨(([] : List UInt8)).toArray⟩, VI (((s.l).getD q 0).toNat : Int)] : List Value) ++ ((List.replicate 32 (0 : UInt8)).map V8 ++ (([VI 0] : List Value))) = ([.string ⟨(([] : List UInt8)).toArray⟩] : List Value) ++ ((([VI (((s.l).getD q 0).toNat : Int)] : List Value)) ++ ((List.replicate 32 (0 : UInt8)).map V8 ++ (([VI 0] : List Value)))) from by simp only [List.cons_append, List.nil_append]) ▸ .nil _))) ?_); refine l_op (o_alloc H zc54 (fun b10 w H hb10 => ?_)); replace H : Hp _ w _ ([_, .blk b10 (([.string ⟨(([] : List UInt8)).toArray⟩, VI 0] : List Value) ++ ((List.replicate 32 (0 : UInt8)).map V8 ++ (([VI 0] : List Value)))) 54]) := H
        refine l_op (o_stW (C' := ([.string ⟨(([] : List UInt8)).toArray⟩, VI (((s.l).getD q 0).toNat : Int)] : List Value) ++ ((List.replicate 32 (0 : UInt8)).map V8 ++ (([VI 0] : List Value)))) H (i := 1) rfl rfl rfl cs54 (by first | (simp [V8, Value.oneCell']; done) | (simp only [List.all_append, List.all_cons, List.all_nil, List.all_map]; simp [Value.oneCell', Function.comp_def])) (by simp only [List.length_append, List.length_map, List.length_cons, List.length_nil, (show (List.replicate 32 (0 : UInt8)).length = 32 from (List.length_replicate ..))]) (by simp only [List.length_append, List.length_map, List.length_cons, List.length_nil, (show (List.replicate 32 (0 : UInt8)).length = 32 from (List.length_replicate ..))]) (fun w H => ?_)); replace H : Hp _ w _ ([_, .blk b10 (([.string ⟨(([] : List UInt8)).toArray⟩, VI (((s.l).getD q 0).toNat : Int)] : List Value) ++ ((List.replicate 32 (0 : UInt8)).map V8 ++ (([VI 0] : List Value)))) 54]) := H
        first | refine l_end ?_ | refine l_nil ?_
        repeat refine c_seq ?_
        refine c_region ?_; refine l_op (o_val r_mv ?_); refine l_op (o_val r_mv ?_); refine l_op (o_val (r_bin (a := (q : Int)) (b := 1) rfl rfl (fun _ => b_add (by omega) (by omega))) ?_); refine l_op (o_val (r_slS (s := s) (q + 1) s.len s.cap (lv := some (VI ((q : Int) + 1))) (hv := none) (mv := none) rfl el32 rfl rfl rfl (fun w => by exact sbl (q + 1) (by omega) (by (try simp only [Sl.cut]); omega) w)) ?_); refine l_op (o_callR Try.func43 rfl rfl rfl (takeText1_ret _ (Sl.cut s (q + 1) s.len s.cap) ((hs.up H (fun _ => apart_nil _)).cut (l := q + 1) (h := s.len) (m := s.cap) (by omega) (by (try simp only [Sl.cut]); omega) (by omega) (by (try simp only [Sl.cut]); omega)) (by (try simp only [Sl.cut]); omega)) ?_); rintro _ w ⟨a11, c12, t13, k14, e15, rfl, hto16, hkk17, Hc⟩
        replace H : Hp _ w _ ([_, _, .own a11 t13.length c12 ((t13).map V8) 5 1]) := H.call Hc
        clear Hc
        have hkk17n : k14 ≤ (((s.l).drop (q + 1)).take (s.len - (q + 1))).length := hkk17
        try simp only [List.length_take, List.length_drop] at hkk17n
        refine l_op (o_val r_mv ?_); refine l_op (o_val (r_ext rfl rfl) ?_); refine l_op (o_val (r_ext rfl rfl) ?_); refine l_op (o_val (r_ext rfl rfl) ?_); refine l_op (o_val r_as ?_); refine l_op (o_val r_as ?_); refine l_op (o_val r_as ?_); first | refine l_end ?_ | refine l_nil ?_
        rw [cut_l4 hs] at hto16
        repeat refine c_seq ?_
        refine c_region ?_; refine l_op (o_val r_mv ?_); refine l_op (o_val (r_bin (a := (q : Int)) (b := 1) rfl rfl (fun _ => b_add (by omega) (by omega))) ?_); refine l_op (o_val r_mv ?_); refine l_op (o_val (r_bin (a := (q : Int) + 1) (b := (k14 : Int)) rfl rfl (fun _ => b_add (by omega) (by omega))) ?_); refine l_op (o_val r_as ?_); first | refine l_end ?_ | refine l_nil ?_
        repeat refine c_seq ?_
        refine c_region ?_; refine l_op (o_val r_mv ?_); refine l_op (o_val (r_bin (a := e15) (b := 0) rfl rfl (fun _ => b_neq)) ?_); refine l_op (o_val r_mv ?_)
        by_cases hc18 : e15 ≠ 0
        ·
         refine l_no rfl rfl (by exact congrArg Value.bool (decide_eq_true hc18)) rfl ?_; refine l_no rfl rfl (by exact congrArg Value.bool (decide_eq_true hc18)) rfl ?_; refine l_no rfl rfl (by exact congrArg Value.bool (decide_eq_true hc18)) rfl ?_; refine l_no rfl rfl (by exact congrArg Value.bool (decide_eq_true hc18)) rfl ?_; refine l_no rfl rfl (by exact congrArg Value.bool (decide_eq_true hc18)) rfl ?_; refine l_op (o_val (r_pick (b := true) (congrArg Value.bool (decide_eq_true hc18))) ?_); first | refine l_end ?_ | refine l_nil ?_
         repeat refine c_seq ?_
         refine c_yes rfl ?_; repeat refine c_seq ?_
         refine c_region ?_; refine l_op (o_val r_as ?_); refine l_op (o_val r_as ?_); first | refine l_end ?_ | refine l_nil ?_
         refine c_ret ?_; try dsimp only [Exit.then, Exit.inBlock]
         refine e_retN (vs := [.slice none 0 0, VI 4]) _ Try.results28 rfl (resT (v := .slice none 0 0) rfl (resT (v := VI 4) rfl (resZ))) ?_
         refine ⟨_, rfl, ?_⟩
         refine ⟨none, 0, [], 4, rfl, .inr ⟨rfl, rfl, ?_⟩, (H.sub (List.nil_sublist _)).nilEnd 54 35⟩
         exact take_no3 hcut hfit (by omega) (item_no1 hto16 (by omega) (by rw [List.length_drop]; omega))
        ·
         refine l_yes rfl rfl (by exact congrArg Value.bool (decide_eq_false hc18)) (o_val r_mv ?_); refine l_yes rfl rfl (by exact congrArg Value.bool (decide_eq_false hc18)) (o_val (r_bin (a := ((q : Int) + 1) + (k14 : Int)) (b := 32) rfl rfl (fun _ => b_add (by omega) (by omega))) ?_); refine l_yes rfl rfl (by exact congrArg Value.bool (decide_eq_false hc18)) (o_val r_mv ?_); refine l_yes rfl rfl (by exact congrArg Value.bool (decide_eq_false hc18)) (o_val (r_lens el32 rfl) ?_); refine l_yes rfl rfl (by exact congrArg Value.bool (decide_eq_false hc18)) (o_val (r_bin (a := (((q : Int) + 1) + (k14 : Int)) + 32) (b := (s.len : Int)) rfl rfl (fun _ => b_gtr)) ?_); refine l_op (o_val (r_pick (b := false) (congrArg Value.bool (decide_eq_false hc18))) ?_); first | refine l_end ?_ | refine l_nil ?_
         by_cases hc19 : (s.len : Int) < (((q : Int) + 1) + (k14 : Int)) + 32
         ·
          repeat refine c_seq ?_
          refine c_yes (by exact congrArg Value.bool (decide_eq_true hc19)) ?_; repeat refine c_seq ?_
          refine c_region ?_; refine l_op (o_val r_as ?_); refine l_op (o_val r_as ?_); first | refine l_end ?_ | refine l_nil ?_
          refine c_ret ?_; try dsimp only [Exit.then, Exit.inBlock]
          refine e_retN (vs := [.slice none 0 0, VI 4]) _ Try.results28 rfl (resT (v := .slice none 0 0) rfl (resT (v := VI 4) rfl (resZ))) ?_
          refine ⟨_, rfl, ?_⟩
          have he0 : e15 = 0 := by omega
          subst he0
          exact ⟨none, 0, [], 4, rfl, .inr ⟨rfl, rfl, take_no3 hcut hfit (by omega) (item_no2 hto16 (by rw [List.length_drop]; omega) (by rw [List.length_drop]; omega))⟩, (H.sub (List.nil_sublist _)).nilEnd 54 35⟩
         ·
          repeat refine c_seq ?_
          refine c_no (by exact congrArg Value.bool (decide_eq_false hc19)) ?_; refine c_skip ?_; have he0 : e15 = 0 := by omega
          subst he0
          repeat refine c_seq ?_
          refine wp_held (fun w => Hp w0 w [] [.own a l.length c ((l).flatMap itE) 54 35, .own a11 t13.length c12 ((t13).map V8) 5 1]) mixed ?_; replace H := H.drew
          have HS := H.sub (.cons_cons _ (.cons _ (.cons_cons _ (List.nil_sublist _))))
          refine t_take 0 rfl (by kernel_rfl) (by kernel_rfl) (by kernel_rfl) (fun _ _ _ h => h) (fun w HS => r_mv) HS ?_; refine t_take 1 rfl (by kernel_rfl) (by kernel_rfl) (by kernel_rfl) (fun _ _ _ h => h) (fun w HS => r_b2S (s := ⟨hd a11, t13.length, c12, t13⟩) Try.underlying32 Try.underlying5 Try.underlying9 rfl (HS.slOwn (i := 1) rfl)) HS ?_; refine t_take 2 rfl (by kernel_rfl) (by kernel_rfl) (by kernel_rfl) (fun _ _ _ h => h) (fun w HS => r_mv) HS ?_; refine t_take 3 rfl (by kernel_rfl) (by kernel_rfl) (by kernel_rfl) (fun _ _ _ h => h) (fun w HS => r_mv) HS ?_; refine t_take 4 rfl (by kernel_rfl) (by kernel_rfl) (by kernel_rfl) (fun _ _ _ h => h) (fun w HS => r_mv) HS ?_; refine t_take 5 rfl (by kernel_rfl) (by kernel_rfl) (by kernel_rfl) (fun _ _ _ h => h) (fun w HS => r_bin (a := ((q : Int) + 1) + (k14 : Int)) (b := 32) rfl rfl (fun _ => b_add (by omega) (by omega))) HS ?_; refine t_take 6 rfl (by kernel_rfl) (by kernel_rfl) (by kernel_rfl) (fun _ _ _ h => h) (fun w HS => r_slS (s := s) ((q + 1) + k14) (((q + 1) + k14) + 32) s.cap (lv := some (VI (((q : Int) + 1) + (k14 : Int)))) (hv := some (VI ((((q : Int) + 1) + (k14 : Int)) + 32))) (mv := none) rfl el32 rfl rfl rfl (fun w => by exact sblh ((q + 1) + k14) (((q + 1) + k14) + 32) (by omega) (by omega) (by (try simp only [Sl.cut]); omega) (by (try simp only [Sl.cut]); omega) w)) HS ?_; refine t_take 7 rfl (by kernel_rfl) (by kernel_rfl) (by kernel_rfl) (fun _ _ _ h => h) (fun w HS => r_sap Try.underlying29 rfl (by (try simp only [Sl.cut]); omega)) HS ?_; have ah22 := (((hs.up HS (fun _ => apart_nil _)).cut (l := (q + 1) + k14) (h := ((q + 1) + k14) + 32) (m := s.cap) (by omega) (by (try simp only [Sl.cut]); omega) (by omega) (by (try simp only [Sl.cut]); omega))).addr (by (try simp only [Sl.cut]); omega)
          obtain ⟨ab20, ao21, ah22⟩ := ah22
          refine t_take 8 rfl (by kernel_rfl) (by kernel_rfl) (by kernel_rfl) (fun _ _ _ h => h) (fun w HS => r_ldSA (s := (Sl.cut s ((q + 1) + k14) (((q + 1) + k14) + 32) s.cap)) (k := 32) ((hs.up HS (fun _ => apart_nil _)).cut (l := (q + 1) + k14) (h := ((q + 1) + k14) + 32) (m := s.cap) (by omega) (by (try simp only [Sl.cut]); omega) (by omega) (by (try simp only [Sl.cut]); omega)) ah22 rfl rt29 (by decide) (by (try simp only [Sl.cut]); omega)) HS ?_; refine t_take 9 rfl (by kernel_rfl) (by kernel_rfl) (by kernel_rfl) (fun _ _ _ h => h) (fun w HS => r_fa rfl fo54_0) HS ?_; refine t_step 10 rfl (by kernel_rfl) (o_s1 (u := .string ⟨(t13).toArray⟩) H (i := 1) rfl rfl rfl cs9 rfl (show Cut3 (([.string ⟨(([] : List UInt8)).toArray⟩, VI (((s.l).getD q 0).toNat : Int)] : List Value) ++ ((List.replicate 32 (0 : UInt8)).map V8 ++ (([VI 0] : List Value)))) (([] : List Value)) (([.string ⟨(([] : List UInt8)).toArray⟩] : List Value)) (([VI (((s.l).getD q 0).toNat : Int)] : List Value) ++ ((List.replicate 32 (0 : UInt8)).map V8 ++ (([VI 0] : List Value)))) 0 1 from ⟨(show ([.string ⟨(([] : List UInt8)).toArray⟩, VI (((s.l).getD q 0).toNat : Int)] : List Value) ++ ((List.replicate 32 (0 : UInt8)).map V8 ++ (([VI 0] : List Value))) = ([] : List Value) ++ ((([.string ⟨(([] : List UInt8)).toArray⟩] : List Value)) ++ (([VI (((s.l).getD q 0).toNat : Int)] : List Value) ++ ((List.replicate 32 (0 : UInt8)).map V8 ++ (([VI 0] : List Value))))) from by simp only [List.cons_append, List.nil_append]), (by rfl), (by rfl)⟩) (fun w H => ?_))
          rw [show ([] : List Value) ++ (([.string ⟨(t13).toArray⟩] : List Value) ++ (([VI (((s.l).getD q 0).toNat : Int)] : List Value) ++ ((List.replicate 32 (0 : UInt8)).map V8 ++ (([VI 0] : List Value))))) = ([.string ⟨(t13).toArray⟩, VI (((s.l).getD q 0).toNat : Int)] : List Value) ++ ((List.replicate 32 (0 : UInt8)).map V8 ++ (([VI 0] : List Value))) from by simp only [List.cons_append, List.nil_append]] at H
          replace H : Hp _ w _ ([_, .blk b10 (([.string ⟨(t13).toArray⟩, VI (((s.l).getD q 0).toNat : Int)] : List Value) ++ ((List.replicate 32 (0 : UInt8)).map V8 ++ (([VI 0] : List Value)))) 54, _]) := H
          refine ⟨H.sub (.cons_cons _ (.cons _ (.cons_cons _ (List.nil_sublist _)))), ?_⟩
          replace HS := H.sub (.cons_cons _ (.cons _ (.cons_cons _ (List.nil_sublist _))))
          refine t_take 11 rfl (by kernel_rfl) (by kernel_rfl) (by kernel_rfl) (fun _ _ _ h => h) (fun w HS => r_fa rfl fo54_2) HS ?_; refine t_step 12 rfl (by kernel_rfl) (o_sk (V := ((((s.l).drop ((q + 1) + k14)).take (((q + 1) + k14) + 32 - ((q + 1) + k14))).take 32).map V8) H (i := 1) rfl rfl rfl cs29 (by first | (simp [Value.oneCell']; done) | (simp only [List.all_map]; simp [Value.oneCell', Function.comp_def])) (by simp only [List.length_map, (show ((((s.l).drop ((q + 1) + k14)).take (((q + 1) + k14) + 32 - ((q + 1) + k14))).take 32).length = 32 from (by simp only [List.length_take, List.length_drop]; omega))]) (show Cut3 (([.string ⟨(t13).toArray⟩, VI (((s.l).getD q 0).toNat : Int)] : List Value) ++ ((List.replicate 32 (0 : UInt8)).map V8 ++ (([VI 0] : List Value)))) (([.string ⟨(t13).toArray⟩, VI (((s.l).getD q 0).toNat : Int)] : List Value)) ((List.replicate 32 (0 : UInt8)).map V8) (([VI 0] : List Value)) 2 32 from ⟨(show ([.string ⟨(t13).toArray⟩, VI (((s.l).getD q 0).toNat : Int)] : List Value) ++ ((List.replicate 32 (0 : UInt8)).map V8 ++ (([VI 0] : List Value))) = ([.string ⟨(t13).toArray⟩, VI (((s.l).getD q 0).toNat : Int)] : List Value) ++ (((List.replicate 32 (0 : UInt8)).map V8) ++ (([VI 0] : List Value))) from by simp only [List.cons_append, List.nil_append]), (by rfl), (by simp only [List.length_map, (show (List.replicate 32 (0 : UInt8)).length = 32 from (List.length_replicate ..))])⟩) (fun w H => ?_))
          rw [show ([.string ⟨(t13).toArray⟩, VI (((s.l).getD q 0).toNat : Int)] : List Value) ++ ((((((s.l).drop ((q + 1) + k14)).take (((q + 1) + k14) + 32 - ((q + 1) + k14))).take 32).map V8) ++ (([VI 0] : List Value))) = ([.string ⟨(t13).toArray⟩, VI (((s.l).getD q 0).toNat : Int)] : List Value) ++ (((((s.l).drop ((q + 1) + k14)).take (((q + 1) + k14) + 32 - ((q + 1) + k14))).take 32).map V8 ++ (([VI 0] : List Value))) from by simp only [List.cons_append, List.nil_append]] at H
          replace H : Hp _ w _ ([_, .blk b10 (([.string ⟨(t13).toArray⟩, VI (((s.l).getD q 0).toNat : Int)] : List Value) ++ (((((s.l).drop ((q + 1) + k14)).take (((q + 1) + k14) + 32 - ((q + 1) + k14))).take 32).map V8 ++ (([VI 0] : List Value)))) 54, _]) := H
          refine ⟨H.sub (.cons_cons _ (.cons _ (.cons_cons _ (List.nil_sublist _)))), ?_⟩
          replace HS := H.sub (.cons_cons _ (.cons _ (.cons_cons _ (List.nil_sublist _))))
          refine t_done (by kernel_rfl) ?_
          clear HS
          repeat refine c_seq ?_
          refine c_region ?_; refine l_op (o_val r_mv ?_); refine l_op (o_val r_mv ?_); refine l_op (o_val (r_bin (a := ((q : Int) + 1) + (k14 : Int)) (b := 32) rfl rfl (fun _ => b_add (by omega) (by omega))) ?_); refine l_op (o_val (r_slS (s := s) (((q + 1) + k14) + 32) s.len s.cap (lv := some (VI ((((q : Int) + 1) + (k14 : Int)) + 32))) (hv := none) (mv := none) rfl el32 rfl rfl rfl (fun w => by exact sbl (((q + 1) + k14) + 32) (by omega) (by (try simp only [Sl.cut]); omega) w)) ?_); refine l_op (o_callR Try.func44 rfl rfl rfl (takeCount1_ret _ (Sl.cut s (((q + 1) + k14) + 32) s.len s.cap) ((hs.up H (fun _ => apart_nil _)).cut (l := ((q + 1) + k14) + 32) (h := s.len) (m := s.cap) (by omega) (by (try simp only [Sl.cut]); omega) (by omega) (by (try simp only [Sl.cut]); omega)) (by (try simp only [Sl.cut]); omega)) ?_); rintro _ w ⟨x23, k24, e25, rfl, hco26, hkk27, Hc⟩
          replace H : Hp _ w _ ([_, _, _]) := H.call Hc
          clear Hc
          have hkk27n : k24 ≤ (((s.l).drop (((q + 1) + k14) + 32)).take (s.len - (((q + 1) + k14) + 32))).length := hkk27
          try simp only [List.length_take, List.length_drop] at hkk27n
          refine l_op (o_val r_mv ?_); refine l_op (o_val (r_ext rfl rfl) ?_); refine l_op (o_val (r_ext rfl rfl) ?_); refine l_op (o_val (r_ext rfl rfl) ?_); refine l_op (o_val r_as ?_); refine l_op (o_val r_as ?_); refine l_op (o_val r_as ?_); first | refine l_end ?_ | refine l_nil ?_
          repeat refine c_seq ?_
          refine c_region ?_; refine l_op (o_val r_mv ?_); refine l_op (o_val (r_bin (a := e25) (b := 0) rfl rfl (fun _ => b_neq)) ?_); refine l_op (o_val r_mv ?_)
          by_cases hc28 : e25 ≠ 0
          ·
           refine l_no rfl rfl (by exact congrArg Value.bool (decide_eq_true hc28)) rfl ?_; refine l_no rfl rfl (by exact congrArg Value.bool (decide_eq_true hc28)) rfl ?_; refine l_op (o_val (r_pick (b := true) (congrArg Value.bool (decide_eq_true hc28))) ?_); first | refine l_end ?_ | refine l_nil ?_
           repeat refine c_seq ?_
           refine c_yes rfl ?_; repeat refine c_seq ?_
           refine c_region ?_; refine l_op (o_val r_as ?_); refine l_op (o_val r_as ?_); first | refine l_end ?_ | refine l_nil ?_
           refine c_ret ?_; try dsimp only [Exit.then, Exit.inBlock]
           refine e_retN (vs := [.slice none 0 0, VI 4]) _ Try.results28 rfl (resT (v := .slice none 0 0) rfl (resT (v := VI 4) rfl (resZ))) ?_
           refine ⟨_, rfl, ?_⟩
           rw [show q + 1 + k14 + 32 = q + (1 + k14 + 32) by omega, cut_l4 hs] at hco26
           exact ⟨none, 0, [], 4, rfl, .inr ⟨rfl, rfl, take_no3 hcut hfit (by omega) (item_no3 hto16 (by rw [List.length_drop]; omega) (by rw [List.length_drop]; omega) hco26 (by omega))⟩, (H.sub (List.nil_sublist _)).nilEnd 54 35⟩
          ·
           refine l_yes rfl rfl (by exact congrArg Value.bool (decide_eq_false hc28)) (o_val r_mv ?_); refine l_yes rfl rfl (by exact congrArg Value.bool (decide_eq_false hc28)) (o_val (r_bin (a := (x23.toNat : Int)) (b := 9223372036854775807) rfl rfl (fun _ => b_gtr)) ?_); refine l_op (o_val (r_pick (b := false) (congrArg Value.bool (decide_eq_false hc28))) ?_); first | refine l_end ?_ | refine l_nil ?_
           by_cases hc29 : 9223372036854775807 < (x23.toNat : Int)
           ·
            repeat refine c_seq ?_
            refine c_yes (by exact congrArg Value.bool (decide_eq_true hc29)) ?_; repeat refine c_seq ?_
            refine c_region ?_; refine l_op (o_val r_as ?_); refine l_op (o_val r_as ?_); first | refine l_end ?_ | refine l_nil ?_
            refine c_ret ?_; try dsimp only [Exit.then, Exit.inBlock]
            refine e_retN (vs := [.slice none 0 0, VI 4]) _ Try.results28 rfl (resT (v := .slice none 0 0) rfl (resT (v := VI 4) rfl (resZ))) ?_
            refine ⟨_, rfl, ?_⟩
            rw [show q + 1 + k14 + 32 = q + (1 + k14 + 32) by omega, cut_l4 hs] at hco26
            exact ⟨none, 0, [], 4, rfl, .inr ⟨rfl, rfl, take_no3 hcut hfit (by omega) (item_no3 hto16 (by rw [List.length_drop]; omega) (by rw [List.length_drop]; omega) hco26 (by omega))⟩, (H.sub (List.nil_sublist _)).nilEnd 54 35⟩
           ·
            repeat refine c_seq ?_
            refine c_no (by exact congrArg Value.bool (decide_eq_false hc29)) ?_; refine c_skip ?_; repeat refine c_seq ?_
            refine c_region ?_; refine l_op (o_val r_mv ?_); refine l_op (o_val (r_conv Try.underlying91 Try.underlying2 rfl (w_i64_64 (by omega))) ?_); refine l_op (o_val (r_fa rfl fo54_3) ?_); refine l_op (o_s1 (u := VI (x23.toNat : Int)) H (i := 1) rfl rfl rfl cs2 rfl (show Cut3 (([.string ⟨(t13).toArray⟩, VI (((s.l).getD q 0).toNat : Int)] : List Value) ++ (((((s.l).drop ((q + 1) + k14)).take (((q + 1) + k14) + 32 - ((q + 1) + k14))).take 32).map V8 ++ (([VI 0] : List Value)))) (([.string ⟨(t13).toArray⟩, VI (((s.l).getD q 0).toNat : Int)] : List Value) ++ (((((s.l).drop ((q + 1) + k14)).take (((q + 1) + k14) + 32 - ((q + 1) + k14))).take 32).map V8)) (([VI 0] : List Value)) (([] : List Value)) 34 1 from ⟨(show ([.string ⟨(t13).toArray⟩, VI (((s.l).getD q 0).toNat : Int)] : List Value) ++ (((((s.l).drop ((q + 1) + k14)).take (((q + 1) + k14) + 32 - ((q + 1) + k14))).take 32).map V8 ++ (([VI 0] : List Value))) = (([.string ⟨(t13).toArray⟩, VI (((s.l).getD q 0).toNat : Int)] : List Value) ++ (((((s.l).drop ((q + 1) + k14)).take (((q + 1) + k14) + 32 - ((q + 1) + k14))).take 32).map V8)) ++ ((([VI 0] : List Value)) ++ (([] : List Value))) from by simp only [List.cons_append, List.nil_append]), (by simp only [List.length_append, List.length_map, List.length_cons, List.length_nil, (show ((((s.l).drop ((q + 1) + k14)).take (((q + 1) + k14) + 32 - ((q + 1) + k14))).take 32).length = 32 from (by simp only [List.length_take, List.length_drop]; omega))]), (by rfl)⟩) (fun w H => ?_))
            rw [show (([.string ⟨(t13).toArray⟩, VI (((s.l).getD q 0).toNat : Int)] : List Value) ++ (((((s.l).drop ((q + 1) + k14)).take (((q + 1) + k14) + 32 - ((q + 1) + k14))).take 32).map V8)) ++ (([VI (x23.toNat : Int)] : List Value) ++ (([] : List Value))) = ([.string ⟨(t13).toArray⟩, VI (((s.l).getD q 0).toNat : Int)] : List Value) ++ (((((s.l).drop ((q + 1) + k14)).take (((q + 1) + k14) + 32 - ((q + 1) + k14))).take 32).map V8 ++ (([VI (x23.toNat : Int)] : List Value))) from by simp only [List.cons_append, List.nil_append]] at H
            replace H : Hp _ w _ ([_, .blk b10 (([.string ⟨(t13).toArray⟩, VI (((s.l).getD q 0).toNat : Int)] : List Value) ++ (((((s.l).drop ((q + 1) + k14)).take (((q + 1) + k14) + 32 - ((q + 1) + k14))).take 32).map V8 ++ (([VI (x23.toNat : Int)] : List Value)))) 54, _]) := H
            first | refine l_end ?_ | refine l_nil ?_
            repeat refine c_seq ?_
            refine c_region ?_; refine l_op (o_val r_mv ?_); refine l_op (o_val (r_bin (a := ((q : Int) + 1) + (k14 : Int)) (b := 32) rfl rfl (fun _ => b_add (by omega) (by omega))) ?_); refine l_op (o_val r_mv ?_); refine l_op (o_val (r_bin (a := (((q : Int) + 1) + (k14 : Int)) + 32) (b := (k24 : Int)) rfl rfl (fun _ => b_add (by omega) (by omega))) ?_); refine l_op (o_val r_as ?_); first | refine l_end ?_ | refine l_nil ?_
            repeat refine c_seq ?_
            refine c_region ?_; refine l_op (o_val r_mv ?_); refine l_op (o_val (r_ldA (C := ([.string ⟨(t13).toArray⟩, VI (((s.l).getD q 0).toNat : Int)] : List Value) ++ (((((s.l).drop ((q + 1) + k14)).take (((q + 1) + k14) + 32 - ((q + 1) + k14))).take 32).map V8 ++ (([VI (x23.toNat : Int)] : List Value)))) H (i := 1) rfl rfl rt54 (by simp only [List.length_append, List.length_map, List.length_cons, List.length_nil, (show ((((s.l).drop ((q + 1) + k14)).take (((q + 1) + k14) + 32 - ((q + 1) + k14))).take 32).length = 32 from (by simp only [List.length_take, List.length_drop]; omega))])) ?_); refine l_op (o_bslG1 (enc := itE) ((⟨t13, (((s.l).getD q 0).toNat : Int), (⟨(((s.l).drop ((q + 1) + k14)).take (((q + 1) + k14) + 32 - ((q + 1) + k14))).take 32, (show ((((s.l).drop ((q + 1) + k14)).take (((q + 1) + k14) + 32 - ((q + 1) + k14))).take 32).length = 32 from (by simp only [List.length_take, List.length_drop]; omega))⟩ : Id32), (x23.toNat : Int)⟩ : It)) H sl52 zc54 (by rfl) (by decide) (by decide) rfl (itE_len _) (fun b30 w H hb30 => ?_)); replace H : Hp _ w _ ([_, _, _, .own (some b30) 1 1 (([(⟨t13, (((s.l).getD q 0).toNat : Int), (⟨(((s.l).drop ((q + 1) + k14)).take (((q + 1) + k14) + 32 - ((q + 1) + k14))).take 32, (show ((((s.l).drop ((q + 1) + k14)).take (((q + 1) + k14) + 32 - ((q + 1) + k14))).take 32).length = 32 from (by simp only [List.length_take, List.length_drop]; omega))⟩ : Id32), (x23.toNat : Int)⟩ : It)]).flatMap itE) 54 35]) := H
            have hl1 : (l ++ ([(⟨t13, (((s.l).getD q 0).toNat : Int), (⟨(((s.l).drop ((q + 1) + k14)).take (((q + 1) + k14) + 32 - ((q + 1) + k14))).take 32, (show ((((s.l).drop ((q + 1) + k14)).take (((q + 1) + k14) + 32 - ((q + 1) + k14))).take 32).length = 32 from (by simp only [List.length_take, List.length_drop]; omega))⟩ : Id32), (x23.toNat : Int)⟩ : It)])).length = l.length + 1 := by rw [List.length_append]; rfl
            refine l_op (o_appG (enc := itE) (s := ⟨hd (some b30), 1, 1, [(⟨t13, (((s.l).getD q 0).toNat : Int), (⟨(((s.l).drop ((q + 1) + k14)).take (((q + 1) + k14) + 32 - ((q + 1) + k14))).take 32, (show ((((s.l).drop ((q + 1) + k14)).take (((q + 1) + k14) + 32 - ((q + 1) + k14))).take 32).length = 32 from (by simp only [List.length_take, List.length_drop]; omega))⟩ : Id32), (x23.toNat : Int)⟩ : It)]⟩) (l' := l ++ ([(⟨t13, (((s.l).getD q 0).toNat : Int), (⟨(((s.l).drop ((q + 1) + k14)).take (((q + 1) + k14) + 32 - ((q + 1) + k14))).take 32, (show ((((s.l).drop ((q + 1) + k14)).take (((q + 1) + k14) + 32 - ((q + 1) + k14))).take 32).length = 32 from (by simp only [List.length_take, List.length_drop]; omega))⟩ : Id32), (x23.toNat : Int)⟩ : It)])) (len' := (l ++ ([(⟨t13, (((s.l).getD q 0).toNat : Int), (⟨(((s.l).drop ((q + 1) + k14)).take (((q + 1) + k14) + 32 - ((q + 1) + k14))).take 32, (show ((((s.l).drop ((q + 1) + k14)).take (((q + 1) + k14) + 32 - ((q + 1) + k14))).take 32).length = 32 from (by simp only [List.length_take, List.length_drop]; omega))⟩ : Id32), (x23.toNat : Int)⟩ : It)])).length) rfl (by rw [List.length_append]; rfl) H (i := 0) rfl sl52 Try.underlying52 rfl rfl (H.glOwn (i := 3) rfl (by decide) (fun c _ => itE_len c)) (by decide) (fun c _ => itE_all c) (by omega) (by decide) (fun a31 c32 w H => ?_)); replace H : Hp _ w _ ([.own a31 ((l ++ ([(⟨t13, (((s.l).getD q 0).toNat : Int), (⟨(((s.l).drop ((q + 1) + k14)).take (((q + 1) + k14) + 32 - ((q + 1) + k14))).take 32, (show ((((s.l).drop ((q + 1) + k14)).take (((q + 1) + k14) + 32 - ((q + 1) + k14))).take 32).length = 32 from (by simp only [List.length_take, List.length_drop]; omega))⟩ : Id32), (x23.toNat : Int)⟩ : It)])).length) c32 ((l ++ ([(⟨t13, (((s.l).getD q 0).toNat : Int), (⟨(((s.l).drop ((q + 1) + k14)).take (((q + 1) + k14) + 32 - ((q + 1) + k14))).take 32, (show ((((s.l).drop ((q + 1) + k14)).take (((q + 1) + k14) + 32 - ((q + 1) + k14))).take 32).length = 32 from (by simp only [List.length_take, List.length_drop]; omega))⟩ : Id32), (x23.toNat : Int)⟩ : It)])).flatMap itE) 54 35, _, _, _]) := H
            refine l_op (o_val r_as ?_); first | refine l_end ?_ | refine l_nil ?_
            repeat refine c_seq ?_
            refine c_region ?_; refine l_op (o_val r_mv ?_); refine l_op (o_val (r_bin (a := (i : Int)) (b := 1) rfl rfl (fun _ => b_add (by omega) (by omega))) ?_); refine l_op (o_val r_as ?_); first | refine l_end ?_ | refine l_nil ?_
            have he2 : e25 = 0 := by omega
            subst he2
            rw [show q + 1 + k14 + 32 = q + (1 + k14 + 32) by omega, cut_l4 hs] at hco26
            have hy := item_yes (o := (⟨(((s.l).drop ((q + 1) + k14)).take (((q + 1) + k14) + 32 - ((q + 1) + k14))).take 32, (show ((((s.l).drop ((q + 1) + k14)).take (((q + 1) + k14) + 32 - ((q + 1) + k14))).take 32).length = 32 from (by simp only [List.length_take, List.length_drop]; omega))⟩ : Id32)) hto16 (by rw [List.length_drop]; omega) (by rw [List.drop_drop, show q + (1 + k14) = q + 1 + k14 by omega]; first | rfl | (simp only [List.take_take]; congr 1; omega)) hco26 (by omega)
            rw [getD_drop, List.drop_drop] at hy
            refine round_end (i + 1, q + 1 + k14 + 32 + k24, l ++ ([(⟨t13, (((s.l).getD q 0).toNat : Int), (⟨(((s.l).drop ((q + 1) + k14)).take (((q + 1) + k14) + 32 - ((q + 1) + k14))).take 32, (show ((((s.l).drop ((q + 1) + k14)).take (((q + 1) + k14) + 32 - ((q + 1) + k14))).take 32).length = 32 from (by simp only [List.length_take, List.length_drop]; omega))⟩ : Id32), (x23.toNat : Int)⟩ : It)]), a31, c32) ?_ ?_ ?_
            · exact ⟨rfl, rfl, show VI (((((q : Int) + 1) + (k14 : Int)) + 32) + (k24 : Int)) = VI ((q + 1 + k14 + 32 + k24 : Nat) : Int) from congrArg VI (by omega), show VI ((i : Int) + 1) = VI ((i + 1 : Nat) : Int) from congrArg VI (by omega), trivial⟩
            · refine ⟨?_, ?_⟩
              · try dsimp only
                exact ⟨by rw [List.length_append]; exact congrArg (· + 1) hli, by omega, fun y hy_ => (List.mem_append.1 hy_).elim (hfit y) (fun hy_ => by rw [List.mem_singleton.1 hy_]; exact hy.1), by rw [List.flatMap_append, List.append_assoc, List.flatMap_cons, List.flatMap_nil, List.append_nil, show q + 1 + k14 + 32 + k24 = q + (1 + k14 + 32 + k24) by omega, ← hy.2]; exact hcut, by omega, by omega⟩
              · exact H.sub (.cons_cons _ (List.nil_sublist _))
            · show ((s.l).getD 2 0).toNat - (i + 1 : Nat) < ((s.l).getD 2 0).toNat - i; omega
      ·
       repeat refine c_seq ?_
       refine c_no (by exact congrArg Value.bool (decide_eq_false hc8)) ?_; refine c_exit ?_; have hfits : ∀ x ∈ l, x.name.length ≤ 65536 ∧ x.size ≤ 9223372036854775807 := fun x hx => ⟨(hfit x hx).2.1, (hfit x hx).2.2⟩
       repeat refine c_seq ?_
       refine c_region ?_; refine l_op (o_val r_mv ?_); refine l_op (o_callR Try.func37 rfl rfl rfl (fbytes15_ret _ ⟨hd a, l.length, c, l⟩ (H.glOwn (i := 0) rfl (by decide) (fun c _ => itE_len c)) hfits) ?_); rintro _ w ⟨a33, c34, t35, e36, rfl, hby37, Hc⟩
       replace H : Hp _ w _ ([_, .own a33 t35.length c34 ((t35).map V8) 5 1]) := H.call Hc
       clear Hc
       refine l_op (o_val r_mv ?_); refine l_op (o_val (r_ext rfl rfl) ?_); refine l_op (o_val (r_ext rfl rfl) ?_); refine l_op (o_val r_as ?_); refine l_op (o_val r_as ?_); first | refine l_end ?_ | refine l_nil ?_
       repeat refine c_seq ?_
       refine c_region ?_; refine l_op (o_val r_mv ?_); refine l_op (o_val (r_bin (a := e36) (b := 0) rfl rfl (fun _ => b_neq)) ?_); refine l_op (o_val r_mv ?_)
       by_cases hc38 : e36 ≠ 0
       ·
        refine l_no rfl rfl (by exact congrArg Value.bool (decide_eq_true hc38)) rfl ?_; refine l_no rfl rfl (by exact congrArg Value.bool (decide_eq_true hc38)) rfl ?_; refine l_no rfl rfl (by exact congrArg Value.bool (decide_eq_true hc38)) rfl ?_; refine l_no rfl rfl (by exact congrArg Value.bool (decide_eq_true hc38)) rfl ?_; refine l_no rfl rfl (by exact congrArg Value.bool (decide_eq_true hc38)) rfl ?_; refine l_op (o_val (r_pick (b := true) (congrArg Value.bool (decide_eq_true hc38))) ?_); first | refine l_end ?_ | refine l_nil ?_
        repeat refine c_seq ?_
        refine c_yes rfl ?_; repeat refine c_seq ?_
        refine c_region ?_; refine l_op (o_val r_as ?_); refine l_op (o_val r_as ?_); first | refine l_end ?_ | refine l_nil ?_
        refine c_ret ?_; try dsimp only [Exit.then, Exit.inBlock]
        refine e_retN (vs := [.slice none 0 0, VI 4]) _ Try.results28 rfl (resT (v := .slice none 0 0) rfl (resT (v := VI 4) rfl (resZ))) ?_
        refine ⟨_, rfl, ?_⟩
        refine ⟨none, 0, [], 4, rfl, .inr ⟨rfl, rfl, ?_⟩, (H.sub (List.nil_sublist _)).nilEnd 54 35⟩
        exact (take15_end hcut hfit (by omega) hby37).2 (by rintro ⟨h1, h2⟩; first | omega | contradiction | exact absurd h2 (by assumption))
       ·
        refine l_yes rfl rfl (by exact congrArg Value.bool (decide_eq_false hc38)) (o_val r_mv ?_); refine l_yes rfl rfl (by exact congrArg Value.bool (decide_eq_false hc38)) (o_val (r_b2S (s := ⟨hd a33, t35.length, c34, t35⟩) Try.underlying32 Try.underlying5 Try.underlying9 rfl (H.slOwn (i := 1) rfl)) ?_); refine l_yes rfl rfl (by exact congrArg Value.bool (decide_eq_false hc38)) (o_val r_mv ?_); refine l_yes rfl rfl (by exact congrArg Value.bool (decide_eq_false hc38)) (o_val (r_b2S (s := s) Try.underlying32 Try.underlying5 Try.underlying9 rfl (hs.up H (fun _ => apart_nil _))) ?_); refine l_yes rfl rfl (by exact congrArg Value.bool (decide_eq_false hc38)) (o_val (r_strne (a := t35) (b := s.l) rfl rfl) ?_); refine l_op (o_val (r_pick (b := false) (congrArg Value.bool (decide_eq_false hc38))) ?_); first | refine l_end ?_ | refine l_nil ?_
        by_cases hc39 : t35 = s.l
        ·
         repeat refine c_seq ?_
         refine c_no (by exact congrArg Value.bool (congrArg not (decide_eq_true hc39))) ?_; refine c_skip ?_; repeat refine c_seq ?_
         refine c_region ?_; refine l_op (o_val r_mv ?_); refine l_op (o_val r_as ?_); refine l_op (o_val r_as ?_); first | refine l_end ?_ | refine l_nil ?_
         refine c_ret ?_; try dsimp only [Exit.then, Exit.inBlock]
         refine e_retN (vs := [.slice (hd a) l.length c, VI 0]) _ Try.results28 rfl (resT (v := .slice (hd a) l.length c) rfl (resT (v := VI 0) rfl (resZ))) ?_
         refine ⟨_, rfl, ?_⟩
         exact ⟨_, _, _, 0, rfl, .inl ⟨rfl, (take15_end hcut hfit (by omega) hby37).1 ⟨by omega, by assumption⟩⟩, H.sub (.cons_cons _ (List.nil_sublist _))⟩
        ·
         repeat refine c_seq ?_
         refine c_yes (by exact congrArg Value.bool (congrArg not (decide_eq_false hc39))) ?_; repeat refine c_seq ?_
         refine c_region ?_; refine l_op (o_val r_as ?_); refine l_op (o_val r_as ?_); first | refine l_end ?_ | refine l_nil ?_
         refine c_ret ?_; try dsimp only [Exit.then, Exit.inBlock]
         refine e_retN (vs := [.slice none 0 0, VI 4]) _ Try.results28 rfl (resT (v := .slice none 0 0) rfl (resT (v := VI 4) rfl (resZ))) ?_
         refine ⟨_, rfl, ?_⟩
         refine ⟨none, 0, [], 4, rfl, .inr ⟨rfl, rfl, ?_⟩, (H.sub (List.nil_sublist _)).nilEnd 54 35⟩
         exact (take15_end hcut hfit (by omega) hby37).2 (by rintro ⟨h1, h2⟩; first | omega | contradiction | exact absurd h2 (by assumption))
end Go.Proofs.Ytomjbabllcmodaa
namespace Go.Proofs.Ytomjbabllcmodaa
open Go
set_option maxRecDepth 100000
theorem alikeIDs_ret (w0 : World) (r u : Gl Id32) (hr : r.ok idE 32 w0) (hu : u.ok idE 32 w0) :
    Ret Try.prog 12 [r.v, u.v] w0 fun v w' => v = .bool (decide (r.l = u.l)) ∧ Hp w0 w' [] [] := by
  refine ret_mk Try.func12 rfl Try.ntmps12 (by simp) ?_
  have H := Hp.refl w0 []
  have hrl := hr.ln
  have hul := hu.ln
  have hrx := hr.mx
  have hrm := hr.le
  have hmL : maxLen = 9223372036854775807 := rfl
  repeat refine c_seq ?_
  refine c_region ?_; refine l_op (o_val r_as ?_); first | refine l_end ?_ | refine l_nil ?_
  repeat refine c_seq ?_
  refine c_region ?_; refine l_op (o_val r_mv ?_); refine l_op (o_val (r_lens el23 rfl) ?_); refine l_op (o_val r_mv ?_); refine l_op (o_val (r_lens el23 rfl) ?_); refine l_op (o_val (r_bin (a := (r.len : Int)) (b := (u.len : Int)) rfl rfl (fun _ => b_neq)) ?_); first | refine l_end ?_ | refine l_nil ?_
  by_cases hc1 : (r.len : Int) ≠ (u.len : Int)
  ·
   repeat refine c_seq ?_
   refine c_yes (by exact congrArg Value.bool (decide_eq_true hc1)) ?_; repeat refine c_seq ?_
   refine c_region ?_; refine l_op (o_val r_as ?_); first | refine l_end ?_ | refine l_nil ?_
   refine c_ret ?_; try dsimp only [Exit.then, Exit.inBlock]
   refine e_ret1 (v := .bool false) Try.results12 rfl ?_
   refine ⟨_, rfl, ?_⟩
   exact ⟨congrArg Value.bool (decide_eq_false (fun h => by have := congrArg List.length h; omega)).symm, H⟩
  ·
   repeat refine c_seq ?_
   refine c_no (by exact congrArg Value.bool (decide_eq_false hc1)) ?_; refine c_skip ?_; repeat refine c_seq ?_
   refine c_region ?_; refine l_op (o_val r_as ?_); first | refine l_end ?_ | refine l_nil ?_
   repeat refine c_seq ?_
   refine c_block ?_; repeat refine c_seq ?_
   refine c_loop (fun (i : Nat) => [(0, r.v), (1, u.v), (5, VI (i : Int))])
     (fun (i : Nat) w => (i ≤ r.len ∧ r.l.take i = u.l.take i) ∧ Hp w0 w [] ([]))
     (fun (i : Nat) => r.len - i) 0 ⟨rfl, rfl, rfl, trivial⟩ ⟨⟨Nat.zero_le _, rfl⟩, H⟩ ?_
   clear H
   rintro i τ w ⟨⟨hil, hta⟩, H⟩
   repeat refine c_seq ?_
   refine c_region ?_; refine l_op (o_val r_mv ?_); refine l_op (o_val r_mv ?_); refine l_op (o_val (r_lens el23 rfl) ?_); refine l_op (o_val (r_bin (a := (i : Int)) (b := (r.len : Int)) rfl rfl (fun _ => b_lss)) ?_); first | refine l_end ?_ | refine l_nil ?_
   by_cases hc2 : (i : Int) < (r.len : Int)
   ·
    repeat refine c_seq ?_
    refine c_yes (by exact congrArg Value.bool (decide_eq_true hc2)) ?_; refine c_skip ?_; repeat refine c_seq ?_
    refine c_block ?_; repeat refine c_seq ?_
    refine c_still mixed (by kernel_rfl) ?_; replace H := H.drew
    refine s_op (r_mv) ?_; refine s_op (r_mv) ?_; have ah5 := ((hr.up H)).addr (by decide) (by first | omega | (dsimp only; omega))
    obtain ⟨ab3, ao4, ah5⟩ := ah5
    refine s_op (r_isN i rfl rfl el23 ah5 (by omega) (by (try simp only [Sl.cut]); omega)) ?_; have he7 : ∃ c, r.l[i]? = some c := ⟨_, List.getElem?_eq_getElem (by have := ((hr.up H)).ln; (try dsimp only at this ⊢); omega)⟩
    obtain ⟨e6, he7⟩ := he7
    have hez8 := ((hr.up H)).sz e6 (List.mem_of_getElem? he7)
    refine s_op (r_ldRow (s := r) (k := i) (hr.up H) ah5 rfl rt29 (by decide) he7) ?_; refine s_op (r_mv) ?_; refine s_op (r_mv) ?_; have ah11 := ((hu.up H)).addr (by decide) (by first | omega | (dsimp only; omega))
    obtain ⟨ab9, ao10, ah11⟩ := ah11
    refine s_op (r_isN i rfl rfl el23 ah11 (by omega) (by (try simp only [Sl.cut]); omega)) ?_; have he13 : ∃ c, u.l[i]? = some c := ⟨_, List.getElem?_eq_getElem (by have := ((hu.up H)).ln; (try dsimp only at this ⊢); omega)⟩
    obtain ⟨e12, he13⟩ := he13
    have hez14 := ((hu.up H)).sz e12 (List.mem_of_getElem? he13)
    refine s_op (r_ldRow (s := u) (k := i) (hu.up H) ah11 rfl rt29 (by decide) he13) ?_; refine s_op (r_nea (a := e6.1) (b := e12.1) Try.underlying29 Try.underlying5 cs5 rfl rfl (show (e6.1).length = 32 from e6.2) (show (e12.1).length = 32 from e12.2)) ?_; refine s_nil ?_
    by_cases hc15 : e6.1 = e12.1
    ·
     repeat refine c_seq ?_
     refine c_no (by exact congrArg Value.bool (congrArg not (decide_eq_true hc15))) ?_; refine c_skip ?_; repeat refine c_seq ?_
     refine c_region ?_; refine l_op (o_val r_mv ?_); refine l_op (o_val (r_bin (a := (i : Int)) (b := 1) rfl rfl (fun _ => b_add (by omega) (by omega))) ?_); refine l_op (o_val r_as ?_); first | refine l_end ?_ | refine l_nil ?_
     have heq : e6.1 = e12.1 := by first | assumption | exact Decidable.not_not.1 (by assumption) | exact of_decide_eq_true (by simpa using (decide_eq_true hc15))
     refine round_end (i + 1) ?_ ?_ ?_
     · exact ⟨rfl, rfl, show VI ((i : Int) + 1) = VI ((i + 1 : Nat) : Int) from congrArg VI (by omega), trivial⟩
     · refine ⟨?_, ?_⟩
       · try dsimp only
         exact ⟨by omega, by rw [take_snocG he7, take_snocG he13, hta, Subtype.ext heq]⟩
       · exact H
     · show r.len - (i + 1 : Nat) < r.len - i; omega
    ·
     repeat refine c_seq ?_
     refine c_yes (by exact congrArg Value.bool (congrArg not (decide_eq_false hc15))) ?_; repeat refine c_seq ?_
     refine c_region ?_; refine l_op (o_val r_as ?_); first | refine l_end ?_ | refine l_nil ?_
     refine c_ret ?_; try dsimp only [Exit.then, Exit.inBlock]
     refine e_ret1 (v := .bool false) Try.results12 rfl ?_
     refine ⟨_, rfl, ?_⟩
     exact ⟨congrArg Value.bool (decide_eq_false (fun h => by have e1 := he7; rw [h, he13] at e1; have e2 := Option.some.inj e1; subst e2; first | contradiction | simp_all)).symm, H⟩
   ·
    repeat refine c_seq ?_
    refine c_no (by exact congrArg Value.bool (decide_eq_false hc2)) ?_; refine c_exit ?_; repeat refine c_seq ?_
    refine c_region ?_; refine l_op (o_val r_as ?_); first | refine l_end ?_ | refine l_nil ?_
    refine c_ret ?_; try dsimp only [Exit.then, Exit.inBlock]
    refine e_ret1 (v := .bool true) Try.results12 rfl ?_
    refine ⟨_, rfl, ?_⟩
    exact ⟨congrArg Value.bool (decide_eq_true (by rw [List.take_of_length_le (by omega), List.take_of_length_le (by omega)] at hta; exact hta)).symm, H⟩
theorem less_ret (w0 : World) (x y : Id32) :
    Ret Try.prog 45 [.agg ((x.1).map V8).toArray, .agg ((y.1).map V8).toArray] w0 fun v w' => v = .bool (decide (x.1 < y.1)) ∧ Hp w0 w' [] [] := by
  refine ret_mk Try.func45 rfl Try.ntmps45 (by simp) ?_
  have H := Hp.refl w0 []
  repeat refine c_seq ?_
  refine c_region ?_; refine l_op (o_box (v := .agg ((x.1).map V8).toArray) H rfl (fun b1 w H hb1 => ?_)); replace H : Hp _ w _ ([.blk b1 ((x.1).map V8) 29]) := H
  refine l_op (o_box (v := .agg ((y.1).map V8).toArray) H rfl (fun b2 w H hb2 => ?_)); replace H : Hp _ w _ ([_, .blk b2 ((y.1).map V8) 29]) := H
  refine l_op (o_val r_as ?_); first | refine l_end ?_ | refine l_nil ?_
  repeat refine c_seq ?_
  refine c_still mixed (by kernel_rfl) ?_; replace H := H.drew
  refine s_op (r_slA (h := 32) (m := 32) (lv := none) (hv := none) (mv := none) rfl ar29 rfl rfl rfl (fun w => sbn w)) ?_; refine s_op (r_b2S (s := (⟨some ⟨b1, 0, none⟩, 32, 32, x.1⟩ : Sl)) Try.underlying32 Try.underlying5 Try.underlying9 rfl (H.slBlkA (i := 0) rfl 32 (show (x.1).length = 32 from x.2) (by decide))) ?_; refine s_op (r_slA (h := 32) (m := 32) (lv := none) (hv := none) (mv := none) rfl ar29 rfl rfl rfl (fun w => sbn w)) ?_; refine s_op (r_b2S (s := (⟨some ⟨b2, 0, none⟩, 32, 32, y.1⟩ : Sl)) Try.underlying32 Try.underlying5 Try.underlying9 rfl (H.slBlkA (i := 1) rfl 32 (show (y.1).length = 32 from y.2) (by decide))) ?_; refine s_op (r_strlt (a := x.1) (b := y.1) rfl rfl) ?_; refine s_op (r_as) ?_; refine s_nil ?_; refine c_ret ?_; try dsimp only [Exit.then, Exit.inBlock]
  refine e_ret1 (v := .bool (Op.bytesLess x.1 y.1)) Try.results45 rfl ?_
  refine ⟨_, rfl, ?_⟩
  exact ⟨by rw [bl_lt], H.sub (List.nil_sublist _)⟩
theorem find17_ret (w0 : World) (g : Gl Ob) (hg : g.ok obE 33 w0) (hgm : g.len ≤ 65536) (k : Id32) :
    Ret Try.prog 16 [g.v, .agg ((k.1).map V8).toArray] w0 fun v w' => ∃ i, FindR g.l k i ∧ v = VI i ∧ Hp w0 w' [] [] := by
  refine ret_mk Try.func16 rfl Try.ntmps16 (by simp) ?_
  have H := Hp.refl w0 []
  have hgl := hg.ln
  repeat refine c_seq ?_
  refine c_region ?_; refine l_op (o_box (v := .agg ((k.1).map V8).toArray) H rfl (fun b1 w H hb1 => ?_)); replace H : Hp _ w _ ([.blk b1 ((k.1).map V8) 29]) := H
  refine l_op (o_val r_as ?_); first | refine l_end ?_ | refine l_nil ?_
  repeat refine c_seq ?_
  refine c_region ?_; refine l_op (o_val r_as ?_); first | refine l_end ?_ | refine l_nil ?_
  repeat refine c_seq ?_
  refine c_block ?_; repeat refine c_seq ?_
  refine c_loop (fun (i : Nat) => [(0, g.v), (3, .pointer (some ⟨b1, 0, none⟩)), (5, VI (i : Int))])
    (fun (i : Nat) w => (i ≤ g.len ∧ ∀ m, m < i → ∀ o, g.l[m]? = some o → o.of ≠ k) ∧ Hp w0 w [] ([.blk b1 ((k.1).map V8) 29]))
    (fun (i : Nat) => g.len - i) 0 ⟨rfl, rfl, rfl, trivial⟩ ⟨⟨Nat.zero_le _, fun m hm => absurd hm (by omega)⟩, H⟩ ?_
  clear H
  rintro i τ w ⟨⟨hil, hno⟩, H⟩
  repeat refine c_seq ?_
  refine c_region ?_; refine l_op (o_val r_mv ?_); refine l_op (o_val r_mv ?_); refine l_op (o_val (r_lens el22 rfl) ?_); refine l_op (o_val (r_bin (a := (i : Int)) (b := (g.len : Int)) rfl rfl (fun _ => b_lss)) ?_); first | refine l_end ?_ | refine l_nil ?_
  by_cases hc2 : (i : Int) < (g.len : Int)
  ·
   repeat refine c_seq ?_
   refine c_yes (by exact congrArg Value.bool (decide_eq_true hc2)) ?_; refine c_skip ?_; repeat refine c_seq ?_
   refine c_block ?_; repeat refine c_seq ?_
   refine c_still mixed (by kernel_rfl) ?_; replace H := H.drew
   refine s_op (r_mv) ?_; refine s_op (r_mv) ?_; have ah5 := ((hg.up H)).addr (by decide) (by first | omega | (dsimp only; omega))
   obtain ⟨ab3, ao4, ah5⟩ := ah5
   refine s_op (r_isN i rfl rfl el22 ah5 (by omega) (by (try simp only [Sl.cut]); omega)) ?_; refine s_op (r_fa rfl fo34_0) ?_; have he7 : ∃ c, g.l[i]? = some c := ⟨_, List.getElem?_eq_getElem (by have := ((hg.up H)).ln; (try dsimp only at this ⊢); omega)⟩
   obtain ⟨e6, he7⟩ := he7
   have hez8 := ((hg.up H)).sz e6 (List.mem_of_getElem? he7)
   refine s_op (r_gk (s := g) (j := i) (hg.up H) ah5 rfl rt29 (by decide) he7 (show Cut3 (obE e6) (([] : List Value)) ((e6.of.1).map V8) (([e6.data.v] : List Value)) 0 32 from ⟨(show (e6.of.1).map V8 ++ (([e6.data.v] : List Value)) = ([] : List Value) ++ (((e6.of.1).map V8) ++ (([e6.data.v] : List Value))) from by simp only [List.nil_append]), (by rfl), (by simp only [List.length_map, (show (e6.of.1).length = 32 from e6.of.2)])⟩)) ?_; refine s_op (r_ldAA (l := k.1) H (i := 0) rfl rfl rt29 (show (k.1).length = 32 from k.2)) ?_; refine s_op (r_eqa (a := e6.of.1) (b := k.1) Try.underlying29 Try.underlying5 cs5 rfl rfl (show (e6.of.1).length = 32 from e6.of.2) (show (k.1).length = 32 from k.2)) ?_; refine s_nil ?_
   by_cases hc9 : e6.of.1 = k.1
   ·
    repeat refine c_seq ?_
    refine c_yes (by exact congrArg Value.bool (decide_eq_true hc9)) ?_; repeat refine c_seq ?_
    refine c_region ?_; refine l_op (o_val r_mv ?_); refine l_op (o_val r_as ?_); first | refine l_end ?_ | refine l_nil ?_
    refine c_ret ?_; try dsimp only [Exit.then, Exit.inBlock]
    refine e_ret1 (v := VI (i : Int)) Try.results16 rfl ?_
    refine ⟨_, rfl, ?_⟩
    have hof : e6.of = k := Subtype.ext (by assumption)
    exact ⟨_, .inr ⟨i, e6, rfl, he7, hof, by rw [← hof]; exact lookS_first he7 fun m hm o ho => by rw [hof]; exact hno m hm o ho⟩, rfl, H.sub (List.nil_sublist _)⟩
   ·
    repeat refine c_seq ?_
    refine c_no (by exact congrArg Value.bool (decide_eq_false hc9)) ?_; refine c_skip ?_; repeat refine c_seq ?_
    refine c_region ?_; refine l_op (o_val r_mv ?_); refine l_op (o_val (r_bin (a := (i : Int)) (b := 1) rfl rfl (fun _ => b_add (by omega) (by omega))) ?_); refine l_op (o_val r_as ?_); first | refine l_end ?_ | refine l_nil ?_
    have hat : ∀ o, g.l[i]? = some o → o.of ≠ k := fun o ho e => by
      rw [he7] at ho; cases ho
      exact absurd (congrArg Subtype.val e) (by assumption)
    refine round_end (i + 1) ?_ ?_ ?_
    · exact ⟨rfl, rfl, show VI ((i : Int) + 1) = VI ((i + 1 : Nat) : Int) from congrArg VI (by omega), trivial⟩
    · refine ⟨?_, ?_⟩
      · try dsimp only
        exact ⟨by omega, fun m hm => (Nat.lt_or_ge m i).elim (hno m) (fun h => (show i = m by omega) ▸ hat)⟩
      · exact H
    · show g.len - (i + 1 : Nat) < g.len - i; omega
  ·
   repeat refine c_seq ?_
   refine c_no (by exact congrArg Value.bool (decide_eq_false hc2)) ?_; refine c_exit ?_; repeat refine c_seq ?_
   refine c_region ?_; refine l_op (o_val r_as ?_); first | refine l_end ?_ | refine l_nil ?_
   refine c_ret ?_; try dsimp only [Exit.then, Exit.inBlock]
   refine e_ret1 (v := VI (-1)) Try.results16 rfl ?_
   refine ⟨_, rfl, ?_⟩
   exact ⟨_, .inl ⟨rfl, lookS_none fun m hm => hno m (by omega)⟩, rfl, H.sub (List.nil_sublist _)⟩
theorem get_drop {α : Type} {l : List α} {i : Nat} {x : α} (h : l[i]? = some x) : l.drop i = x :: l.drop (i + 1) := by
  obtain ⟨h1, h2⟩ := List.getElem?_eq_some_iff.1 h
  rw [List.drop_eq_getElem_cons h1, h2]
theorem ris_split {l : List Id32} (h : RisA l) (i : Nat) : RisA (l.take i) ∧ RisA (l.drop i) ∧ ∀ x ∈ l.take i, ∀ y ∈ l.drop i, x.1 < y.1 := by
  have := h
  rw [← List.take_append_drop i l] at this
  exact List.pairwise_append.1 this
theorem with_above {l : List Id32} {k : Id32} {i : Nat} (h : RisA l) (hi : l.length ≤ i ∨ ∃ e, l[i]? = some e ∧ k.1 < e.1) : ∀ x ∈ l.drop i, k.1 < x.1 := fun x hx => by
  rcases hi with hi | ⟨e, he, hk⟩
  · rw [List.drop_eq_nil_of_le hi] at hx; cases hx
  · have h2 := (ris_split h i).2.1
    rw [get_drop he] at h2 hx
    rcases List.mem_cons.1 hx with rfl | hx
    · exact hk
    · exact lt_tr hk ((List.pairwise_cons.1 h2).1 x hx)
theorem with_new {l : List Id32} {k : Id32} {i : Nat} (h : RisA l) (hb : ∀ x ∈ l.take i, x.1 < k.1) (hi : l.length ≤ i ∨ ∃ e, l[i]? = some e ∧ k.1 < e.1) : k ∉ l ∧ RisA ((l.take i ++ [k]) ++ l.drop i) ∧ (∀ x, x ∈ (l.take i ++ [k]) ++ l.drop i ↔ x = k ∨ x ∈ l) := by
  have ha := with_above h hi
  refine ⟨fun hk => ?_, ?_, fun x => ?_⟩
  · rw [← List.take_append_drop i l] at hk
    rcases List.mem_append.1 hk with hk | hk
    · exact lt_irr _ (hb k hk)
    · exact lt_irr _ (ha k hk)
  · rw [RisA, List.pairwise_append]
    refine ⟨List.pairwise_append.2 ⟨(ris_split h i).1, List.pairwise_singleton _ _, fun x hx y hy => by rw [List.mem_singleton.1 hy]; exact hb x hx⟩, (ris_split h i).2.1, fun x hx y hy => ?_⟩
    rcases mem_last hx with hx | rfl
    · exact (ris_split h i).2.2 x hx y hy
    · exact ha y hy
  · have := @List.mem_append _ x (l.take i) (l.drop i)
    rw [List.take_append_drop] at this
    rw [List.mem_append, List.mem_append, List.mem_singleton, this]
    constructor
    · rintro ((h | h) | h)
      · exact .inr (.inl h)
      · exact .inl h
      · exact .inr (.inr h)
    · rintro (h | h | h)
      · exact .inl (.inr h)
      · exact .inl (.inl h)
      · exact .inr h
theorem with_in (w0 : World) (r : Gl Id32) (hr : r.ok idE 32 w0) (k : Id32) (hris : RisA r.l) (hrm : r.len ≤ 16777216) (hk : k ∈ r.l) :
    Ret Try.prog 29 [r.v, .agg ((k.1).map V8).toArray] w0 fun v w' => v = r.v ∧ Hp w0 w' [] [] := by
  refine ret_mk Try.func29 rfl Try.ntmps29 (by simp) ?_
  have H := Hp.refl w0 []
  have hrl := hr.ln
  have hrc := hr.le
  repeat refine c_seq ?_
  refine c_region ?_; refine l_op (o_box (v := .agg ((k.1).map V8).toArray) H rfl (fun b1 w H hb1 => ?_)); replace H : Hp _ w _ ([.blk b1 ((k.1).map V8) 29]) := H
  refine l_op (o_val r_as ?_); first | refine l_end ?_ | refine l_nil ?_
  repeat refine c_seq ?_
  refine c_region ?_; refine l_op (o_val r_as ?_); first | refine l_end ?_ | refine l_nil ?_
  repeat refine c_seq ?_
  refine c_block ?_; repeat refine c_seq ?_
  refine c_loop (fun (i : Nat) => [(0, r.v), (3, .pointer (some ⟨b1, 0, none⟩)), (5, VI (i : Int))])
    (fun (i : Nat) w => (i ≤ r.len ∧ ∀ x ∈ r.l.take i, x.1 < k.1) ∧ Hp w0 w [] ([.blk b1 ((k.1).map V8) 29]))
    (fun (i : Nat) => r.len - i) 0 ⟨rfl, rfl, rfl, trivial⟩ ⟨⟨Nat.zero_le _, fun x hx => (by rw [List.take_zero] at hx; cases hx)⟩, H⟩ ?_
  clear H
  rintro i τ w ⟨⟨hil, hb⟩, H⟩
  repeat refine c_seq ?_
  refine wp_held (fun w => Hp w0 w [] [.blk b1 ((k.1).map V8) 29]) mixed ?_; replace H := H.drew
  have HS := H
  refine t_take 0 rfl (by kernel_rfl) (by kernel_rfl) (by kernel_rfl) (fun _ _ _ h => h) (fun w HS => r_mv) HS ?_; refine t_take 1 rfl (by kernel_rfl) (by kernel_rfl) (by kernel_rfl) (fun _ _ _ h => h) (fun w HS => r_mv) HS ?_; refine t_take 2 rfl (by kernel_rfl) (by kernel_rfl) (by kernel_rfl) (fun _ _ _ h => h) (fun w HS => r_lens el23 rfl) HS ?_; refine t_take 3 rfl (by kernel_rfl) (by kernel_rfl) (by kernel_rfl) (fun _ _ _ h => h) (fun w HS => r_bin (a := (i : Int)) (b := (r.len : Int)) rfl rfl (fun _ => b_lss)) HS ?_; refine t_take 4 rfl (by kernel_rfl) (by kernel_rfl) (by kernel_rfl) (fun _ _ _ h => h) (fun w HS => r_mv) HS ?_
  by_cases hc2 : (i : Int) < (r.len : Int)
  ·
   refine t_takeg 5 rfl (by kernel_rfl) (by kernel_rfl) (by kernel_rfl) (fun _ _ _ h => h) (yielded_mk _ _ _ rfl _ rfl (by exact congrArg Value.bool (decide_eq_true hc2))) (fun w HS => r_mv) HS ?_; refine t_takeg 6 rfl (by kernel_rfl) (by kernel_rfl) (by kernel_rfl) (fun _ _ _ h => h) (yielded_mk _ _ _ rfl _ rfl (by exact congrArg Value.bool (decide_eq_true hc2))) (fun w HS => r_mv) HS ?_; have ah5 := ((hr.up HS)).addr (by decide) (by first | omega | (dsimp only; omega))
   obtain ⟨ab3, ao4, ah5⟩ := ah5
   refine t_takeg 7 rfl (by kernel_rfl) (by kernel_rfl) (by kernel_rfl) (fun _ _ _ h => h) (yielded_mk _ _ _ rfl _ rfl (by exact congrArg Value.bool (decide_eq_true hc2))) (fun w HS => r_isN i rfl rfl el23 ah5 (by omega) (by (try simp only [Sl.cut]); omega)) HS ?_; have he7 : ∃ c, r.l[i]? = some c := ⟨_, List.getElem?_eq_getElem (by have := ((hr.up HS)).ln; (try dsimp only at this ⊢); omega)⟩
   obtain ⟨e6, he7⟩ := he7
   have hez8 := ((hr.up HS)).sz e6 (List.mem_of_getElem? he7)
   refine t_takeg 8 rfl (by kernel_rfl) (by kernel_rfl) (by kernel_rfl) (fun _ _ _ h => h) (yielded_mk _ _ _ rfl _ rfl (by exact congrArg Value.bool (decide_eq_true hc2))) (fun w HS => r_ldRow (s := r) (k := i) (hr.up HS) ah5 rfl rt29 (by decide) he7) HS ?_; refine t_takeg 9 rfl (by kernel_rfl) (by kernel_rfl) (by kernel_rfl) (fun _ _ _ h => h) (yielded_mk _ _ _ rfl _ rfl (by exact congrArg Value.bool (decide_eq_true hc2))) (fun w HS => r_ldAA (l := k.1) HS (i := 0) rfl rfl rt29 (show (k.1).length = 32 from k.2)) HS ?_; refine t_stepg 10 rfl (by kernel_rfl) (yielded_mk _ _ _ rfl _ rfl (by exact congrArg Value.bool (decide_eq_true hc2))) (o_callR Try.func45 rfl rfl rfl (less_ret _ e6 k) ?_); rintro _ w ⟨rfl, Hc⟩
   replace H : Hp _ w _ ([_]) := H.call Hc
   clear Hc
   refine ⟨H, ?_⟩
   replace HS := H
   refine t_take 11 rfl (by kernel_rfl) (by kernel_rfl) (by kernel_rfl) (fun _ _ _ h => h) (fun w HS => r_pick (b := true) (congrArg Value.bool (decide_eq_true hc2))) HS ?_; refine t_done (by kernel_rfl) ?_
   clear HS
   by_cases hc9 : e6.1 < k.1
   ·
    repeat refine c_seq ?_
    refine c_yes (by exact congrArg Value.bool (decide_eq_true hc9)) ?_; refine c_skip ?_; repeat refine c_seq ?_
    refine c_block ?_; repeat refine c_seq ?_
    refine c_region ?_; refine l_op (o_val r_mv ?_); refine l_op (o_val (r_bin (a := (i : Int)) (b := 1) rfl rfl (fun _ => b_add (by omega) (by omega))) ?_); refine l_op (o_val r_as ?_); first | refine l_end ?_ | refine l_nil ?_
    refine round_end (i + 1) ?_ ?_ ?_
    · exact ⟨rfl, rfl, show VI ((i : Int) + 1) = VI ((i + 1 : Nat) : Int) from congrArg VI (by omega), trivial⟩
    · refine ⟨?_, ?_⟩
      · try dsimp only
        exact ⟨by omega, fun x hx => by rw [take_snocG he7] at hx; exact (mem_last hx).elim (hb x) (fun e => by rw [e]; assumption)⟩
      · exact H
    · show r.len - (i + 1 : Nat) < r.len - i; omega
   ·
    repeat refine c_seq ?_
    refine c_no (by exact congrArg Value.bool (decide_eq_false hc9)) ?_; refine c_exit ?_; repeat refine c_seq ?_
    refine c_still mixed (by kernel_rfl) ?_; replace H := H.drew
    refine s_op (r_mv) ?_; refine s_op (r_mv) ?_; refine s_op (r_lens el23 rfl) ?_; refine s_op (r_bin (a := (i : Int)) (b := (r.len : Int)) rfl rfl (fun _ => b_lss)) ?_; refine s_op (r_mv) ?_; refine s_yes rfl rfl (by exact congrArg Value.bool (decide_eq_true hc2)) (r_mv) ?_; refine s_yes rfl rfl (by exact congrArg Value.bool (decide_eq_true hc2)) (r_mv) ?_; refine s_yes rfl rfl (by exact congrArg Value.bool (decide_eq_true hc2)) (r_isN i rfl rfl el23 ah5 (by omega) (by (try simp only [Sl.cut]); omega)) ?_; refine s_yes rfl rfl (by exact congrArg Value.bool (decide_eq_true hc2)) (r_ldRow (s := r) (k := i) (hr.up H) ah5 rfl rt29 (by decide) he7) ?_; refine s_yes rfl rfl (by exact congrArg Value.bool (decide_eq_true hc2)) (r_ldAA (l := k.1) H (i := 0) rfl rfl rt29 (show (k.1).length = 32 from k.2)) ?_; refine s_yes rfl rfl (by exact congrArg Value.bool (decide_eq_true hc2)) (r_eqa (a := e6.1) (b := k.1) Try.underlying29 Try.underlying5 cs5 rfl rfl (show (e6.1).length = 32 from e6.2) (show (k.1).length = 32 from k.2)) ?_; refine s_op (r_pick (b := true) (congrArg Value.bool (decide_eq_true hc2))) ?_; refine s_nil ?_
    by_cases hc10 : e6.1 = k.1
    ·
     repeat refine c_seq ?_
     refine c_yes (by exact congrArg Value.bool (decide_eq_true hc10)) ?_; repeat refine c_seq ?_
     refine c_region ?_; refine l_op (o_val r_mv ?_); refine l_op (o_val r_as ?_); first | refine l_end ?_ | refine l_nil ?_
     refine c_ret ?_; try dsimp only [Exit.then, Exit.inBlock]
     refine e_ret1 (v := r.v) Try.results29 rfl ?_
     refine ⟨_, rfl, ?_⟩
     exact ⟨rfl, H.sub (List.nil_sublist _)⟩
    ·
     repeat refine c_seq ?_
     refine c_no (by exact congrArg Value.bool (decide_eq_false hc10)) ?_; refine c_skip ?_; repeat refine c_seq ?_
     refine wp_held (fun w => Hp w0 w [] [.blk b1 ((k.1).map V8) 29]) mixed ?_; replace H := H.drew
     have HS := H
     refine t_take 1 rfl (by kernel_rfl) (by kernel_rfl) (by kernel_rfl) (fun _ _ _ h => h) (fun w HS => r_mv) HS ?_; refine t_take 2 rfl (by kernel_rfl) (by kernel_rfl) (by kernel_rfl) (fun _ _ _ h => h) (fun w HS => r_mv) HS ?_; refine t_take 3 rfl (by kernel_rfl) (by kernel_rfl) (by kernel_rfl) (fun _ _ _ h => h) (fun w HS => r_slG (s := r) 0 i r.cap (lv := none) (hv := some (VI (i : Int))) (mv := none) rfl el23 rfl rfl rfl (fun w => by exact sbh i (by omega) (by (try simp only [Sl.cut]); omega) w)) HS ?_; refine t_take 5 rfl (by kernel_rfl) (by kernel_rfl) (by kernel_rfl) (fun _ _ _ h => h) (fun w HS => r_ldAA (l := k.1) HS (i := 0) rfl rfl rt29 (show (k.1).length = 32 from k.2)) HS ?_; refine t_take 8 rfl (by kernel_rfl) (by kernel_rfl) (by kernel_rfl) (fun _ _ _ h => h) (fun w HS => r_mv) HS ?_; refine t_take 9 rfl (by kernel_rfl) (by kernel_rfl) (by kernel_rfl) (fun _ _ _ h => h) (fun w HS => r_mv) HS ?_; refine t_take 10 rfl (by kernel_rfl) (by kernel_rfl) (by kernel_rfl) (fun _ _ _ h => h) (fun w HS => r_slG (s := r) i r.len r.cap (lv := some (VI (i : Int))) (hv := none) (mv := none) rfl el23 rfl rfl rfl (fun w => by exact sbl i (by omega) (by (try simp only [Sl.cut]); omega) w)) HS ?_; refine t_all [0, 6] (by kernel_rfl) (by simp) (all_cons (w_op 0 rfl ?_) (all_cons (w_op 6 rfl ?_) (all_nil)))
     ·
      refine (o_bslG0 (α := Id32) (enc := idE) H sl23 zc29 (by decide) (fun b11 w H hb11 => ?_))
      replace H : Hp _ w _ ([_, .own (some b11) 0 0 ((([] : List Id32)).flatMap idE) 29 32]) := H
      refine ⟨H.sub (.cons_cons _ (List.nil_sublist _)), ?_⟩
      replace HS := H.sub (.cons_cons _ (List.nil_sublist _))
      refine t_all [4, 6] (by kernel_rfl) (by simp) (all_cons (w_op 4 rfl ?_) (all_cons (w_op 6 rfl ?_) (all_nil)))
      ·
       refine (o_appG (enc := idE) (s := (Gl.cut r 32 0 i r.cap)) (l' := ((r.l).drop 0).take (i)) (len' := i) rfl (Nat.zero_add _) H (i := 1) rfl sl23 Try.underlying23 rfl rfl ((hr.up H).cut (l := 0) (h := i) (m := r.cap) (by omega) (by (try simp only [Sl.cut]); omega) (by omega) (by (try simp only [Sl.cut]); omega)) (by decide) (fun c _ => idE_all c) (by omega) (by decide) (fun a12 c13 w H => ?_))
       replace H : Hp _ w _ ([_, .own a12 i c13 ((((r.l).drop 0).take (i)).flatMap idE) 29 32]) := H
       refine ⟨H.sub (.cons_cons _ (List.nil_sublist _)), ?_⟩
       replace HS := H.sub (.cons_cons _ (List.nil_sublist _))
       refine t_step 6 rfl (by kernel_rfl) (o_bslG1 (enc := idE) (k) H sl23 zc29 (by rfl) (by decide) (by decide) rfl (idE_len _) (fun b14 w H hb14 => ?_)); replace H : Hp _ w _ ([_, _, .own (some b14) 1 1 (([k]).flatMap idE) 29 32]) := H
       refine ⟨H.sub (.cons_cons _ (List.nil_sublist _)), ?_⟩
       replace HS := H.sub (.cons_cons _ (List.nil_sublist _))
       refine t_step 7 rfl (by kernel_rfl) (o_appG (enc := idE) (s := ⟨hd (some b14), 1, 1, [k]⟩) (l' := ((r.l).drop 0).take (i) ++ ([k])) (len' := i + 1) rfl rfl H (i := 1) rfl sl23 Try.underlying23 rfl rfl (H.glOwn (i := 2) rfl (by decide) (fun c _ => idE_len c)) (by decide) (fun c _ => idE_all c) (by omega) (by decide) (fun a15 c16 w H => ?_)); replace H : Hp _ w _ ([_, .own a15 (i + 1) c16 ((((r.l).drop 0).take (i) ++ ([k])).flatMap idE) 29 32, _]) := H
       refine ⟨H.sub (.cons_cons _ (List.nil_sublist _)), ?_⟩
       replace HS := H.sub (.cons_cons _ (List.nil_sublist _))
       refine t_step 11 rfl (by kernel_rfl) (o_appG (enc := idE) (s := (Gl.cut r 32 i r.len r.cap)) (l' := ((r.l).drop 0).take (i) ++ ([k]) ++ (((r.l).drop i).take (r.len - i))) (len' := i + 1 + (r.len - i)) rfl rfl H (i := 1) rfl sl23 Try.underlying23 rfl rfl ((hr.up H).cut (l := i) (h := r.len) (m := r.cap) (by omega) (by (try simp only [Sl.cut]); omega) (by omega) (by (try simp only [Sl.cut]); omega)) (by decide) (fun c _ => idE_all c) (by omega) (by decide) (fun a17 c18 w H => ?_)); replace H : Hp _ w _ ([_, .own a17 (i + 1 + (r.len - i)) c18 ((((r.l).drop 0).take (i) ++ ([k]) ++ (((r.l).drop i).take (r.len - i))).flatMap idE) 29 32, _]) := H
       refine ⟨H.sub (.cons_cons _ (List.nil_sublist _)), ?_⟩
       replace HS := H.sub (.cons_cons _ (List.nil_sublist _))
       refine t_take 12 rfl (by kernel_rfl) (by kernel_rfl) (by kernel_rfl) (fun _ _ _ h => h) (fun w HS => r_as) HS ?_; refine t_done (by kernel_rfl) ?_
       clear HS
       refine c_ret ?_; try dsimp only [Exit.then, Exit.inBlock]
       refine e_ret1 (v := .slice (hd a17) (i + 1 + (r.len - i)) c18) Try.results29 rfl ?_
       refine ⟨_, rfl, ?_⟩
       exact absurd hk (with_new hris hb (.inr ⟨e6, he7, Decidable.byContradiction fun hn => absurd (lt_tot (by assumption) hn) (by assumption)⟩)).1
      ·
       refine (o_bslG1 (enc := idE) (k) H sl23 zc29 (by rfl) (by decide) (by decide) rfl (idE_len _) (fun b19 w H hb19 => ?_))
       replace H : Hp _ w _ ([_, _, .own (some b19) 1 1 (([k]).flatMap idE) 29 32]) := H
       refine ⟨H.sub (.cons_cons _ (List.nil_sublist _)), ?_⟩
       replace HS := H.sub (.cons_cons _ (List.nil_sublist _))
       refine t_step 4 rfl (by kernel_rfl) (o_appG (enc := idE) (s := (Gl.cut r 32 0 i r.cap)) (l' := ((r.l).drop 0).take (i)) (len' := i) rfl (Nat.zero_add _) H (i := 1) rfl sl23 Try.underlying23 rfl rfl ((hr.up H).cut (l := 0) (h := i) (m := r.cap) (by omega) (by (try simp only [Sl.cut]); omega) (by omega) (by (try simp only [Sl.cut]); omega)) (by decide) (fun c _ => idE_all c) (by omega) (by decide) (fun a20 c21 w H => ?_)); replace H : Hp _ w _ ([_, .own a20 i c21 ((((r.l).drop 0).take (i)).flatMap idE) 29 32, _]) := H
       refine ⟨H.sub (.cons_cons _ (List.nil_sublist _)), ?_⟩
       replace HS := H.sub (.cons_cons _ (List.nil_sublist _))
       refine t_step 7 rfl (by kernel_rfl) (o_appG (enc := idE) (s := ⟨hd (some b19), 1, 1, [k]⟩) (l' := ((r.l).drop 0).take (i) ++ ([k])) (len' := i + 1) rfl rfl H (i := 1) rfl sl23 Try.underlying23 rfl rfl (H.glOwn (i := 2) rfl (by decide) (fun c _ => idE_len c)) (by decide) (fun c _ => idE_all c) (by omega) (by decide) (fun a22 c23 w H => ?_)); replace H : Hp _ w _ ([_, .own a22 (i + 1) c23 ((((r.l).drop 0).take (i) ++ ([k])).flatMap idE) 29 32, _]) := H
       refine ⟨H.sub (.cons_cons _ (List.nil_sublist _)), ?_⟩
       replace HS := H.sub (.cons_cons _ (List.nil_sublist _))
       refine t_step 11 rfl (by kernel_rfl) (o_appG (enc := idE) (s := (Gl.cut r 32 i r.len r.cap)) (l' := ((r.l).drop 0).take (i) ++ ([k]) ++ (((r.l).drop i).take (r.len - i))) (len' := i + 1 + (r.len - i)) rfl rfl H (i := 1) rfl sl23 Try.underlying23 rfl rfl ((hr.up H).cut (l := i) (h := r.len) (m := r.cap) (by omega) (by (try simp only [Sl.cut]); omega) (by omega) (by (try simp only [Sl.cut]); omega)) (by decide) (fun c _ => idE_all c) (by omega) (by decide) (fun a24 c25 w H => ?_)); replace H : Hp _ w _ ([_, .own a24 (i + 1 + (r.len - i)) c25 ((((r.l).drop 0).take (i) ++ ([k]) ++ (((r.l).drop i).take (r.len - i))).flatMap idE) 29 32, _]) := H
       refine ⟨H.sub (.cons_cons _ (List.nil_sublist _)), ?_⟩
       replace HS := H.sub (.cons_cons _ (List.nil_sublist _))
       refine t_take 12 rfl (by kernel_rfl) (by kernel_rfl) (by kernel_rfl) (fun _ _ _ h => h) (fun w HS => r_as) HS ?_; refine t_done (by kernel_rfl) ?_
       clear HS
       refine c_ret ?_; try dsimp only [Exit.then, Exit.inBlock]
       refine e_ret1 (v := .slice (hd a24) (i + 1 + (r.len - i)) c25) Try.results29 rfl ?_
       refine ⟨_, rfl, ?_⟩
       exact absurd hk (with_new hris hb (.inr ⟨e6, he7, Decidable.byContradiction fun hn => absurd (lt_tot (by assumption) hn) (by assumption)⟩)).1
     ·
      refine (o_bslG1 (enc := idE) (k) H sl23 zc29 (by rfl) (by decide) (by decide) rfl (idE_len _) (fun b26 w H hb26 => ?_))
      replace H : Hp _ w _ ([_, .own (some b26) 1 1 (([k]).flatMap idE) 29 32]) := H
      refine ⟨H.sub (.cons_cons _ (List.nil_sublist _)), ?_⟩
      replace HS := H.sub (.cons_cons _ (List.nil_sublist _))
      refine t_step 0 rfl (by kernel_rfl) (o_bslG0 (α := Id32) (enc := idE) H sl23 zc29 (by decide) (fun b27 w H hb27 => ?_)); replace H : Hp _ w _ ([_, _, .own (some b27) 0 0 ((([] : List Id32)).flatMap idE) 29 32]) := H
      refine ⟨H.sub (.cons_cons _ (List.nil_sublist _)), ?_⟩
      replace HS := H.sub (.cons_cons _ (List.nil_sublist _))
      refine t_step 4 rfl (by kernel_rfl) (o_appG (enc := idE) (s := (Gl.cut r 32 0 i r.cap)) (l' := ((r.l).drop 0).take (i)) (len' := i) rfl (Nat.zero_add _) H (i := 2) rfl sl23 Try.underlying23 rfl rfl ((hr.up H).cut (l := 0) (h := i) (m := r.cap) (by omega) (by (try simp only [Sl.cut]); omega) (by omega) (by (try simp only [Sl.cut]); omega)) (by decide) (fun c _ => idE_all c) (by omega) (by decide) (fun a28 c29 w H => ?_)); replace H : Hp _ w _ ([_, _, .own a28 i c29 ((((r.l).drop 0).take (i)).flatMap idE) 29 32]) := H
      refine ⟨H.sub (.cons_cons _ (List.nil_sublist _)), ?_⟩
      replace HS := H.sub (.cons_cons _ (List.nil_sublist _))
      refine t_step 7 rfl (by kernel_rfl) (o_appG (enc := idE) (s := ⟨hd (some b26), 1, 1, [k]⟩) (l' := ((r.l).drop 0).take (i) ++ ([k])) (len' := i + 1) rfl rfl H (i := 2) rfl sl23 Try.underlying23 rfl rfl (H.glOwn (i := 1) rfl (by decide) (fun c _ => idE_len c)) (by decide) (fun c _ => idE_all c) (by omega) (by decide) (fun a30 c31 w H => ?_)); replace H : Hp _ w _ ([_, _, .own a30 (i + 1) c31 ((((r.l).drop 0).take (i) ++ ([k])).flatMap idE) 29 32]) := H
      refine ⟨H.sub (.cons_cons _ (List.nil_sublist _)), ?_⟩
      replace HS := H.sub (.cons_cons _ (List.nil_sublist _))
      refine t_step 11 rfl (by kernel_rfl) (o_appG (enc := idE) (s := (Gl.cut r 32 i r.len r.cap)) (l' := ((r.l).drop 0).take (i) ++ ([k]) ++ (((r.l).drop i).take (r.len - i))) (len' := i + 1 + (r.len - i)) rfl rfl H (i := 2) rfl sl23 Try.underlying23 rfl rfl ((hr.up H).cut (l := i) (h := r.len) (m := r.cap) (by omega) (by (try simp only [Sl.cut]); omega) (by omega) (by (try simp only [Sl.cut]); omega)) (by decide) (fun c _ => idE_all c) (by omega) (by decide) (fun a32 c33 w H => ?_)); replace H : Hp _ w _ ([_, _, .own a32 (i + 1 + (r.len - i)) c33 ((((r.l).drop 0).take (i) ++ ([k]) ++ (((r.l).drop i).take (r.len - i))).flatMap idE) 29 32]) := H
      refine ⟨H.sub (.cons_cons _ (List.nil_sublist _)), ?_⟩
      replace HS := H.sub (.cons_cons _ (List.nil_sublist _))
      refine t_take 12 rfl (by kernel_rfl) (by kernel_rfl) (by kernel_rfl) (fun _ _ _ h => h) (fun w HS => r_as) HS ?_; refine t_done (by kernel_rfl) ?_
      clear HS
      refine c_ret ?_; try dsimp only [Exit.then, Exit.inBlock]
      refine e_ret1 (v := .slice (hd a32) (i + 1 + (r.len - i)) c33) Try.results29 rfl ?_
      refine ⟨_, rfl, ?_⟩
      exact absurd hk (with_new hris hb (.inr ⟨e6, he7, Decidable.byContradiction fun hn => absurd (lt_tot (by assumption) hn) (by assumption)⟩)).1
  ·
   refine t_no 5 rfl (by kernel_rfl) (by kernel_rfl) (by kernel_rfl) (fun _ _ _ h => h) (yielded_mk _ _ _ rfl _ rfl (by exact congrArg Value.bool (decide_eq_false hc2))) rfl HS ?_; refine t_no 6 rfl (by kernel_rfl) (by kernel_rfl) (by kernel_rfl) (fun _ _ _ h => h) (yielded_mk _ _ _ rfl _ rfl (by exact congrArg Value.bool (decide_eq_false hc2))) rfl HS ?_; refine t_no 7 rfl (by kernel_rfl) (by kernel_rfl) (by kernel_rfl) (fun _ _ _ h => h) (yielded_mk _ _ _ rfl _ rfl (by exact congrArg Value.bool (decide_eq_false hc2))) rfl HS ?_; refine t_no 8 rfl (by kernel_rfl) (by kernel_rfl) (by kernel_rfl) (fun _ _ _ h => h) (yielded_mk _ _ _ rfl _ rfl (by exact congrArg Value.bool (decide_eq_false hc2))) rfl HS ?_; refine t_no 9 rfl (by kernel_rfl) (by kernel_rfl) (by kernel_rfl) (fun _ _ _ h => h) (yielded_mk _ _ _ rfl _ rfl (by exact congrArg Value.bool (decide_eq_false hc2))) rfl HS ?_; refine t_no 10 rfl (by kernel_rfl) (by kernel_rfl) (by kernel_rfl) (fun _ _ _ h => h) (yielded_mk _ _ _ rfl _ rfl (by exact congrArg Value.bool (decide_eq_false hc2))) rfl HS ?_; refine t_take 11 rfl (by kernel_rfl) (by kernel_rfl) (by kernel_rfl) (fun _ _ _ h => h) (fun w HS => r_pick (b := false) (congrArg Value.bool (decide_eq_false hc2))) HS ?_; refine t_done (by kernel_rfl) ?_
   clear HS
   repeat refine c_seq ?_
   refine c_no rfl ?_; refine c_exit ?_; repeat refine c_seq ?_
   refine c_still mixed (by kernel_rfl) ?_; replace H := H.drew
   refine s_op (r_mv) ?_; refine s_op (r_mv) ?_; refine s_op (r_lens el23 rfl) ?_; refine s_op (r_bin (a := (i : Int)) (b := (r.len : Int)) rfl rfl (fun _ => b_lss)) ?_; refine s_op (r_mv) ?_; refine s_no rfl rfl (by exact congrArg Value.bool (decide_eq_false hc2)) rfl ?_; refine s_no rfl rfl (by exact congrArg Value.bool (decide_eq_false hc2)) rfl ?_; refine s_no rfl rfl (by exact congrArg Value.bool (decide_eq_false hc2)) rfl ?_; refine s_no rfl rfl (by exact congrArg Value.bool (decide_eq_false hc2)) rfl ?_; refine s_no rfl rfl (by exact congrArg Value.bool (decide_eq_false hc2)) rfl ?_; refine s_no rfl rfl (by exact congrArg Value.bool (decide_eq_false hc2)) rfl ?_; refine s_op (r_pick (b := false) (congrArg Value.bool (decide_eq_false hc2))) ?_; refine s_nil ?_; repeat refine c_seq ?_
   refine c_no rfl ?_; refine c_skip ?_; repeat refine c_seq ?_
   refine wp_held (fun w => Hp w0 w [] [.blk b1 ((k.1).map V8) 29]) mixed ?_; replace H := H.drew
   have HS := H
   refine t_take 1 rfl (by kernel_rfl) (by kernel_rfl) (by kernel_rfl) (fun _ _ _ h => h) (fun w HS => r_mv) HS ?_; refine t_take 2 rfl (by kernel_rfl) (by kernel_rfl) (by kernel_rfl) (fun _ _ _ h => h) (fun w HS => r_mv) HS ?_; refine t_take 3 rfl (by kernel_rfl) (by kernel_rfl) (by kernel_rfl) (fun _ _ _ h => h) (fun w HS => r_slG (s := r) 0 i r.cap (lv := none) (hv := some (VI (i : Int))) (mv := none) rfl el23 rfl rfl rfl (fun w => by exact sbh i (by omega) (by (try simp only [Sl.cut]); omega) w)) HS ?_; refine t_take 5 rfl (by kernel_rfl) (by kernel_rfl) (by kernel_rfl) (fun _ _ _ h => h) (fun w HS => r_ldAA (l := k.1) HS (i := 0) rfl rfl rt29 (show (k.1).length = 32 from k.2)) HS ?_; refine t_take 8 rfl (by kernel_rfl) (by kernel_rfl) (by kernel_rfl) (fun _ _ _ h => h) (fun w HS => r_mv) HS ?_; refine t_take 9 rfl (by kernel_rfl) (by kernel_rfl) (by kernel_rfl) (fun _ _ _ h => h) (fun w HS => r_mv) HS ?_; refine t_take 10 rfl (by kernel_rfl) (by kernel_rfl) (by kernel_rfl) (fun _ _ _ h => h) (fun w HS => r_slG (s := r) i r.len r.cap (lv := some (VI (i : Int))) (hv := none) (mv := none) rfl el23 rfl rfl rfl (fun w => by exact sbl i (by omega) (by (try simp only [Sl.cut]); omega) w)) HS ?_; refine t_all [0, 6] (by kernel_rfl) (by simp) (all_cons (w_op 0 rfl ?_) (all_cons (w_op 6 rfl ?_) (all_nil)))
   ·
    refine (o_bslG0 (α := Id32) (enc := idE) H sl23 zc29 (by decide) (fun b34 w H hb34 => ?_))
    replace H : Hp _ w _ ([_, .own (some b34) 0 0 ((([] : List Id32)).flatMap idE) 29 32]) := H
    refine ⟨H.sub (.cons_cons _ (List.nil_sublist _)), ?_⟩
    replace HS := H.sub (.cons_cons _ (List.nil_sublist _))
    refine t_all [4, 6] (by kernel_rfl) (by simp) (all_cons (w_op 4 rfl ?_) (all_cons (w_op 6 rfl ?_) (all_nil)))
    ·
     refine (o_appG (enc := idE) (s := (Gl.cut r 32 0 i r.cap)) (l' := ((r.l).drop 0).take (i)) (len' := i) rfl (Nat.zero_add _) H (i := 1) rfl sl23 Try.underlying23 rfl rfl ((hr.up H).cut (l := 0) (h := i) (m := r.cap) (by omega) (by (try simp only [Sl.cut]); omega) (by omega) (by (try simp only [Sl.cut]); omega)) (by decide) (fun c _ => idE_all c) (by omega) (by decide) (fun a35 c36 w H => ?_))
     replace H : Hp _ w _ ([_, .own a35 i c36 ((((r.l).drop 0).take (i)).flatMap idE) 29 32]) := H
     refine ⟨H.sub (.cons_cons _ (List.nil_sublist _)), ?_⟩
     replace HS := H.sub (.cons_cons _ (List.nil_sublist _))
     refine t_step 6 rfl (by kernel_rfl) (o_bslG1 (enc := idE) (k) H sl23 zc29 (by rfl) (by decide) (by decide) rfl (idE_len _) (fun b37 w H hb37 => ?_)); replace H : Hp _ w _ ([_, _, .own (some b37) 1 1 (([k]).flatMap idE) 29 32]) := H
     refine ⟨H.sub (.cons_cons _ (List.nil_sublist _)), ?_⟩
     replace HS := H.sub (.cons_cons _ (List.nil_sublist _))
     refine t_step 7 rfl (by kernel_rfl) (o_appG (enc := idE) (s := ⟨hd (some b37), 1, 1, [k]⟩) (l' := ((r.l).drop 0).take (i) ++ ([k])) (len' := i + 1) rfl rfl H (i := 1) rfl sl23 Try.underlying23 rfl rfl (H.glOwn (i := 2) rfl (by decide) (fun c _ => idE_len c)) (by decide) (fun c _ => idE_all c) (by omega) (by decide) (fun a38 c39 w H => ?_)); replace H : Hp _ w _ ([_, .own a38 (i + 1) c39 ((((r.l).drop 0).take (i) ++ ([k])).flatMap idE) 29 32, _]) := H
     refine ⟨H.sub (.cons_cons _ (List.nil_sublist _)), ?_⟩
     replace HS := H.sub (.cons_cons _ (List.nil_sublist _))
     refine t_step 11 rfl (by kernel_rfl) (o_appG (enc := idE) (s := (Gl.cut r 32 i r.len r.cap)) (l' := ((r.l).drop 0).take (i) ++ ([k]) ++ (((r.l).drop i).take (r.len - i))) (len' := i + 1 + (r.len - i)) rfl rfl H (i := 1) rfl sl23 Try.underlying23 rfl rfl ((hr.up H).cut (l := i) (h := r.len) (m := r.cap) (by omega) (by (try simp only [Sl.cut]); omega) (by omega) (by (try simp only [Sl.cut]); omega)) (by decide) (fun c _ => idE_all c) (by omega) (by decide) (fun a40 c41 w H => ?_)); replace H : Hp _ w _ ([_, .own a40 (i + 1 + (r.len - i)) c41 ((((r.l).drop 0).take (i) ++ ([k]) ++ (((r.l).drop i).take (r.len - i))).flatMap idE) 29 32, _]) := H
     refine ⟨H.sub (.cons_cons _ (List.nil_sublist _)), ?_⟩
     replace HS := H.sub (.cons_cons _ (List.nil_sublist _))
     refine t_take 12 rfl (by kernel_rfl) (by kernel_rfl) (by kernel_rfl) (fun _ _ _ h => h) (fun w HS => r_as) HS ?_; refine t_done (by kernel_rfl) ?_
     clear HS
     refine c_ret ?_; try dsimp only [Exit.then, Exit.inBlock]
     refine e_ret1 (v := .slice (hd a40) (i + 1 + (r.len - i)) c41) Try.results29 rfl ?_
     refine ⟨_, rfl, ?_⟩
     exact absurd hk (with_new hris hb (.inl (by omega))).1
    ·
     refine (o_bslG1 (enc := idE) (k) H sl23 zc29 (by rfl) (by decide) (by decide) rfl (idE_len _) (fun b42 w H hb42 => ?_))
     replace H : Hp _ w _ ([_, _, .own (some b42) 1 1 (([k]).flatMap idE) 29 32]) := H
     refine ⟨H.sub (.cons_cons _ (List.nil_sublist _)), ?_⟩
     replace HS := H.sub (.cons_cons _ (List.nil_sublist _))
     refine t_step 4 rfl (by kernel_rfl) (o_appG (enc := idE) (s := (Gl.cut r 32 0 i r.cap)) (l' := ((r.l).drop 0).take (i)) (len' := i) rfl (Nat.zero_add _) H (i := 1) rfl sl23 Try.underlying23 rfl rfl ((hr.up H).cut (l := 0) (h := i) (m := r.cap) (by omega) (by (try simp only [Sl.cut]); omega) (by omega) (by (try simp only [Sl.cut]); omega)) (by decide) (fun c _ => idE_all c) (by omega) (by decide) (fun a43 c44 w H => ?_)); replace H : Hp _ w _ ([_, .own a43 i c44 ((((r.l).drop 0).take (i)).flatMap idE) 29 32, _]) := H
     refine ⟨H.sub (.cons_cons _ (List.nil_sublist _)), ?_⟩
     replace HS := H.sub (.cons_cons _ (List.nil_sublist _))
     refine t_step 7 rfl (by kernel_rfl) (o_appG (enc := idE) (s := ⟨hd (some b42), 1, 1, [k]⟩) (l' := ((r.l).drop 0).take (i) ++ ([k])) (len' := i + 1) rfl rfl H (i := 1) rfl sl23 Try.underlying23 rfl rfl (H.glOwn (i := 2) rfl (by decide) (fun c _ => idE_len c)) (by decide) (fun c _ => idE_all c) (by omega) (by decide) (fun a45 c46 w H => ?_)); replace H : Hp _ w _ ([_, .own a45 (i + 1) c46 ((((r.l).drop 0).take (i) ++ ([k])).flatMap idE) 29 32, _]) := H
     refine ⟨H.sub (.cons_cons _ (List.nil_sublist _)), ?_⟩
     replace HS := H.sub (.cons_cons _ (List.nil_sublist _))
     refine t_step 11 rfl (by kernel_rfl) (o_appG (enc := idE) (s := (Gl.cut r 32 i r.len r.cap)) (l' := ((r.l).drop 0).take (i) ++ ([k]) ++ (((r.l).drop i).take (r.len - i))) (len' := i + 1 + (r.len - i)) rfl rfl H (i := 1) rfl sl23 Try.underlying23 rfl rfl ((hr.up H).cut (l := i) (h := r.len) (m := r.cap) (by omega) (by (try simp only [Sl.cut]); omega) (by omega) (by (try simp only [Sl.cut]); omega)) (by decide) (fun c _ => idE_all c) (by omega) (by decide) (fun a47 c48 w H => ?_)); replace H : Hp _ w _ ([_, .own a47 (i + 1 + (r.len - i)) c48 ((((r.l).drop 0).take (i) ++ ([k]) ++ (((r.l).drop i).take (r.len - i))).flatMap idE) 29 32, _]) := H
     refine ⟨H.sub (.cons_cons _ (List.nil_sublist _)), ?_⟩
     replace HS := H.sub (.cons_cons _ (List.nil_sublist _))
     refine t_take 12 rfl (by kernel_rfl) (by kernel_rfl) (by kernel_rfl) (fun _ _ _ h => h) (fun w HS => r_as) HS ?_; refine t_done (by kernel_rfl) ?_
     clear HS
     refine c_ret ?_; try dsimp only [Exit.then, Exit.inBlock]
     refine e_ret1 (v := .slice (hd a47) (i + 1 + (r.len - i)) c48) Try.results29 rfl ?_
     refine ⟨_, rfl, ?_⟩
     exact absurd hk (with_new hris hb (.inl (by omega))).1
   ·
    refine (o_bslG1 (enc := idE) (k) H sl23 zc29 (by rfl) (by decide) (by decide) rfl (idE_len _) (fun b49 w H hb49 => ?_))
    replace H : Hp _ w _ ([_, .own (some b49) 1 1 (([k]).flatMap idE) 29 32]) := H
    refine ⟨H.sub (.cons_cons _ (List.nil_sublist _)), ?_⟩
    replace HS := H.sub (.cons_cons _ (List.nil_sublist _))
    refine t_step 0 rfl (by kernel_rfl) (o_bslG0 (α := Id32) (enc := idE) H sl23 zc29 (by decide) (fun b50 w H hb50 => ?_)); replace H : Hp _ w _ ([_, _, .own (some b50) 0 0 ((([] : List Id32)).flatMap idE) 29 32]) := H
    refine ⟨H.sub (.cons_cons _ (List.nil_sublist _)), ?_⟩
    replace HS := H.sub (.cons_cons _ (List.nil_sublist _))
    refine t_step 4 rfl (by kernel_rfl) (o_appG (enc := idE) (s := (Gl.cut r 32 0 i r.cap)) (l' := ((r.l).drop 0).take (i)) (len' := i) rfl (Nat.zero_add _) H (i := 2) rfl sl23 Try.underlying23 rfl rfl ((hr.up H).cut (l := 0) (h := i) (m := r.cap) (by omega) (by (try simp only [Sl.cut]); omega) (by omega) (by (try simp only [Sl.cut]); omega)) (by decide) (fun c _ => idE_all c) (by omega) (by decide) (fun a51 c52 w H => ?_)); replace H : Hp _ w _ ([_, _, .own a51 i c52 ((((r.l).drop 0).take (i)).flatMap idE) 29 32]) := H
    refine ⟨H.sub (.cons_cons _ (List.nil_sublist _)), ?_⟩
    replace HS := H.sub (.cons_cons _ (List.nil_sublist _))
    refine t_step 7 rfl (by kernel_rfl) (o_appG (enc := idE) (s := ⟨hd (some b49), 1, 1, [k]⟩) (l' := ((r.l).drop 0).take (i) ++ ([k])) (len' := i + 1) rfl rfl H (i := 2) rfl sl23 Try.underlying23 rfl rfl (H.glOwn (i := 1) rfl (by decide) (fun c _ => idE_len c)) (by decide) (fun c _ => idE_all c) (by omega) (by decide) (fun a53 c54 w H => ?_)); replace H : Hp _ w _ ([_, _, .own a53 (i + 1) c54 ((((r.l).drop 0).take (i) ++ ([k])).flatMap idE) 29 32]) := H
    refine ⟨H.sub (.cons_cons _ (List.nil_sublist _)), ?_⟩
    replace HS := H.sub (.cons_cons _ (List.nil_sublist _))
    refine t_step 11 rfl (by kernel_rfl) (o_appG (enc := idE) (s := (Gl.cut r 32 i r.len r.cap)) (l' := ((r.l).drop 0).take (i) ++ ([k]) ++ (((r.l).drop i).take (r.len - i))) (len' := i + 1 + (r.len - i)) rfl rfl H (i := 2) rfl sl23 Try.underlying23 rfl rfl ((hr.up H).cut (l := i) (h := r.len) (m := r.cap) (by omega) (by (try simp only [Sl.cut]); omega) (by omega) (by (try simp only [Sl.cut]); omega)) (by decide) (fun c _ => idE_all c) (by omega) (by decide) (fun a55 c56 w H => ?_)); replace H : Hp _ w _ ([_, _, .own a55 (i + 1 + (r.len - i)) c56 ((((r.l).drop 0).take (i) ++ ([k]) ++ (((r.l).drop i).take (r.len - i))).flatMap idE) 29 32]) := H
    refine ⟨H.sub (.cons_cons _ (List.nil_sublist _)), ?_⟩
    replace HS := H.sub (.cons_cons _ (List.nil_sublist _))
    refine t_take 12 rfl (by kernel_rfl) (by kernel_rfl) (by kernel_rfl) (fun _ _ _ h => h) (fun w HS => r_as) HS ?_; refine t_done (by kernel_rfl) ?_
    clear HS
    refine c_ret ?_; try dsimp only [Exit.then, Exit.inBlock]
    refine e_ret1 (v := .slice (hd a55) (i + 1 + (r.len - i)) c56) Try.results29 rfl ?_
    refine ⟨_, rfl, ?_⟩
    exact absurd hk (with_new hris hb (.inl (by omega))).1
theorem with_out (w0 : World) (r : Gl Id32) (hr : r.ok idE 32 w0) (k : Id32) (hris : RisA r.l) (hrm : r.len ≤ 16777216) (hk : k ∉ r.l) :
    Ret Try.prog 29 [r.v, .agg ((k.1).map V8).toArray] w0 fun v w' => ∃ a c R, (RisA R ∧ (∀ x, x ∈ R ↔ x = k ∨ x ∈ r.l) ∧ R.length = r.len + 1) ∧ v = .slice (hd a) R.length c ∧ Hp w0 w' [] [.own a R.length c (R.flatMap idE) 29 32] := by
  refine ret_mk Try.func29 rfl Try.ntmps29 (by simp) ?_
  have H := Hp.refl w0 []
  have hrl := hr.ln
  have hrc := hr.le
  repeat refine c_seq ?_
  refine c_region ?_; refine l_op (o_box (v := .agg ((k.1).map V8).toArray) H rfl (fun b1 w H hb1 => ?_)); replace H : Hp _ w _ ([.blk b1 ((k.1).map V8) 29]) := H
  refine l_op (o_val r_as ?_); first | refine l_end ?_ | refine l_nil ?_
  repeat refine c_seq ?_
  refine c_region ?_; refine l_op (o_val r_as ?_); first | refine l_end ?_ | refine l_nil ?_
  repeat refine c_seq ?_
  refine c_block ?_; repeat refine c_seq ?_
  refine c_loop (fun (i : Nat) => [(0, r.v), (3, .pointer (some ⟨b1, 0, none⟩)), (5, VI (i : Int))])
    (fun (i : Nat) w => (i ≤ r.len ∧ ∀ x ∈ r.l.take i, x.1 < k.1) ∧ Hp w0 w [] ([.blk b1 ((k.1).map V8) 29]))
    (fun (i : Nat) => r.len - i) 0 ⟨rfl, rfl, rfl, trivial⟩ ⟨⟨Nat.zero_le _, fun x hx => (by rw [List.take_zero] at hx; cases hx)⟩, H⟩ ?_
  clear H
  rintro i τ w ⟨⟨hil, hb⟩, H⟩
  repeat refine c_seq ?_
  refine wp_held (fun w => Hp w0 w [] [.blk b1 ((k.1).map V8) 29]) mixed ?_; replace H := H.drew
  have HS := H
  refine t_take 0 rfl (by kernel_rfl) (by kernel_rfl) (by kernel_rfl) (fun _ _ _ h => h) (fun w HS => r_mv) HS ?_; refine t_take 1 rfl (by kernel_rfl) (by kernel_rfl) (by kernel_rfl) (fun _ _ _ h => h) (fun w HS => r_mv) HS ?_; refine t_take 2 rfl (by kernel_rfl) (by kernel_rfl) (by kernel_rfl) (fun _ _ _ h => h) (fun w HS => r_lens el23 rfl) HS ?_; refine t_take 3 rfl (by kernel_rfl) (by kernel_rfl) (by kernel_rfl) (fun _ _ _ h => h) (fun w HS => r_bin (a := (i : Int)) (b := (r.len : Int)) rfl rfl (fun _ => b_lss)) HS ?_; refine t_take 4 rfl (by kernel_rfl) (by kernel_rfl) (by kernel_rfl) (fun _ _ _ h => h) (fun w HS => r_mv) HS ?_
  by_cases hc2 : (i : Int) < (r.len : Int)
  ·
   refine t_takeg 5 rfl (by kernel_rfl) (by kernel_rfl) (by kernel_rfl) (fun _ _ _ h => h) (yielded_mk _ _ _ rfl _ rfl (by exact congrArg Value.bool (decide_eq_true hc2))) (fun w HS => r_mv) HS ?_; refine t_takeg 6 rfl (by kernel_rfl) (by kernel_rfl) (by kernel_rfl) (fun _ _ _ h => h) (yielded_mk _ _ _ rfl _ rfl (by exact congrArg Value.bool (decide_eq_true hc2))) (fun w HS => r_mv) HS ?_; have ah5 := ((hr.up HS)).addr (by decide) (by first | omega | (dsimp only; omega))
   obtain ⟨ab3, ao4, ah5⟩ := ah5
   refine t_takeg 7 rfl (by kernel_rfl) (by kernel_rfl) (by kernel_rfl) (fun _ _ _ h => h) (yielded_mk _ _ _ rfl _ rfl (by exact congrArg Value.bool (decide_eq_true hc2))) (fun w HS => r_isN i rfl rfl el23 ah5 (by omega) (by (try simp only [Sl.cut]); omega)) HS ?_; have he7 : ∃ c, r.l[i]? = some c := ⟨_, List.getElem?_eq_getElem (by have := ((hr.up HS)).ln; (try dsimp only at this ⊢); omega)⟩
   obtain ⟨e6, he7⟩ := he7
   have hez8 := ((hr.up HS)).sz e6 (List.mem_of_getElem? he7)
   refine t_takeg 8 rfl (by kernel_rfl) (by kernel_rfl) (by kernel_rfl) (fun _ _ _ h => h) (yielded_mk _ _ _ rfl _ rfl (by exact congrArg Value.bool (decide_eq_true hc2))) (fun w HS => r_ldRow (s := r) (k := i) (hr.up HS) ah5 rfl rt29 (by decide) he7) HS ?_; refine t_takeg 9 rfl (by kernel_rfl) (by kernel_rfl) (by kernel_rfl) (fun _ _ _ h => h) (yielded_mk _ _ _ rfl _ rfl (by exact congrArg Value.bool (decide_eq_true hc2))) (fun w HS => r_ldAA (l := k.1) HS (i := 0) rfl rfl rt29 (show (k.1).length = 32 from k.2)) HS ?_; refine t_stepg 10 rfl (by kernel_rfl) (yielded_mk _ _ _ rfl _ rfl (by exact congrArg Value.bool (decide_eq_true hc2))) (o_callR Try.func45 rfl rfl rfl (less_ret _ e6 k) ?_); rintro _ w ⟨rfl, Hc⟩
   replace H : Hp _ w _ ([_]) := H.call Hc
   clear Hc
   refine ⟨H, ?_⟩
   replace HS := H
   refine t_take 11 rfl (by kernel_rfl) (by kernel_rfl) (by kernel_rfl) (fun _ _ _ h => h) (fun w HS => r_pick (b := true) (congrArg Value.bool (decide_eq_true hc2))) HS ?_; refine t_done (by kernel_rfl) ?_
   clear HS
   by_cases hc9 : e6.1 < k.1
   ·
    repeat refine c_seq ?_
    refine c_yes (by exact congrArg Value.bool (decide_eq_true hc9)) ?_; refine c_skip ?_; repeat refine c_seq ?_
    refine c_block ?_; repeat refine c_seq ?_
    refine c_region ?_; refine l_op (o_val r_mv ?_); refine l_op (o_val (r_bin (a := (i : Int)) (b := 1) rfl rfl (fun _ => b_add (by omega) (by omega))) ?_); refine l_op (o_val r_as ?_); first | refine l_end ?_ | refine l_nil ?_
    refine round_end (i + 1) ?_ ?_ ?_
    · exact ⟨rfl, rfl, show VI ((i : Int) + 1) = VI ((i + 1 : Nat) : Int) from congrArg VI (by omega), trivial⟩
    · refine ⟨?_, ?_⟩
      · try dsimp only
        exact ⟨by omega, fun x hx => by rw [take_snocG he7] at hx; exact (mem_last hx).elim (hb x) (fun e => by rw [e]; assumption)⟩
      · exact H
    · show r.len - (i + 1 : Nat) < r.len - i; omega
   ·
    repeat refine c_seq ?_
    refine c_no (by exact congrArg Value.bool (decide_eq_false hc9)) ?_; refine c_exit ?_; repeat refine c_seq ?_
    refine c_still mixed (by kernel_rfl) ?_; replace H := H.drew
    refine s_op (r_mv) ?_; refine s_op (r_mv) ?_; refine s_op (r_lens el23 rfl) ?_; refine s_op (r_bin (a := (i : Int)) (b := (r.len : Int)) rfl rfl (fun _ => b_lss)) ?_; refine s_op (r_mv) ?_; refine s_yes rfl rfl (by exact congrArg Value.bool (decide_eq_true hc2)) (r_mv) ?_; refine s_yes rfl rfl (by exact congrArg Value.bool (decide_eq_true hc2)) (r_mv) ?_; refine s_yes rfl rfl (by exact congrArg Value.bool (decide_eq_true hc2)) (r_isN i rfl rfl el23 ah5 (by omega) (by (try simp only [Sl.cut]); omega)) ?_; refine s_yes rfl rfl (by exact congrArg Value.bool (decide_eq_true hc2)) (r_ldRow (s := r) (k := i) (hr.up H) ah5 rfl rt29 (by decide) he7) ?_; refine s_yes rfl rfl (by exact congrArg Value.bool (decide_eq_true hc2)) (r_ldAA (l := k.1) H (i := 0) rfl rfl rt29 (show (k.1).length = 32 from k.2)) ?_; refine s_yes rfl rfl (by exact congrArg Value.bool (decide_eq_true hc2)) (r_eqa (a := e6.1) (b := k.1) Try.underlying29 Try.underlying5 cs5 rfl rfl (show (e6.1).length = 32 from e6.2) (show (k.1).length = 32 from k.2)) ?_; refine s_op (r_pick (b := true) (congrArg Value.bool (decide_eq_true hc2))) ?_; refine s_nil ?_
    by_cases hc10 : e6.1 = k.1
    ·
     repeat refine c_seq ?_
     refine c_yes (by exact congrArg Value.bool (decide_eq_true hc10)) ?_; repeat refine c_seq ?_
     refine c_region ?_; refine l_op (o_val r_mv ?_); refine l_op (o_val r_as ?_); first | refine l_end ?_ | refine l_nil ?_
     refine c_ret ?_; try dsimp only [Exit.then, Exit.inBlock]
     refine e_ret1 (v := r.v) Try.results29 rfl ?_
     refine ⟨_, rfl, ?_⟩
     have hek : e6 = k := Subtype.ext (by assumption)
     exact absurd (by rw [← hek]; exact List.mem_of_getElem? he7) hk
    ·
     repeat refine c_seq ?_
     refine c_no (by exact congrArg Value.bool (decide_eq_false hc10)) ?_; refine c_skip ?_; repeat refine c_seq ?_
     refine wp_held (fun w => Hp w0 w [] [.blk b1 ((k.1).map V8) 29]) mixed ?_; replace H := H.drew
     have HS := H
     refine t_take 1 rfl (by kernel_rfl) (by kernel_rfl) (by kernel_rfl) (fun _ _ _ h => h) (fun w HS => r_mv) HS ?_; refine t_take 2 rfl (by kernel_rfl) (by kernel_rfl) (by kernel_rfl) (fun _ _ _ h => h) (fun w HS => r_mv) HS ?_; refine t_take 3 rfl (by kernel_rfl) (by kernel_rfl) (by kernel_rfl) (fun _ _ _ h => h) (fun w HS => r_slG (s := r) 0 i r.cap (lv := none) (hv := some (VI (i : Int))) (mv := none) rfl el23 rfl rfl rfl (fun w => by exact sbh i (by omega) (by (try simp only [Sl.cut]); omega) w)) HS ?_; refine t_take 5 rfl (by kernel_rfl) (by kernel_rfl) (by kernel_rfl) (fun _ _ _ h => h) (fun w HS => r_ldAA (l := k.1) HS (i := 0) rfl rfl rt29 (show (k.1).length = 32 from k.2)) HS ?_; refine t_take 8 rfl (by kernel_rfl) (by kernel_rfl) (by kernel_rfl) (fun _ _ _ h => h) (fun w HS => r_mv) HS ?_; refine t_take 9 rfl (by kernel_rfl) (by kernel_rfl) (by kernel_rfl) (fun _ _ _ h => h) (fun w HS => r_mv) HS ?_; refine t_take 10 rfl (by kernel_rfl) (by kernel_rfl) (by kernel_rfl) (fun _ _ _ h => h) (fun w HS => r_slG (s := r) i r.len r.cap (lv := some (VI (i : Int))) (hv := none) (mv := none) rfl el23 rfl rfl rfl (fun w => by exact sbl i (by omega) (by (try simp only [Sl.cut]); omega) w)) HS ?_; refine t_all [0, 6] (by kernel_rfl) (by simp) (all_cons (w_op 0 rfl ?_) (all_cons (w_op 6 rfl ?_) (all_nil)))
     ·
      refine (o_bslG0 (α := Id32) (enc := idE) H sl23 zc29 (by decide) (fun b11 w H hb11 => ?_))
      replace H : Hp _ w _ ([_, .own (some b11) 0 0 ((([] : List Id32)).flatMap idE) 29 32]) := H
      refine ⟨H.sub (.cons_cons _ (List.nil_sublist _)), ?_⟩
      replace HS := H.sub (.cons_cons _ (List.nil_sublist _))
      refine t_all [4, 6] (by kernel_rfl) (by simp) (all_cons (w_op 4 rfl ?_) (all_cons (w_op 6 rfl ?_) (all_nil)))
      ·
       refine (o_appG (enc := idE) (s := (Gl.cut r 32 0 i r.cap)) (l' := ((r.l).drop 0).take (i)) (len' := i) rfl (Nat.zero_add _) H (i := 1) rfl sl23 Try.underlying23 rfl rfl ((hr.up H).cut (l := 0) (h := i) (m := r.cap) (by omega) (by (try simp only [Sl.cut]); omega) (by omega) (by (try simp only [Sl.cut]); omega)) (by decide) (fun c _ => idE_all c) (by omega) (by decide) (fun a12 c13 w H => ?_))
       replace H : Hp _ w _ ([_, .own a12 i c13 ((((r.l).drop 0).take (i)).flatMap idE) 29 32]) := H
       refine ⟨H.sub (.cons_cons _ (List.nil_sublist _)), ?_⟩
       replace HS := H.sub (.cons_cons _ (List.nil_sublist _))
       refine t_step 6 rfl (by kernel_rfl) (o_bslG1 (enc := idE) (k) H sl23 zc29 (by rfl) (by decide) (by decide) rfl (idE_len _) (fun b14 w H hb14 => ?_)); replace H : Hp _ w _ ([_, _, .own (some b14) 1 1 (([k]).flatMap idE) 29 32]) := H
       refine ⟨H.sub (.cons_cons _ (List.nil_sublist _)), ?_⟩
       replace HS := H.sub (.cons_cons _ (List.nil_sublist _))
       refine t_step 7 rfl (by kernel_rfl) (o_appG (enc := idE) (s := ⟨hd (some b14), 1, 1, [k]⟩) (l' := ((r.l).drop 0).take (i) ++ ([k])) (len' := i + 1) rfl rfl H (i := 1) rfl sl23 Try.underlying23 rfl rfl (H.glOwn (i := 2) rfl (by decide) (fun c _ => idE_len c)) (by decide) (fun c _ => idE_all c) (by omega) (by decide) (fun a15 c16 w H => ?_)); replace H : Hp _ w _ ([_, .own a15 (i + 1) c16 ((((r.l).drop 0).take (i) ++ ([k])).flatMap idE) 29 32, _]) := H
       refine ⟨H.sub (.cons_cons _ (List.nil_sublist _)), ?_⟩
       replace HS := H.sub (.cons_cons _ (List.nil_sublist _))
       refine t_step 11 rfl (by kernel_rfl) (o_appG (enc := idE) (s := (Gl.cut r 32 i r.len r.cap)) (l' := ((r.l).drop 0).take (i) ++ ([k]) ++ (((r.l).drop i).take (r.len - i))) (len' := i + 1 + (r.len - i)) rfl rfl H (i := 1) rfl sl23 Try.underlying23 rfl rfl ((hr.up H).cut (l := i) (h := r.len) (m := r.cap) (by omega) (by (try simp only [Sl.cut]); omega) (by omega) (by (try simp only [Sl.cut]); omega)) (by decide) (fun c _ => idE_all c) (by omega) (by decide) (fun a17 c18 w H => ?_)); replace H : Hp _ w _ ([_, .own a17 (i + 1 + (r.len - i)) c18 ((((r.l).drop 0).take (i) ++ ([k]) ++ (((r.l).drop i).take (r.len - i))).flatMap idE) 29 32, _]) := H
       refine ⟨H.sub (.cons_cons _ (List.nil_sublist _)), ?_⟩
       replace HS := H.sub (.cons_cons _ (List.nil_sublist _))
       refine t_take 12 rfl (by kernel_rfl) (by kernel_rfl) (by kernel_rfl) (fun _ _ _ h => h) (fun w HS => r_as) HS ?_; refine t_done (by kernel_rfl) ?_
       clear HS
       refine c_ret ?_; try dsimp only [Exit.then, Exit.inBlock]
       refine e_ret1 (v := .slice (hd a17) (i + 1 + (r.len - i)) c18) Try.results29 rfl ?_
       refine ⟨_, rfl, ?_⟩
       obtain ⟨_, hn1, hn2⟩ := with_new hris hb (.inr ⟨e6, he7, Decidable.byContradiction fun hn => absurd (lt_tot (by assumption) hn) (by assumption)⟩)
       have hll : i + 1 + (r.len - i) = ((r.l.take i ++ [k]) ++ r.l.drop i).length := by simp only [List.length_append, List.length_take, List.length_drop, List.length_singleton]; omega
       have hlx : ((r.l).drop 0).take (i) ++ ([k]) ++ (((r.l).drop i).take (r.len - i)) = (r.l.take i ++ [k]) ++ r.l.drop i := by
         simp only [List.drop_zero]
         congr 1
         rw [List.take_of_length_le (by rw [List.length_drop]; omega)]
       rw [hlx, hll] at H
       rw [hll]
       exact ⟨_, _, _, ⟨hn1, hn2, by simp only [List.length_append, List.length_take, List.length_drop, List.length_singleton]; omega⟩, rfl, H.sub (.cons _ (.cons_cons _ (List.nil_sublist _)))⟩
      ·
       refine (o_bslG1 (enc := idE) (k) H sl23 zc29 (by rfl) (by decide) (by decide) rfl (idE_len _) (fun b19 w H hb19 => ?_))
       replace H : Hp _ w _ ([_, _, .own (some b19) 1 1 (([k]).flatMap idE) 29 32]) := H
       refine ⟨H.sub (.cons_cons _ (List.nil_sublist _)), ?_⟩
       replace HS := H.sub (.cons_cons _ (List.nil_sublist _))
       refine t_step 4 rfl (by kernel_rfl) (o_appG (enc := idE) (s := (Gl.cut r 32 0 i r.cap)) (l' := ((r.l).drop 0).take (i)) (len' := i) rfl (Nat.zero_add _) H (i := 1) rfl sl23 Try.underlying23 rfl rfl ((hr.up H).cut (l := 0) (h := i) (m := r.cap) (by omega) (by (try simp only [Sl.cut]); omega) (by omega) (by (try simp only [Sl.cut]); omega)) (by decide) (fun c _ => idE_all c) (by omega) (by decide) (fun a20 c21 w H => ?_)); replace H : Hp _ w _ ([_, .own a20 i c21 ((((r.l).drop 0).take (i)).flatMap idE) 29 32, _]) := H
       refine ⟨H.sub (.cons_cons _ (List.nil_sublist _)), ?_⟩
       replace HS := H.sub (.cons_cons _ (List.nil_sublist _))
       refine t_step 7 rfl (by kernel_rfl) (o_appG (enc := idE) (s := ⟨hd (some b19), 1, 1, [k]⟩) (l' := ((r.l).drop 0).take (i) ++ ([k])) (len' := i + 1) rfl rfl H (i := 1) rfl sl23 Try.underlying23 rfl rfl (H.glOwn (i := 2) rfl (by decide) (fun c _ => idE_len c)) (by decide) (fun c _ => idE_all c) (by omega) (by decide) (fun a22 c23 w H => ?_)); replace H : Hp _ w _ ([_, .own a22 (i + 1) c23 ((((r.l).drop 0).take (i) ++ ([k])).flatMap idE) 29 32, _]) := H
       refine ⟨H.sub (.cons_cons _ (List.nil_sublist _)), ?_⟩
       replace HS := H.sub (.cons_cons _ (List.nil_sublist _))
       refine t_step 11 rfl (by kernel_rfl) (o_appG (enc := idE) (s := (Gl.cut r 32 i r.len r.cap)) (l' := ((r.l).drop 0).take (i) ++ ([k]) ++ (((r.l).drop i).take (r.len - i))) (len' := i + 1 + (r.len - i)) rfl rfl H (i := 1) rfl sl23 Try.underlying23 rfl rfl ((hr.up H).cut (l := i) (h := r.len) (m := r.cap) (by omega) (by (try simp only [Sl.cut]); omega) (by omega) (by (try simp only [Sl.cut]); omega)) (by decide) (fun c _ => idE_all c) (by omega) (by decide) (fun a24 c25 w H => ?_)); replace H : Hp _ w _ ([_, .own a24 (i + 1 + (r.len - i)) c25 ((((r.l).drop 0).take (i) ++ ([k]) ++ (((r.l).drop i).take (r.len - i))).flatMap idE) 29 32, _]) := H
       refine ⟨H.sub (.cons_cons _ (List.nil_sublist _)), ?_⟩
       replace HS := H.sub (.cons_cons _ (List.nil_sublist _))
       refine t_take 12 rfl (by kernel_rfl) (by kernel_rfl) (by kernel_rfl) (fun _ _ _ h => h) (fun w HS => r_as) HS ?_; refine t_done (by kernel_rfl) ?_
       clear HS
       refine c_ret ?_; try dsimp only [Exit.then, Exit.inBlock]
       refine e_ret1 (v := .slice (hd a24) (i + 1 + (r.len - i)) c25) Try.results29 rfl ?_
       refine ⟨_, rfl, ?_⟩
       obtain ⟨_, hn1, hn2⟩ := with_new hris hb (.inr ⟨e6, he7, Decidable.byContradiction fun hn => absurd (lt_tot (by assumption) hn) (by assumption)⟩)
       have hll : i + 1 + (r.len - i) = ((r.l.take i ++ [k]) ++ r.l.drop i).length := by simp only [List.length_append, List.length_take, List.length_drop, List.length_singleton]; omega
       have hlx : ((r.l).drop 0).take (i) ++ ([k]) ++ (((r.l).drop i).take (r.len - i)) = (r.l.take i ++ [k]) ++ r.l.drop i := by
         simp only [List.drop_zero]
         congr 1
         rw [List.take_of_length_le (by rw [List.length_drop]; omega)]
       rw [hlx, hll] at H
       rw [hll]
       exact ⟨_, _, _, ⟨hn1, hn2, by simp only [List.length_append, List.length_take, List.length_drop, List.length_singleton]; omega⟩, rfl, H.sub (.cons _ (.cons_cons _ (List.nil_sublist _)))⟩
     ·
      refine (o_bslG1 (enc := idE) (k) H sl23 zc29 (by rfl) (by decide) (by decide) rfl (idE_len _) (fun b26 w H hb26 => ?_))
      replace H : Hp _ w _ ([_, .own (some b26) 1 1 (([k]).flatMap idE) 29 32]) := H
      refine ⟨H.sub (.cons_cons _ (List.nil_sublist _)), ?_⟩
      replace HS := H.sub (.cons_cons _ (List.nil_sublist _))
      refine t_step 0 rfl (by kernel_rfl) (o_bslG0 (α := Id32) (enc := idE) H sl23 zc29 (by decide) (fun b27 w H hb27 => ?_)); replace H : Hp _ w _ ([_, _, .own (some b27) 0 0 ((([] : List Id32)).flatMap idE) 29 32]) := H
      refine ⟨H.sub (.cons_cons _ (List.nil_sublist _)), ?_⟩
      replace HS := H.sub (.cons_cons _ (List.nil_sublist _))
      refine t_step 4 rfl (by kernel_rfl) (o_appG (enc := idE) (s := (Gl.cut r 32 0 i r.cap)) (l' := ((r.l).drop 0).take (i)) (len' := i) rfl (Nat.zero_add _) H (i := 2) rfl sl23 Try.underlying23 rfl rfl ((hr.up H).cut (l := 0) (h := i) (m := r.cap) (by omega) (by (try simp only [Sl.cut]); omega) (by omega) (by (try simp only [Sl.cut]); omega)) (by decide) (fun c _ => idE_all c) (by omega) (by decide) (fun a28 c29 w H => ?_)); replace H : Hp _ w _ ([_, _, .own a28 i c29 ((((r.l).drop 0).take (i)).flatMap idE) 29 32]) := H
      refine ⟨H.sub (.cons_cons _ (List.nil_sublist _)), ?_⟩
      replace HS := H.sub (.cons_cons _ (List.nil_sublist _))
      refine t_step 7 rfl (by kernel_rfl) (o_appG (enc := idE) (s := ⟨hd (some b26), 1, 1, [k]⟩) (l' := ((r.l).drop 0).take (i) ++ ([k])) (len' := i + 1) rfl rfl H (i := 2) rfl sl23 Try.underlying23 rfl rfl (H.glOwn (i := 1) rfl (by decide) (fun c _ => idE_len c)) (by decide) (fun c _ => idE_all c) (by omega) (by decide) (fun a30 c31 w H => ?_)); replace H : Hp _ w _ ([_, _, .own a30 (i + 1) c31 ((((r.l).drop 0).take (i) ++ ([k])).flatMap idE) 29 32]) := H
      refine ⟨H.sub (.cons_cons _ (List.nil_sublist _)), ?_⟩
      replace HS := H.sub (.cons_cons _ (List.nil_sublist _))
      refine t_step 11 rfl (by kernel_rfl) (o_appG (enc := idE) (s := (Gl.cut r 32 i r.len r.cap)) (l' := ((r.l).drop 0).take (i) ++ ([k]) ++ (((r.l).drop i).take (r.len - i))) (len' := i + 1 + (r.len - i)) rfl rfl H (i := 2) rfl sl23 Try.underlying23 rfl rfl ((hr.up H).cut (l := i) (h := r.len) (m := r.cap) (by omega) (by (try simp only [Sl.cut]); omega) (by omega) (by (try simp only [Sl.cut]); omega)) (by decide) (fun c _ => idE_all c) (by omega) (by decide) (fun a32 c33 w H => ?_)); replace H : Hp _ w _ ([_, _, .own a32 (i + 1 + (r.len - i)) c33 ((((r.l).drop 0).take (i) ++ ([k]) ++ (((r.l).drop i).take (r.len - i))).flatMap idE) 29 32]) := H
      refine ⟨H.sub (.cons_cons _ (List.nil_sublist _)), ?_⟩
      replace HS := H.sub (.cons_cons _ (List.nil_sublist _))
      refine t_take 12 rfl (by kernel_rfl) (by kernel_rfl) (by kernel_rfl) (fun _ _ _ h => h) (fun w HS => r_as) HS ?_; refine t_done (by kernel_rfl) ?_
      clear HS
      refine c_ret ?_; try dsimp only [Exit.then, Exit.inBlock]
      refine e_ret1 (v := .slice (hd a32) (i + 1 + (r.len - i)) c33) Try.results29 rfl ?_
      refine ⟨_, rfl, ?_⟩
      obtain ⟨_, hn1, hn2⟩ := with_new hris hb (.inr ⟨e6, he7, Decidable.byContradiction fun hn => absurd (lt_tot (by assumption) hn) (by assumption)⟩)
      have hll : i + 1 + (r.len - i) = ((r.l.take i ++ [k]) ++ r.l.drop i).length := by simp only [List.length_append, List.length_take, List.length_drop, List.length_singleton]; omega
      have hlx : ((r.l).drop 0).take (i) ++ ([k]) ++ (((r.l).drop i).take (r.len - i)) = (r.l.take i ++ [k]) ++ r.l.drop i := by
        simp only [List.drop_zero]
        congr 1
        rw [List.take_of_length_le (by rw [List.length_drop]; omega)]
      rw [hlx, hll] at H
      rw [hll]
      exact ⟨_, _, _, ⟨hn1, hn2, by simp only [List.length_append, List.length_take, List.length_drop, List.length_singleton]; omega⟩, rfl, H.sub (.cons _ (.cons _ (.cons_cons _ (List.nil_sublist _))))⟩
  ·
   refine t_no 5 rfl (by kernel_rfl) (by kernel_rfl) (by kernel_rfl) (fun _ _ _ h => h) (yielded_mk _ _ _ rfl _ rfl (by exact congrArg Value.bool (decide_eq_false hc2))) rfl HS ?_; refine t_no 6 rfl (by kernel_rfl) (by kernel_rfl) (by kernel_rfl) (fun _ _ _ h => h) (yielded_mk _ _ _ rfl _ rfl (by exact congrArg Value.bool (decide_eq_false hc2))) rfl HS ?_; refine t_no 7 rfl (by kernel_rfl) (by kernel_rfl) (by kernel_rfl) (fun _ _ _ h => h) (yielded_mk _ _ _ rfl _ rfl (by exact congrArg Value.bool (decide_eq_false hc2))) rfl HS ?_; refine t_no 8 rfl (by kernel_rfl) (by kernel_rfl) (by kernel_rfl) (fun _ _ _ h => h) (yielded_mk _ _ _ rfl _ rfl (by exact congrArg Value.bool (decide_eq_false hc2))) rfl HS ?_; refine t_no 9 rfl (by kernel_rfl) (by kernel_rfl) (by kernel_rfl) (fun _ _ _ h => h) (yielded_mk _ _ _ rfl _ rfl (by exact congrArg Value.bool (decide_eq_false hc2))) rfl HS ?_; refine t_no 10 rfl (by kernel_rfl) (by kernel_rfl) (by kernel_rfl) (fun _ _ _ h => h) (yielded_mk _ _ _ rfl _ rfl (by exact congrArg Value.bool (decide_eq_false hc2))) rfl HS ?_; refine t_take 11 rfl (by kernel_rfl) (by kernel_rfl) (by kernel_rfl) (fun _ _ _ h => h) (fun w HS => r_pick (b := false) (congrArg Value.bool (decide_eq_false hc2))) HS ?_; refine t_done (by kernel_rfl) ?_
   clear HS
   repeat refine c_seq ?_
   refine c_no rfl ?_; refine c_exit ?_; repeat refine c_seq ?_
   refine c_still mixed (by kernel_rfl) ?_; replace H := H.drew
   refine s_op (r_mv) ?_; refine s_op (r_mv) ?_; refine s_op (r_lens el23 rfl) ?_; refine s_op (r_bin (a := (i : Int)) (b := (r.len : Int)) rfl rfl (fun _ => b_lss)) ?_; refine s_op (r_mv) ?_; refine s_no rfl rfl (by exact congrArg Value.bool (decide_eq_false hc2)) rfl ?_; refine s_no rfl rfl (by exact congrArg Value.bool (decide_eq_false hc2)) rfl ?_; refine s_no rfl rfl (by exact congrArg Value.bool (decide_eq_false hc2)) rfl ?_; refine s_no rfl rfl (by exact congrArg Value.bool (decide_eq_false hc2)) rfl ?_; refine s_no rfl rfl (by exact congrArg Value.bool (decide_eq_false hc2)) rfl ?_; refine s_no rfl rfl (by exact congrArg Value.bool (decide_eq_false hc2)) rfl ?_; refine s_op (r_pick (b := false) (congrArg Value.bool (decide_eq_false hc2))) ?_; refine s_nil ?_; repeat refine c_seq ?_
   refine c_no rfl ?_; refine c_skip ?_; repeat refine c_seq ?_
   refine wp_held (fun w => Hp w0 w [] [.blk b1 ((k.1).map V8) 29]) mixed ?_; replace H := H.drew
   have HS := H
   refine t_take 1 rfl (by kernel_rfl) (by kernel_rfl) (by kernel_rfl) (fun _ _ _ h => h) (fun w HS => r_mv) HS ?_; refine t_take 2 rfl (by kernel_rfl) (by kernel_rfl) (by kernel_rfl) (fun _ _ _ h => h) (fun w HS => r_mv) HS ?_; refine t_take 3 rfl (by kernel_rfl) (by kernel_rfl) (by kernel_rfl) (fun _ _ _ h => h) (fun w HS => r_slG (s := r) 0 i r.cap (lv := none) (hv := some (VI (i : Int))) (mv := none) rfl el23 rfl rfl rfl (fun w => by exact sbh i (by omega) (by (try simp only [Sl.cut]); omega) w)) HS ?_; refine t_take 5 rfl (by kernel_rfl) (by kernel_rfl) (by kernel_rfl) (fun _ _ _ h => h) (fun w HS => r_ldAA (l := k.1) HS (i := 0) rfl rfl rt29 (show (k.1).length = 32 from k.2)) HS ?_; refine t_take 8 rfl (by kernel_rfl) (by kernel_rfl) (by kernel_rfl) (fun _ _ _ h => h) (fun w HS => r_mv) HS ?_; refine t_take 9 rfl (by kernel_rfl) (by kernel_rfl) (by kernel_rfl) (fun _ _ _ h => h) (fun w HS => r_mv) HS ?_; refine t_take 10 rfl (by kernel_rfl) (by kernel_rfl) (by kernel_rfl) (fun _ _ _ h => h) (fun w HS => r_slG (s := r) i r.len r.cap (lv := some (VI (i : Int))) (hv := none) (mv := none) rfl el23 rfl rfl rfl (fun w => by exact sbl i (by omega) (by (try simp only [Sl.cut]); omega) w)) HS ?_; refine t_all [0, 6] (by kernel_rfl) (by simp) (all_cons (w_op 0 rfl ?_) (all_cons (w_op 6 rfl ?_) (all_nil)))
   ·
    refine (o_bslG0 (α := Id32) (enc := idE) H sl23 zc29 (by decide) (fun b34 w H hb34 => ?_))
    replace H : Hp _ w _ ([_, .own (some b34) 0 0 ((([] : List Id32)).flatMap idE) 29 32]) := H
    refine ⟨H.sub (.cons_cons _ (List.nil_sublist _)), ?_⟩
    replace HS := H.sub (.cons_cons _ (List.nil_sublist _))
    refine t_all [4, 6] (by kernel_rfl) (by simp) (all_cons (w_op 4 rfl ?_) (all_cons (w_op 6 rfl ?_) (all_nil)))
    ·
     refine (o_appG (enc := idE) (s := (Gl.cut r 32 0 i r.cap)) (l' := ((r.l).drop 0).take (i)) (len' := i) rfl (Nat.zero_add _) H (i := 1) rfl sl23 Try.underlying23 rfl rfl ((hr.up H).cut (l := 0) (h := i) (m := r.cap) (by omega) (by (try simp only [Sl.cut]); omega) (by omega) (by (try simp only [Sl.cut]); omega)) (by decide) (fun c _ => idE_all c) (by omega) (by decide) (fun a35 c36 w H => ?_))
     replace H : Hp _ w _ ([_, .own a35 i c36 ((((r.l).drop 0).take (i)).flatMap idE) 29 32]) := H
     refine ⟨H.sub (.cons_cons _ (List.nil_sublist _)), ?_⟩
     replace HS := H.sub (.cons_cons _ (List.nil_sublist _))
     refine t_step 6 rfl (by kernel_rfl) (o_bslG1 (enc := idE) (k) H sl23 zc29 (by rfl) (by decide) (by decide) rfl (idE_len _) (fun b37 w H hb37 => ?_)); replace H : Hp _ w _ ([_, _, .own (some b37) 1 1 (([k]).flatMap idE) 29 32]) := H
     refine ⟨H.sub (.cons_cons _ (List.nil_sublist _)), ?_⟩
     replace HS := H.sub (.cons_cons _ (List.nil_sublist _))
     refine t_step 7 rfl (by kernel_rfl) (o_appG (enc := idE) (s := ⟨hd (some b37), 1, 1, [k]⟩) (l' := ((r.l).drop 0).take (i) ++ ([k])) (len' := i + 1) rfl rfl H (i := 1) rfl sl23 Try.underlying23 rfl rfl (H.glOwn (i := 2) rfl (by decide) (fun c _ => idE_len c)) (by decide) (fun c _ => idE_all c) (by omega) (by decide) (fun a38 c39 w H => ?_)); replace H : Hp _ w _ ([_, .own a38 (i + 1) c39 ((((r.l).drop 0).take (i) ++ ([k])).flatMap idE) 29 32, _]) := H
     refine ⟨H.sub (.cons_cons _ (List.nil_sublist _)), ?_⟩
     replace HS := H.sub (.cons_cons _ (List.nil_sublist _))
     refine t_step 11 rfl (by kernel_rfl) (o_appG (enc := idE) (s := (Gl.cut r 32 i r.len r.cap)) (l' := ((r.l).drop 0).take (i) ++ ([k]) ++ (((r.l).drop i).take (r.len - i))) (len' := i + 1 + (r.len - i)) rfl rfl H (i := 1) rfl sl23 Try.underlying23 rfl rfl ((hr.up H).cut (l := i) (h := r.len) (m := r.cap) (by omega) (by (try simp only [Sl.cut]); omega) (by omega) (by (try simp only [Sl.cut]); omega)) (by decide) (fun c _ => idE_all c) (by omega) (by decide) (fun a40 c41 w H => ?_)); replace H : Hp _ w _ ([_, .own a40 (i + 1 + (r.len - i)) c41 ((((r.l).drop 0).take (i) ++ ([k]) ++ (((r.l).drop i).take (r.len - i))).flatMap idE) 29 32, _]) := H
     refine ⟨H.sub (.cons_cons _ (List.nil_sublist _)), ?_⟩
     replace HS := H.sub (.cons_cons _ (List.nil_sublist _))
     refine t_take 12 rfl (by kernel_rfl) (by kernel_rfl) (by kernel_rfl) (fun _ _ _ h => h) (fun w HS => r_as) HS ?_; refine t_done (by kernel_rfl) ?_
     clear HS
     refine c_ret ?_; try dsimp only [Exit.then, Exit.inBlock]
     refine e_ret1 (v := .slice (hd a40) (i + 1 + (r.len - i)) c41) Try.results29 rfl ?_
     refine ⟨_, rfl, ?_⟩
     obtain ⟨_, hn1, hn2⟩ := with_new hris hb (.inl (by omega))
     have hll : i + 1 + (r.len - i) = ((r.l.take i ++ [k]) ++ r.l.drop i).length := by simp only [List.length_append, List.length_take, List.length_drop, List.length_singleton]; omega
     have hlx : ((r.l).drop 0).take (i) ++ ([k]) ++ (((r.l).drop i).take (r.len - i)) = (r.l.take i ++ [k]) ++ r.l.drop i := by
       simp only [List.drop_zero]
       congr 1
       rw [List.take_of_length_le (by rw [List.length_drop]; omega)]
     rw [hlx, hll] at H
     rw [hll]
     exact ⟨_, _, _, ⟨hn1, hn2, by simp only [List.length_append, List.length_take, List.length_drop, List.length_singleton]; omega⟩, rfl, H.sub (.cons _ (.cons_cons _ (List.nil_sublist _)))⟩
    ·
     refine (o_bslG1 (enc := idE) (k) H sl23 zc29 (by rfl) (by decide) (by decide) rfl (idE_len _) (fun b42 w H hb42 => ?_))
     replace H : Hp _ w _ ([_, _, .own (some b42) 1 1 (([k]).flatMap idE) 29 32]) := H
     refine ⟨H.sub (.cons_cons _ (List.nil_sublist _)), ?_⟩
     replace HS := H.sub (.cons_cons _ (List.nil_sublist _))
     refine t_step 4 rfl (by kernel_rfl) (o_appG (enc := idE) (s := (Gl.cut r 32 0 i r.cap)) (l' := ((r.l).drop 0).take (i)) (len' := i) rfl (Nat.zero_add _) H (i := 1) rfl sl23 Try.underlying23 rfl rfl ((hr.up H).cut (l := 0) (h := i) (m := r.cap) (by omega) (by (try simp only [Sl.cut]); omega) (by omega) (by (try simp only [Sl.cut]); omega)) (by decide) (fun c _ => idE_all c) (by omega) (by decide) (fun a43 c44 w H => ?_)); replace H : Hp _ w _ ([_, .own a43 i c44 ((((r.l).drop 0).take (i)).flatMap idE) 29 32, _]) := H
     refine ⟨H.sub (.cons_cons _ (List.nil_sublist _)), ?_⟩
     replace HS := H.sub (.cons_cons _ (List.nil_sublist _))
     refine t_step 7 rfl (by kernel_rfl) (o_appG (enc := idE) (s := ⟨hd (some b42), 1, 1, [k]⟩) (l' := ((r.l).drop 0).take (i) ++ ([k])) (len' := i + 1) rfl rfl H (i := 1) rfl sl23 Try.underlying23 rfl rfl (H.glOwn (i := 2) rfl (by decide) (fun c _ => idE_len c)) (by decide) (fun c _ => idE_all c) (by omega) (by decide) (fun a45 c46 w H => ?_)); replace H : Hp _ w _ ([_, .own a45 (i + 1) c46 ((((r.l).drop 0).take (i) ++ ([k])).flatMap idE) 29 32, _]) := H
     refine ⟨H.sub (.cons_cons _ (List.nil_sublist _)), ?_⟩
     replace HS := H.sub (.cons_cons _ (List.nil_sublist _))
     refine t_step 11 rfl (by kernel_rfl) (o_appG (enc := idE) (s := (Gl.cut r 32 i r.len r.cap)) (l' := ((r.l).drop 0).take (i) ++ ([k]) ++ (((r.l).drop i).take (r.len - i))) (len' := i + 1 + (r.len - i)) rfl rfl H (i := 1) rfl sl23 Try.underlying23 rfl rfl ((hr.up H).cut (l := i) (h := r.len) (m := r.cap) (by omega) (by (try simp only [Sl.cut]); omega) (by omega) (by (try simp only [Sl.cut]); omega)) (by decide) (fun c _ => idE_all c) (by omega) (by decide) (fun a47 c48 w H => ?_)); replace H : Hp _ w _ ([_, .own a47 (i + 1 + (r.len - i)) c48 ((((r.l).drop 0).take (i) ++ ([k]) ++ (((r.l).drop i).take (r.len - i))).flatMap idE) 29 32, _]) := H
     refine ⟨H.sub (.cons_cons _ (List.nil_sublist _)), ?_⟩
     replace HS := H.sub (.cons_cons _ (List.nil_sublist _))
     refine t_take 12 rfl (by kernel_rfl) (by kernel_rfl) (by kernel_rfl) (fun _ _ _ h => h) (fun w HS => r_as) HS ?_; refine t_done (by kernel_rfl) ?_
     clear HS
     refine c_ret ?_; try dsimp only [Exit.then, Exit.inBlock]
     refine e_ret1 (v := .slice (hd a47) (i + 1 + (r.len - i)) c48) Try.results29 rfl ?_
     refine ⟨_, rfl, ?_⟩
     obtain ⟨_, hn1, hn2⟩ := with_new hris hb (.inl (by omega))
     have hll : i + 1 + (r.len - i) = ((r.l.take i ++ [k]) ++ r.l.drop i).length := by simp only [List.length_append, List.length_take, List.length_drop, List.length_singleton]; omega
     have hlx : ((r.l).drop 0).take (i) ++ ([k]) ++ (((r.l).drop i).take (r.len - i)) = (r.l.take i ++ [k]) ++ r.l.drop i := by
       simp only [List.drop_zero]
       congr 1
       rw [List.take_of_length_le (by rw [List.length_drop]; omega)]
     rw [hlx, hll] at H
     rw [hll]
     exact ⟨_, _, _, ⟨hn1, hn2, by simp only [List.length_append, List.length_take, List.length_drop, List.length_singleton]; omega⟩, rfl, H.sub (.cons _ (.cons_cons _ (List.nil_sublist _)))⟩
   ·
    refine (o_bslG1 (enc := idE) (k) H sl23 zc29 (by rfl) (by decide) (by decide) rfl (idE_len _) (fun b49 w H hb49 => ?_))
    replace H : Hp _ w _ ([_, .own (some b49) 1 1 (([k]).flatMap idE) 29 32]) := H
    refine ⟨H.sub (.cons_cons _ (List.nil_sublist _)), ?_⟩
    replace HS := H.sub (.cons_cons _ (List.nil_sublist _))
    refine t_step 0 rfl (by kernel_rfl) (o_bslG0 (α := Id32) (enc := idE) H sl23 zc29 (by decide) (fun b50 w H hb50 => ?_)); replace H : Hp _ w _ ([_, _, .own (some b50) 0 0 ((([] : List Id32)).flatMap idE) 29 32]) := H
    refine ⟨H.sub (.cons_cons _ (List.nil_sublist _)), ?_⟩
    replace HS := H.sub (.cons_cons _ (List.nil_sublist _))
    refine t_step 4 rfl (by kernel_rfl) (o_appG (enc := idE) (s := (Gl.cut r 32 0 i r.cap)) (l' := ((r.l).drop 0).take (i)) (len' := i) rfl (Nat.zero_add _) H (i := 2) rfl sl23 Try.underlying23 rfl rfl ((hr.up H).cut (l := 0) (h := i) (m := r.cap) (by omega) (by (try simp only [Sl.cut]); omega) (by omega) (by (try simp only [Sl.cut]); omega)) (by decide) (fun c _ => idE_all c) (by omega) (by decide) (fun a51 c52 w H => ?_)); replace H : Hp _ w _ ([_, _, .own a51 i c52 ((((r.l).drop 0).take (i)).flatMap idE) 29 32]) := H
    refine ⟨H.sub (.cons_cons _ (List.nil_sublist _)), ?_⟩
    replace HS := H.sub (.cons_cons _ (List.nil_sublist _))
    refine t_step 7 rfl (by kernel_rfl) (o_appG (enc := idE) (s := ⟨hd (some b49), 1, 1, [k]⟩) (l' := ((r.l).drop 0).take (i) ++ ([k])) (len' := i + 1) rfl rfl H (i := 2) rfl sl23 Try.underlying23 rfl rfl (H.glOwn (i := 1) rfl (by decide) (fun c _ => idE_len c)) (by decide) (fun c _ => idE_all c) (by omega) (by decide) (fun a53 c54 w H => ?_)); replace H : Hp _ w _ ([_, _, .own a53 (i + 1) c54 ((((r.l).drop 0).take (i) ++ ([k])).flatMap idE) 29 32]) := H
    refine ⟨H.sub (.cons_cons _ (List.nil_sublist _)), ?_⟩
    replace HS := H.sub (.cons_cons _ (List.nil_sublist _))
    refine t_step 11 rfl (by kernel_rfl) (o_appG (enc := idE) (s := (Gl.cut r 32 i r.len r.cap)) (l' := ((r.l).drop 0).take (i) ++ ([k]) ++ (((r.l).drop i).take (r.len - i))) (len' := i + 1 + (r.len - i)) rfl rfl H (i := 2) rfl sl23 Try.underlying23 rfl rfl ((hr.up H).cut (l := i) (h := r.len) (m := r.cap) (by omega) (by (try simp only [Sl.cut]); omega) (by omega) (by (try simp only [Sl.cut]); omega)) (by decide) (fun c _ => idE_all c) (by omega) (by decide) (fun a55 c56 w H => ?_)); replace H : Hp _ w _ ([_, _, .own a55 (i + 1 + (r.len - i)) c56 ((((r.l).drop 0).take (i) ++ ([k]) ++ (((r.l).drop i).take (r.len - i))).flatMap idE) 29 32]) := H
    refine ⟨H.sub (.cons_cons _ (List.nil_sublist _)), ?_⟩
    replace HS := H.sub (.cons_cons _ (List.nil_sublist _))
    refine t_take 12 rfl (by kernel_rfl) (by kernel_rfl) (by kernel_rfl) (fun _ _ _ h => h) (fun w HS => r_as) HS ?_; refine t_done (by kernel_rfl) ?_
    clear HS
    refine c_ret ?_; try dsimp only [Exit.then, Exit.inBlock]
    refine e_ret1 (v := .slice (hd a55) (i + 1 + (r.len - i)) c56) Try.results29 rfl ?_
    refine ⟨_, rfl, ?_⟩
    obtain ⟨_, hn1, hn2⟩ := with_new hris hb (.inl (by omega))
    have hll : i + 1 + (r.len - i) = ((r.l.take i ++ [k]) ++ r.l.drop i).length := by simp only [List.length_append, List.length_take, List.length_drop, List.length_singleton]; omega
    have hlx : ((r.l).drop 0).take (i) ++ ([k]) ++ (((r.l).drop i).take (r.len - i)) = (r.l.take i ++ [k]) ++ r.l.drop i := by
      simp only [List.drop_zero]
      congr 1
      rw [List.take_of_length_le (by rw [List.length_drop]; omega)]
    rw [hlx, hll] at H
    rw [hll]
    exact ⟨_, _, _, ⟨hn1, hn2, by simp only [List.length_append, List.length_take, List.length_drop, List.length_singleton]; omega⟩, rfl, H.sub (.cons _ (.cons _ (.cons_cons _ (List.nil_sublist _))))⟩
end Go.Proofs.Ytomjbabllcmodaa
namespace Go.Proofs.Ytomjbabllcmodaa
open Go
/-- the first c bytes of word j of a block, as a number. -/
def pwN (bs : List UInt8) (j : Nat) : Nat → Nat
  | 0 => 0
  | c + 1 => pwN bs j c * 256 + (bs.getD (4 * j + c) 0).toNat
theorem wordAt_nat (bs : List UInt8) (j : Nat) : (wordAt bs j).toNat = pwN bs j 4 := by
  simp only [wordAt, pwN, Nat.add_zero, Nat.zero_mul, Nat.zero_add]
  generalize bs.getD (4 * j) 0 = a
  generalize bs.getD (4 * j + 1) 0 = b
  generalize bs.getD (4 * j + 2) 0 = c
  generalize bs.getD (4 * j + 3) 0 = d
  have ha := a.toNat_lt
  have hb := b.toNat_lt
  have hc := c.toNat_lt
  have hd := d.toNat_lt
  have e24 : (UInt32.ofNat 24).toNat % 32 = 24 := rfl
  have e16 : (UInt32.ofNat 16).toNat % 32 = 16 := rfl
  have e8 : (UInt32.ofNat 8).toNat % 32 = 8 := rfl
  simp only [UInt32.toNat_or, UInt32.toNat_shiftLeft, UInt8.toNat_toUInt32, e24, e16, e8]
  have m1 : a.toNat <<< 24 % 2 ^ 32 = a.toNat <<< 24 := by rw [Nat.shiftLeft_eq]; omega
  have m2 : b.toNat <<< 16 % 2 ^ 32 = b.toNat <<< 16 := by rw [Nat.shiftLeft_eq]; omega
  have m3 : c.toNat <<< 8 % 2 ^ 32 = c.toNat <<< 8 := by rw [Nat.shiftLeft_eq]; omega
  rw [m1, m2, m3, Nat.or_assoc, Nat.or_assoc]
  have s3 : c.toNat <<< 8 ||| d.toNat = c.toNat <<< 8 + d.toNat := (Nat.shiftLeft_add_eq_or_of_lt (by omega) _).symm
  have s2 : b.toNat <<< 16 ||| (c.toNat <<< 8 + d.toNat) = b.toNat <<< 16 + (c.toNat <<< 8 + d.toNat) := (Nat.shiftLeft_add_eq_or_of_lt (by rw [Nat.shiftLeft_eq]; omega) _).symm
  have s1 : a.toNat <<< 24 ||| (b.toNat <<< 16 + (c.toNat <<< 8 + d.toNat)) = a.toNat <<< 24 + (b.toNat <<< 16 + (c.toNat <<< 8 + d.toNat)) := (Nat.shiftLeft_add_eq_or_of_lt (by rw [Nat.shiftLeft_eq, Nat.shiftLeft_eq]; omega) _).symm
  rw [s3, s2, s1, Nat.shiftLeft_eq, Nat.shiftLeft_eq, Nat.shiftLeft_eq]
  omega
end Go.Proofs.Ytomjbabllcmodaa
namespace Go.Proofs.Ytomjbabllcmodaa
open Go
set_option maxRecDepth 100000
/-- the cells of a hash whose words are l. -/
def parts (A B : List UInt32) (i : Nat) : List UInt32 := A.take i ++ B.drop i
theorem parts_length (A B : List UInt32) (i : Nat) (h : A.length = B.length) (hi : i ≤ A.length) : (parts A B i).length = B.length := by simp only [parts, List.length_append, List.length_take, List.length_drop]; omega
theorem parts_get (A B : List UInt32) (i : Nat) (h : A.length = B.length) (hi : i < A.length) : (parts A B i).getD i 0 = B.getD i 0 := by
  have : (A.take i).length = i := by rw [List.length_take]; omega
  simp only [parts, List.getD_eq_getElem?_getD]
  rw [List.getElem?_append_right (by omega), this]; simp
theorem parts_set (A B : List UInt32) (i : Nat) (h : A.length = B.length) (hi : i < A.length) : (parts A B i).set i (A.getD i 0) = parts A B (i + 1) := by
  have h1 : (A.take i).length = i := by rw [List.length_take]; omega
  apply List.ext_getElem?
  intro j
  rw [List.getElem?_set]
  have hl : (parts A B i).length = B.length := parts_length A B i h (by omega)
  by_cases h2 : i = j
  · subst h2
    rw [if_pos rfl, if_pos (by omega)]
    rw [parts, List.getElem?_append_left (by rw [List.length_take]; omega), List.getElem?_take_of_lt (by omega)]
    simp [hi]
  · rw [if_neg h2]
    have h4 : (A.take (i + 1)).length = i + 1 := by rw [List.length_take]; omega
    by_cases h3 : j < i
    · rw [parts, parts, List.getElem?_append_left (by omega), List.getElem?_append_left (by omega), List.getElem?_take_of_lt h3, List.getElem?_take_of_lt (by omega)]
    · rw [parts, parts, List.getElem?_append_right (by omega), List.getElem?_append_right (by omega), h1, h4, List.getElem?_drop, List.getElem?_drop]
      congr 1; omega
theorem add_get (s t : S8) (i : Nat) (hi : i < 8) : s.l.getD i 0 + t.l.getD i 0 = (addS s t).l.getD i 0 := by
  have e : (addS s t).l = List.zipWith (· + ·) s.l t.l := rfl
  have h1 : s.l.length = 8 := rfl
  have h2 : t.l.length = 8 := rfl
  rw [e]
  simp only [List.getD_eq_getElem?_getD, List.getElem?_zipWith]
  rw [List.getElem?_eq_getElem (by omega : i < s.l.length), List.getElem?_eq_getElem (by omega : i < t.l.length)]
  rfl
end Go.Proofs.Ytomjbabllcmodaa
namespace Go.Proofs.Ytomjbabllcmodaa
open Go
set_option maxRecDepth 100000
theorem turn_ret (w : World) (x : UInt64) (n : Nat) (hn : n ≤ 64) : Ret Try.prog 66 [V64 x, VI n] w fun v w' => v = V64 (turn64 x n) ∧ w' = w := by
  refine ret_mk Try.func66 rfl Try.ntmps66 (by simp) ?_
  repeat refine c_seq ?_
  refine c_region ?_; refine l_op (o_as ?_); first | refine l_end ?_ | refine l_nil ?_
  repeat refine c_seq ?_
  refine c_region ?_; refine l_op (o_as ?_); first | refine l_end ?_ | refine l_nil ?_
  repeat refine c_seq ?_
  refine c_block ?_; refine c_loop (ι := Nat) (fun i => [(5, VI i), (0, V64 (turn64 x i)), (1, VI n)]) (fun i w' => i ≤ n ∧ w' = w) (fun i => n - i) 0 ⟨rfl, rfl, rfl, trivial⟩ ⟨by omega, rfl⟩ ?_; rintro i τ w' ⟨hi, hw⟩
  rw [hw]; clear hw w'
  repeat refine c_seq ?_
  refine c_region ?_; refine l_op (o_mv ?_); refine l_op (o_mv ?_); refine l_op (o_bin rfl rfl (fun _ => b_lss) ?_); first | refine l_end ?_ | refine l_nil ?_
  repeat refine c_seq ?_
  refine c_ifD rfl (fun hlt => ?_) (fun hlt => ?_)
  · have hlt' : i < n := by omega
    refine c_skip ?_; repeat refine c_seq ?_
    refine c_block ?_; repeat refine c_seq ?_
    refine c_region ?_; refine l_op (o_mv ?_); refine l_op (o_bin rfl (c64 2 (by decide)) (fun _ => b_quo_u64 (by decide)) ?_); refine l_op (o_mv ?_); refine l_op (o_bin rfl (c64 2 (by decide)) (fun _ => b_rem_u64 (by decide)) ?_); refine l_op (o_bin rfl (c64 2147483648 (by decide)) (fun _ => b_mul_u64) ?_); refine l_op (o_bin rfl rfl (fun _ => b_add_u64) ?_); refine l_op (o_as ?_); first | refine l_end ?_ | refine l_nil ?_
    repeat refine c_seq ?_
    refine c_region ?_; refine l_op (o_mv ?_); refine l_op (o_bin rfl rfl (fun _ => b_add (by omega) (by omega)) ?_); refine l_op (o_as ?_); first | refine l_end ?_ | refine l_nil ?_
    refine round_end (i + 1) ?_ ?_ ?_
    · exact ⟨rfl, rfl, rfl, trivial⟩
    · exact ⟨hlt', rfl⟩
    · show n - (i + 1) < n - i; omega
  · have hi' : i = n := by omega
    subst hi'
    refine c_exit ?_; repeat refine c_seq ?_
    refine c_region ?_; refine l_op (o_mv ?_); refine l_op (o_as ?_); first | refine l_end ?_ | refine l_nil ?_
    exact c_ret (e_ret1 Try.results66 rfl ⟨_, rfl, rfl, rfl⟩)
theorem down_ret (w : World) (x : UInt64) (n : Nat) (hn : n ≤ 64) : Ret Try.prog 67 [V64 x, VI n] w fun v w' => v = V64 (down64 x n) ∧ w' = w := by
  refine ret_mk Try.func67 rfl Try.ntmps67 (by simp) ?_
  repeat refine c_seq ?_
  refine c_region ?_; refine l_op (o_as ?_); first | refine l_end ?_ | refine l_nil ?_
  repeat refine c_seq ?_
  refine c_region ?_; refine l_op (o_as ?_); first | refine l_end ?_ | refine l_nil ?_
  repeat refine c_seq ?_
  refine c_block ?_; refine c_loop (ι := Nat) (fun i => [(5, VI i), (0, V64 (down64 x i)), (1, VI n)]) (fun i w' => i ≤ n ∧ w' = w) (fun i => n - i) 0 ⟨rfl, rfl, rfl, trivial⟩ ⟨by omega, rfl⟩ ?_; rintro i τ w' ⟨hi, hw⟩
  rw [hw]; clear hw w'
  repeat refine c_seq ?_
  refine c_region ?_; refine l_op (o_mv ?_); refine l_op (o_mv ?_); refine l_op (o_bin rfl rfl (fun _ => b_lss) ?_); first | refine l_end ?_ | refine l_nil ?_
  repeat refine c_seq ?_
  refine c_ifD rfl (fun hlt => ?_) (fun hlt => ?_)
  · have hlt' : i < n := by omega
    refine c_skip ?_; repeat refine c_seq ?_
    refine c_block ?_; repeat refine c_seq ?_
    refine c_region ?_; refine l_op (o_mv ?_); refine l_op (o_bin rfl (c64 2 (by decide)) (fun _ => b_quo_u64 (by decide)) ?_); refine l_op (o_as ?_); first | refine l_end ?_ | refine l_nil ?_
    repeat refine c_seq ?_
    refine c_region ?_; refine l_op (o_mv ?_); refine l_op (o_bin rfl rfl (fun _ => b_add (by omega) (by omega)) ?_); refine l_op (o_as ?_); first | refine l_end ?_ | refine l_nil ?_
    refine round_end (i + 1) ?_ ?_ ?_
    · exact ⟨rfl, rfl, rfl, trivial⟩
    · exact ⟨hlt', rfl⟩
    · show n - (i + 1) < n - i; omega
  · have hi' : i = n := by omega
    subst hi'
    refine c_exit ?_; repeat refine c_seq ?_
    refine c_region ?_; refine l_op (o_mv ?_); refine l_op (o_as ?_); first | refine l_end ?_ | refine l_nil ?_
    exact c_ret (e_ret1 Try.results67 rfl ⟨_, rfl, rfl, rfl⟩)
theorem keys_ret (w0 : World) : Ret Try.prog 52 [] w0 fun v w' => v = .agg (primeWords.map W64).toArray ∧ Hp w0 w' [] [] := by
  refine ret_mk Try.func52 rfl Try.ntmps52 (by simp) ?_
  have H := Hp.refl w0 []
  repeat refine c_seq ?_
  refine c_region ?_; refine l_op (o_alloc H zc101 (fun b0 w H hb0 => ?_)); first | refine l_end ?_ | refine l_nil ?_
  repeat refine c_seq ?_
  refine c_region ?_; refine l_op (o_bld' (cells := (primeWords.map W64).toArray) bd101 rfl (by kernel_rfl) ?_); refine l_op (o_stw H (i := 0) rfl rfl rfl (by rw [cs101]; rfl) (by kernel_rfl) (by rfl) (fun w H => ?_)); first | refine l_end ?_ | refine l_nil ?_
  refine c_ret (e_retc Try.results52 H (i := 0) rfl rfl rt101 (by rfl) ⟨_, rfl, rfl, ?_⟩); exact H.sub (List.nil_sublist _)
end Go.Proofs.Ytomjbabllcmodaa
namespace Go.Proofs.Ytomjbabllcmodaa
open Go
set_option maxRecDepth 100000
def padW (l : List UInt32) : List Value := l.map W64 ++ List.replicate (64 - l.length) (W64 0)
theorem padW_length (l : List UInt32) (h : l.length ≤ 64) : (padW l).length = 64 := by simp [padW]; omega
theorem padW_get (l : List UInt32) (j : Nat) (h : j < l.length) : (padW l)[j]? = some (W64 (l.getD j 0)) := by
  rw [padW, List.getElem?_append_left (by simpa using h)]
  simp [h]
theorem padW_set (l : List UInt32) (v : UInt32) (h : l.length < 64) : (padW l).set l.length (W64 v) = padW (l ++ [v]) := by
  unfold padW
  rw [List.set_append_right _ _ (by simp)]
  have : 64 - l.length = (64 - (l ++ [v]).length) + 1 := by simp; omega
  rw [this, List.replicate_succ]
  simp
theorem turnW_ret (w : World) (x : UInt32) (n : Nat) (h0 : 0 < n) (h : n < 32) : Ret Try.prog 66 [W64 x, VI n] w fun v w' => v = W64 (rotl x (32 - n)) ∧ w' = w :=
  (turn_ret w x.toUInt64 n (by omega)).mono fun v w' ⟨hv, hw⟩ => ⟨by rw [hv, turn64_eq x n h0 h]; rfl, hw⟩
theorem downW_ret (w : World) (x : UInt32) (n : Nat) (h : n < 32) : Ret Try.prog 67 [W64 x, VI n] w fun v w' => v = W64 (x >>> UInt32.ofNat n) ∧ w' = w :=
  (down_ret w x.toUInt64 n (by omega)).mono fun v w' ⟨hv, hw⟩ => ⟨by rw [hv, down64_eq x n h]; rfl, hw⟩
section
variable {P : Program} {t : TypeId} {w : World}
theorem b_xorW {x y : UInt32} : (binOp .xor t (W64 x) (W64 y)).run P w = .ok (W64 (x ^^^ y)) w := by
  have := b_xor_u64 (P := P) (t := t) (w := w) (x := x.toUInt64) (y := y.toUInt64)
  rw [W64, W64, this, W64, UInt32.toUInt64_xor]
theorem b_andW {x y : UInt32} : (binOp .and t (W64 x) (W64 y)).run P w = .ok (W64 (x &&& y)) w := by
  have := b_and_u64 (P := P) (t := t) (w := w) (x := x.toUInt64) (y := y.toUInt64)
  rw [W64, W64, this, W64, UInt32.toUInt64_and]
theorem b_notW {x : UInt32} : (binOp .sub t (V64 4294967295) (W64 x)).run P w = .ok (W64 (~~~ x)) w := by
  have := b_sub_u64 (P := P) (t := t) (w := w) (x := 4294967295) (y := x.toUInt64)
  have e : (4294967295 : UInt64) - x.toUInt64 = (~~~ x).toUInt64 := by
    apply UInt64.toNat_inj.1
    have hx := x.toNat_lt
    rw [UInt64.toNat_sub, UInt32.toNat_toUInt64, UInt32.toNat_toUInt64, UInt32.toNat_not]
    have : (4294967295 : UInt64).toNat = 4294967295 := rfl
    rw [this]
    have : UInt32.size = 4294967296 := rfl
    omega
  rw [W64, this, W64, e]
theorem b_maskW {u : UInt64} (x : UInt32) (h : u.toUInt32 = x) : (binOp .and t (V64 u) (V64 4294967295)).run P w = .ok (W64 x) w := by
  have := b_and_u64 (P := P) (t := t) (w := w) (x := u) (y := 4294967295)
  rw [this, and_all, h, W64]
end
theorem all_W64 (l : List UInt32) : (l.map W64).toArray.all (·.oneCell') = true := by
  rw [List.all_toArray]; simp [Value.oneCell', W64]
theorem red (x : UInt32) : x.toUInt64.toUInt32 = x := UInt32.toUInt32_toUInt64 x
attribute [local irreducible] rnds
set_option maxHeartbeats 4000000 in
theorem block_ret (w0 : World) (st : S8) (bs : List UInt8) : Ret Try.prog 53 [.agg (st.l.map W64).toArray, .agg (padW (firsts bs 16)).toArray, .agg (primeWords.map W64).toArray] w0 fun v w' => v = .agg ((comp st bs).l.map W64).toArray ∧ Hp w0 w' [] [] := by
  refine ret_mk Try.func53 rfl Try.ntmps53 (by simp) ?_
  have H := Hp.refl w0 []
  repeat refine c_seq ?_
  refine c_region ?_; refine l_op (o_box H rfl (fun b3 w H hb3 => ?_)); refine l_op (o_box H rfl (fun b4 w H hb4 => ?_)); refine l_op (o_box H rfl (fun b5 w H hb5 => ?_)); refine l_op (o_alloc H zc103 (fun b6 w H hb6 => ?_)); first | refine l_end ?_ | refine l_nil ?_
  replace H : Hp w0 w [] [.blk b3 (st.l.map W64) 103, .blk b4 (padW (sched bs 0)) 101, .blk b5 (primeWords.map W64) 101, .blk b6 (List.replicate 8 (Value.int .u64 0)) 103] := H
  repeat refine c_seq ?_
  refine c_region ?_; refine l_op (o_as ?_); first | refine l_end ?_ | refine l_nil ?_
  repeat refine c_seq ?_
  refine c_block ?_; refine c_loop (ι := Nat) (fun k => [(7, VI ((16 + k : Nat) : Int)), (3, .pointer (some ⟨b3, 0, none⟩)), (4, .pointer (some ⟨b4, 0, none⟩)), (5, .pointer (some ⟨b5, 0, none⟩)), (6, .pointer (some ⟨b6, 0, none⟩))])
    (fun k w => k ≤ 48 ∧ Hp w0 w [] [.blk b3 (st.l.map W64) 103, .blk b4 (padW (sched bs k)) 101, .blk b5 (primeWords.map W64) 101, .blk b6 (List.replicate 8 (Value.int .u64 0)) 103])
    (fun k => 48 - k) 0 ⟨rfl, rfl, rfl, rfl, rfl, trivial⟩ ⟨by omega, H⟩ ?_
  clear H
  rintro k τ w ⟨hk, H⟩
  have hsl := sched_length bs k
  repeat refine c_seq ?_
  refine c_region ?_; refine l_op (o_mv ?_); refine l_op (o_bin rfl rfl (fun _ => b_lss) ?_); first | refine l_end ?_ | refine l_nil ?_
  repeat refine c_seq ?_
  refine c_ifD rfl (fun hlt => ?_) (fun hlt => ?_)
  · have hlt' : k < 48 := by omega
    have hg : ∀ j, j < 16 + k → (padW (sched bs k))[j]? = some (W64 ((sched bs k).getD j 0)) := fun j hj => padW_get _ _ (by omega)
    have x0 : 0 + (((16 + k : Nat) : Int) - 16).toNat * 1 = 16 + k - 16 := by omega
    have x1 : 0 + (((16 + k : Nat) : Int) - 15).toNat * 1 = 16 + k - 15 := by omega
    have x2 : 0 + (((16 + k : Nat) : Int) - 2).toNat * 1 = 16 + k - 2 := by omega
    have x3 : 0 + (((16 + k : Nat) : Int) - 7).toNat * 1 = 16 + k - 7 := by omega
    generalize hA : (sched bs k).getD (16 + k - 16) 0 = xa
    generalize hB : (sched bs k).getD (16 + k - 15) 0 = xb
    generalize hC : (sched bs k).getD (16 + k - 2) 0 = xc
    generalize hD : (sched bs k).getD (16 + k - 7) 0 = xd
    have hnx : nextWord (sched bs k) = ((xa + sg0 xb) + xd) + sg1 xc := by rw [nextWord, hsl, hA, hB, hC, hD]
    refine c_skip ?_; repeat refine c_seq ?_
    refine c_block ?_; repeat refine c_seq ?_
    refine c_still mixed (by kernel_rfl) ?_; replace H := H.drew
    refine s_op (r_mv) ?_; refine s_op (r_bin rfl rfl (fun _ => b_sub (by omega) (by omega))) ?_; refine s_op (r_ia rfl rfl ar101 (by omega) (by omega)) ?_; refine s_op (r_ld H (v := W64 xb) (i := 1) rfl rfl ct91 (by rw [x1, hg _ (by omega), hB])) ?_; refine s_op (r_mv) ?_; refine s_op (r_bin rfl rfl (fun _ => b_sub (by omega) (by omega))) ?_; refine s_op (r_ia rfl rfl ar101 (by omega) (by omega)) ?_; refine s_op (r_ld H (v := W64 xc) (i := 1) rfl rfl ct91 (by rw [x2, hg _ (by omega), hC])) ?_; refine s_op (r_as) ?_; refine s_op (r_as) ?_; refine s_nil ?_; repeat refine c_seq ?_
    refine c_region ?_; refine l_op (o_mv ?_); refine l_op (o_callR Try.func66 rfl rfl rfl (turnW_ret _ _ 7 (by decide) (by decide)) ?_); rintro _ w' ⟨rfl, hw⟩
    rw [hw]; clear hw w'
    refine l_op (o_mv ?_); refine l_op (o_callR Try.func66 rfl rfl rfl (turnW_ret _ _ 18 (by decide) (by decide)) ?_); rintro _ w' ⟨rfl, hw⟩
    rw [hw]; clear hw w'
    refine l_op (o_bin rfl rfl (fun _ => b_xorW) ?_); refine l_op (o_mv ?_); refine l_op (o_callR Try.func67 rfl rfl rfl (downW_ret _ _ 3 (by decide)) ?_); rintro _ w' ⟨rfl, hw⟩
    rw [hw]; clear hw w'
    refine l_op (o_bin (v := W64 (sg0 xb)) rfl rfl (fun _ => b_xorW) ?_); refine l_op (o_as ?_); first | refine l_end ?_ | refine l_nil ?_
    repeat refine c_seq ?_
    refine c_region ?_; refine l_op (o_mv ?_); refine l_op (o_callR Try.func66 rfl rfl rfl (turnW_ret _ _ 17 (by decide) (by decide)) ?_); rintro _ w' ⟨rfl, hw⟩
    rw [hw]; clear hw w'
    refine l_op (o_mv ?_); refine l_op (o_callR Try.func66 rfl rfl rfl (turnW_ret _ _ 19 (by decide) (by decide)) ?_); rintro _ w' ⟨rfl, hw⟩
    rw [hw]; clear hw w'
    refine l_op (o_bin rfl rfl (fun _ => b_xorW) ?_); refine l_op (o_mv ?_); refine l_op (o_callR Try.func67 rfl rfl rfl (downW_ret _ _ 10 (by decide)) ?_); rintro _ w' ⟨rfl, hw⟩
    rw [hw]; clear hw w'
    refine l_op (o_bin (v := W64 (sg1 xc)) rfl rfl (fun _ => b_xorW) ?_); refine l_op (o_as ?_); first | refine l_end ?_ | refine l_nil ?_
    repeat refine c_seq ?_
    refine c_tail 15 mixed (by kernel_rfl) ?_; replace H := H.drew
    refine s_op (r_mv) ?_; refine s_op (r_mv) ?_; refine s_op (r_bin rfl rfl (fun _ => b_sub (by omega) (by omega))) ?_; refine s_op (r_ia rfl rfl ar101 (by omega) (by omega)) ?_; refine s_op (r_ld H (v := W64 xa) (i := 1) rfl rfl ct91 (by rw [x0, hg _ (by omega), hA])) ?_; refine s_op (r_mv) ?_; refine s_op (r_bin rfl rfl (fun _ => b_add_u64)) ?_; refine s_op (r_mv) ?_; refine s_op (r_bin rfl rfl (fun _ => b_sub (by omega) (by omega))) ?_; refine s_op (r_ia rfl rfl ar101 (by omega) (by omega)) ?_; refine s_op (r_ld H (v := W64 xd) (i := 1) rfl rfl ct91 (by rw [x3, hg _ (by omega), hD])) ?_; refine s_op (r_bin rfl rfl (fun _ => b_add_u64)) ?_; refine s_op (r_mv) ?_; refine s_op (r_bin rfl rfl (fun _ => b_add_u64)) ?_; refine s_op (r_bin (v := W64 (nextWord (sched bs k))) rfl (c64 4294967295 (by decide)) (fun _ => b_maskW _ (by rw [hnx]; simp only [UInt64.toUInt32_add, red]))) ?_; refine s_nil ?_; refine l_op (o_ia rfl rfl ar101 (by omega) (by omega) ?_); refine l_op (o_st H (i := 1) (v := W64 (nextWord (sched bs k))) rfl rfl rfl cs91 rfl (by rw [padW_length _ (by omega)]; omega) (fun w H => ?_)); first | refine l_end ?_ | refine l_nil ?_
    have e : (padW (sched bs k)).set (0 + ((16 + k : Nat) : Int).toNat * 1) (W64 (nextWord (sched bs k))) = padW (sched bs (k + 1)) := by
      rw [sched, ← padW_set _ _ (by omega), hsl]; congr 1; omega
    rw [e] at H
    repeat refine c_seq ?_
    refine c_region ?_; refine l_op (o_mv ?_); refine l_op (o_bin rfl rfl (fun _ => b_add (by omega) (by omega)) ?_); refine l_op (o_as ?_); first | refine l_end ?_ | refine l_nil ?_
    refine round_end (k + 1) ?_ ?_ ?_
    · exact ⟨rfl, rfl, rfl, rfl, rfl, trivial⟩
    · exact ⟨by omega, H⟩
    · show 48 - (k + 1) < 48 - k; omega
  · have hk48 : k = 48 := by omega
    subst hk48
    clear hlt hk hsl
    have hcomp : comp st bs = addS st (rnds (sched bs 48) st 64) := rfl
    rw [hcomp]
    have hsl := sched_length bs 48
    obtain ⟨sc, hsc⟩ : ∃ sc, sched bs 48 = sc := ⟨_, rfl⟩
    rw [hsc] at H hsl ⊢
    clear hsc hcomp
    have hpw : primeWords.length = 64 := rfl
    have hpad : padW sc = sc.map W64 := by simp [padW, hsl]
    rw [hpad] at H
    have g1 : ∀ j, j < 64 → (primeWords.map W64)[j]? = some (W64 (primeWords.getD j 0)) := fun j hj => by simp [show j < primeWords.length by omega]
    have g2 : ∀ j, j < 64 → (sc.map W64)[j]? = some (W64 (sc.getD j 0)) := fun j hj => by simp [show j < sc.length by omega]
    refine c_exit ?_; repeat refine c_seq ?_
    refine c_region ?_; refine l_op (o_ldr H (i := 0) rfl rfl rt103 (Nat.le_refl 8) ?_); refine l_op (o_alloc H zc103 (fun b12 w H hb12 => ?_)); refine l_op (o_stw H (i := 4) rfl rfl rfl (by rw [cs103]; rfl) (all_W64 st.l) (by rfl) (fun w H => ?_)); first | refine l_end ?_ | refine l_nil ?_
    repeat refine c_seq ?_
    refine c_region ?_; refine l_op (o_as ?_); first | refine l_end ?_ | refine l_nil ?_
    repeat refine c_seq ?_
    refine c_block ?_; refine c_loop (ι := Nat) (fun i => [(13, VI i), (3, .pointer (some ⟨b3, 0, none⟩)), (4, .pointer (some ⟨b4, 0, none⟩)), (5, .pointer (some ⟨b5, 0, none⟩)), (6, .pointer (some ⟨b6, 0, none⟩)), (12, .pointer (some ⟨b12, 0, none⟩))])
      (fun i w => i ≤ 64 ∧ Hp w0 w [] [.blk b3 (st.l.map W64) 103, .blk b4 (sc.map W64) 101, .blk b5 (primeWords.map W64) 101, .blk b6 (List.replicate 8 (Value.int .u64 0)) 103, .blk b12 ((rnds sc st i).l.map W64) 103])
      (fun i => 64 - i) 0 ⟨rfl, rfl, rfl, rfl, rfl, rfl, trivial⟩ ⟨by omega, by rw [rnds]; exact H⟩ ?_
    clear H
    rintro i τ w ⟨hi, H⟩
    repeat refine c_seq ?_
    refine c_region ?_; refine l_op (o_mv ?_); refine l_op (o_bin rfl rfl (fun _ => b_lss) ?_); first | refine l_end ?_ | refine l_nil ?_
    repeat refine c_seq ?_
    refine c_ifD rfl (fun hlt => ?_) (fun hlt => ?_)
    · have hlt' : i < 64 := by omega
      have x1 : 0 + (i : Int).toNat * 1 = i := by omega
      have e9 := rnds.eq_2 sc st i
      generalize rnds sc st i = r at H e9
      generalize hkk : primeWords.getD i 0 = kk at e9
      generalize hww : sc.getD i 0 = ww at e9
      refine c_skip ?_; repeat refine c_seq ?_
      refine c_block ?_; repeat refine c_seq ?_
      refine c_still mixed (by kernel_rfl) ?_; replace H := H.drew
      refine s_op (r_ia rfl rfl ar103 (by omega) (by omega)) ?_; refine s_op (r_ld H (i := 4) rfl rfl ct91 rfl) ?_; refine s_op (r_ia rfl rfl ar103 (by omega) (by omega)) ?_; refine s_op (r_ld H (i := 4) rfl rfl ct91 rfl) ?_; refine s_op (r_as) ?_; refine s_op (r_as) ?_; refine s_nil ?_; repeat refine c_seq ?_
      refine c_region ?_; refine l_op (o_mv ?_); refine l_op (o_callR Try.func66 rfl rfl rfl (turnW_ret _ _ 6 (by decide) (by decide)) ?_); rintro _ w' ⟨rfl, hw⟩
      rw [hw]; clear hw w'
      refine l_op (o_mv ?_); refine l_op (o_callR Try.func66 rfl rfl rfl (turnW_ret _ _ 11 (by decide) (by decide)) ?_); rintro _ w' ⟨rfl, hw⟩
      rw [hw]; clear hw w'
      refine l_op (o_bin rfl rfl (fun _ => b_xorW) ?_); refine l_op (o_mv ?_); refine l_op (o_callR Try.func66 rfl rfl rfl (turnW_ret _ _ 25 (by decide) (by decide)) ?_); rintro _ w' ⟨rfl, hw⟩
      rw [hw]; clear hw w'
      refine l_op (o_bin rfl rfl (fun _ => b_xorW) ?_); refine l_op (o_as ?_); first | refine l_end ?_ | refine l_nil ?_
      repeat refine c_seq ?_
      refine c_region ?_; refine l_op (o_mv ?_); refine l_op (o_ia rfl rfl ar103 (by omega) (by omega) ?_); refine l_op (o_ld H (i := 4) rfl rfl ct91 rfl ?_); refine l_op (o_bin rfl rfl (fun _ => b_andW) ?_); refine l_op (o_mv ?_); refine l_op (o_bin (c64 4294967295 (by decide)) rfl (fun _ => b_notW) ?_); refine l_op (o_ia rfl rfl ar103 (by omega) (by omega) ?_); refine l_op (o_ld H (i := 4) rfl rfl ct91 rfl ?_); refine l_op (o_bin rfl rfl (fun _ => b_andW) ?_); refine l_op (o_bin rfl rfl (fun _ => b_xorW) ?_); refine l_op (o_as ?_); first | refine l_end ?_ | refine l_nil ?_
      repeat refine c_seq ?_
      refine c_still mixed (by kernel_rfl) ?_; replace H := H.drew
      refine s_op (r_ia rfl rfl ar103 (by omega) (by omega)) ?_; refine s_op (r_ld H (i := 4) rfl rfl ct91 rfl) ?_; refine s_op (r_mv) ?_; refine s_op (r_bin rfl rfl (fun _ => b_add_u64)) ?_; refine s_op (r_mv) ?_; refine s_op (r_bin rfl rfl (fun _ => b_add_u64)) ?_; refine s_op (r_mv) ?_; refine s_op (r_ia rfl rfl ar101 (by omega) (by omega)) ?_; refine s_op (r_ld H (v := W64 kk) (i := 2) rfl rfl ct91 (by rw [x1, g1 i hlt', hkk])) ?_; refine s_op (r_bin rfl rfl (fun _ => b_add_u64)) ?_; refine s_op (r_mv) ?_; refine s_op (r_ia rfl rfl ar101 (by omega) (by omega)) ?_; refine s_op (r_ld H (v := W64 ww) (i := 1) rfl rfl ct91 (by rw [x1, g2 i hlt', hww])) ?_; refine s_op (r_bin rfl rfl (fun _ => b_add_u64)) ?_; refine s_op (r_as) ?_; refine s_nil ?_; repeat refine c_seq ?_
      refine c_region ?_; refine l_op (o_mv ?_); refine l_op (o_callR Try.func66 rfl rfl rfl (turnW_ret _ _ 2 (by decide) (by decide)) ?_); rintro _ w' ⟨rfl, hw⟩
      rw [hw]; clear hw w'
      refine l_op (o_mv ?_); refine l_op (o_callR Try.func66 rfl rfl rfl (turnW_ret _ _ 13 (by decide) (by decide)) ?_); rintro _ w' ⟨rfl, hw⟩
      rw [hw]; clear hw w'
      refine l_op (o_bin rfl rfl (fun _ => b_xorW) ?_); refine l_op (o_mv ?_); refine l_op (o_callR Try.func66 rfl rfl rfl (turnW_ret _ _ 22 (by decide) (by decide)) ?_); rintro _ w' ⟨rfl, hw⟩
      rw [hw]; clear hw w'
      refine l_op (o_bin rfl rfl (fun _ => b_xorW) ?_); refine l_op (o_as ?_); first | refine l_end ?_ | refine l_nil ?_
      repeat refine c_seq ?_
      refine c_region ?_; refine l_op (o_mv ?_); refine l_op (o_ia rfl rfl ar103 (by omega) (by omega) ?_); refine l_op (o_ld H (i := 4) rfl rfl ct91 rfl ?_); refine l_op (o_bin rfl rfl (fun _ => b_andW) ?_); refine l_op (o_mv ?_); refine l_op (o_ia rfl rfl ar103 (by omega) (by omega) ?_); refine l_op (o_ld H (i := 4) rfl rfl ct91 rfl ?_); refine l_op (o_bin rfl rfl (fun _ => b_andW) ?_); refine l_op (o_bin rfl rfl (fun _ => b_xorW) ?_); refine l_op (o_ia rfl rfl ar103 (by omega) (by omega) ?_); refine l_op (o_ld H (i := 4) rfl rfl ct91 rfl ?_); refine l_op (o_ia rfl rfl ar103 (by omega) (by omega) ?_); refine l_op (o_ld H (i := 4) rfl rfl ct91 rfl ?_); refine l_op (o_bin rfl rfl (fun _ => b_andW) ?_); refine l_op (o_bin rfl rfl (fun _ => b_xorW) ?_); refine l_op (o_as ?_); first | refine l_end ?_ | refine l_nil ?_
      repeat refine c_seq ?_
      refine c_region ?_; refine l_op (o_mv ?_); refine l_op (o_mv ?_); refine l_op (o_bin rfl rfl (fun _ => b_add_u64) ?_); refine l_op (o_mv ?_); refine l_op (o_bin rfl rfl (fun _ => b_add_u64) ?_); refine l_op (o_bin (v := W64 (rnd r kk ww).a) rfl (c64 4294967295 (by decide)) (fun _ => b_maskW _ (by simp only [UInt64.toUInt32_add, red]; exact UInt32.add_assoc _ _ _)) ?_); refine l_op (o_ia rfl rfl ar103 (by omega) (by omega) ?_); refine l_op (o_ld H (i := 4) rfl rfl ct91 rfl ?_); refine l_op (o_ia rfl rfl ar103 (by omega) (by omega) ?_); refine l_op (o_ld H (i := 4) rfl rfl ct91 rfl ?_); refine l_op (o_ia rfl rfl ar103 (by omega) (by omega) ?_); refine l_op (o_ld H (i := 4) rfl rfl ct91 rfl ?_); refine l_op (o_ia rfl rfl ar103 (by omega) (by omega) ?_); refine l_op (o_ld H (i := 4) rfl rfl ct91 rfl ?_); refine l_op (o_mv ?_); refine l_op (o_bin rfl rfl (fun _ => b_add_u64) ?_); refine l_op (o_bin (v := W64 (rnd r kk ww).e) rfl (c64 4294967295 (by decide)) (fun _ => b_maskW _ (by simp only [UInt64.toUInt32_add, red]; rfl)) ?_); refine l_op (o_ia rfl rfl ar103 (by omega) (by omega) ?_); refine l_op (o_ld H (i := 4) rfl rfl ct91 rfl ?_); refine l_op (o_ia rfl rfl ar103 (by omega) (by omega) ?_); refine l_op (o_ld H (i := 4) rfl rfl ct91 rfl ?_); refine l_op (o_ia rfl rfl ar103 (by omega) (by omega) ?_); refine l_op (o_ld H (i := 4) rfl rfl ct91 rfl ?_); refine l_op (o_bld' (pv := en 0 ((rnd r kk ww).l.map W64)) bd103 rfl (fill_en _ (all_W64 _) rfl) ?_); refine l_op (o_stw H (i := 4) rfl rfl rfl (by rw [cs103]; rfl) (all_W64 _) (by rfl) (fun w H => ?_)); first | refine l_end ?_ | refine l_nil ?_
      repeat refine c_seq ?_
      refine c_region ?_; refine l_op (o_mv ?_); refine l_op (o_bin rfl rfl (fun _ => b_add (by omega) (by omega)) ?_); refine l_op (o_as ?_); first | refine l_end ?_ | refine l_nil ?_
      refine round_end (i + 1) ?_ ?_ ?_
      · exact ⟨rfl, rfl, rfl, rfl, rfl, rfl, trivial⟩
      · exact ⟨hlt', by rw [e9]; exact H⟩
      · show 64 - (i + 1) < 64 - i; omega
    · have hi64 : i = 64 := by omega
      subst hi64
      clear hlt hi
      obtain ⟨rr, hrr⟩ : ∃ rr, rnds sc st 64 = rr := ⟨_, rfl⟩
      rw [hrr] at H ⊢
      clear hrr
      refine c_exit ?_; repeat refine c_seq ?_
      refine c_region ?_; refine l_op (o_as ?_); first | refine l_end ?_ | refine l_nil ?_
      repeat refine c_seq ?_
      refine c_block ?_; refine c_loop (ι := Nat) (fun i => [(21, VI i), (3, .pointer (some ⟨b3, 0, none⟩)), (6, .pointer (some ⟨b6, 0, none⟩)), (12, .pointer (some ⟨b12, 0, none⟩))])
        (fun i w => i ≤ 8 ∧ Hp w0 w [] [.blk b3 ((parts (addS st rr).l st.l i).map W64) 103, .blk b4 (sc.map W64) 101, .blk b5 (primeWords.map W64) 101, .blk b6 (List.replicate 8 (Value.int .u64 0)) 103, .blk b12 (rr.l.map W64) 103])
        (fun i => 8 - i) 0 ⟨rfl, rfl, rfl, rfl, trivial⟩ ⟨by omega, H⟩ ?_
      clear H
      rintro i τ w ⟨hi, H⟩
      repeat refine c_seq ?_
      refine c_region ?_; refine l_op (o_mv ?_); refine l_op (o_bin rfl rfl (fun _ => b_lss) ?_); first | refine l_end ?_ | refine l_nil ?_
      repeat refine c_seq ?_
      refine c_ifD rfl (fun hlt => ?_) (fun hlt => ?_)
      · have hlt' : i < 8 := by omega
        have h8 : (addS st rr).l.length = 8 := rfl
        have h8' : st.l.length = 8 := rfl
        have hpl8 : (parts (addS st rr).l st.l i).length = 8 := parts_length _ _ i rfl (by omega)
        have x1 : 0 + (i : Int).toNat * 1 = i := by omega
        have g3 : ((parts (addS st rr).l st.l i).map W64)[i]? = some (W64 (st.l.getD i 0)) := by
          rw [← parts_get _ _ i (h8.trans h8'.symm) (by omega)]
          simp [show i < (parts (addS st rr).l st.l i).length by omega]
        have g4 : (rr.l.map W64)[i]? = some (W64 (rr.l.getD i 0)) := by
          have : i < rr.l.length := hlt'
          simp [this]
        refine c_skip ?_; repeat refine c_seq ?_
        refine c_block ?_; repeat refine c_seq ?_
        refine c_tail 9 mixed (by kernel_rfl) ?_; replace H := H.drew
        refine s_op (r_mv) ?_; refine s_op (r_mv) ?_; refine s_op (r_ia rfl rfl ar103 (by omega) (by omega)) ?_; refine s_op (r_ld H (i := 0) rfl rfl ct91 (by rw [x1]; exact g3)) ?_; refine s_op (r_mv) ?_; refine s_op (r_ia rfl rfl ar103 (by omega) (by omega)) ?_; refine s_op (r_ld H (i := 4) rfl rfl ct91 (by rw [x1]; exact g4)) ?_; refine s_op (r_bin rfl rfl (fun _ => b_add_u64)) ?_; refine s_op (r_bin (v := W64 ((addS st rr).l.getD i 0)) rfl (c64 4294967295 (by decide)) (fun _ => b_maskW _ (by simp only [UInt64.toUInt32_add, red]; exact add_get _ _ i hlt'))) ?_; refine s_nil ?_; refine l_op (o_ia rfl rfl ar103 (by omega) (by omega) ?_); refine l_op (o_st H (i := 0) (v := W64 ((addS st rr).l.getD i 0)) rfl rfl rfl cs91 rfl (by rw [x1, List.length_map, hpl8]; exact hlt') (fun w H => ?_)); first | refine l_end ?_ | refine l_nil ?_
        have e : ((parts (addS st rr).l st.l i).map W64).set (0 + (i : Int).toNat * 1) (W64 ((addS st rr).l.getD i 0)) = (parts (addS st rr).l st.l (i + 1)).map W64 := by
          rw [x1, ← List.map_set, parts_set _ _ i (h8.trans h8'.symm) (by omega)]
        rw [e] at H
        repeat refine c_seq ?_
        refine c_region ?_; refine l_op (o_mv ?_); refine l_op (o_bin rfl rfl (fun _ => b_add (by omega) (by omega)) ?_); refine l_op (o_as ?_); first | refine l_end ?_ | refine l_nil ?_
        refine round_end (i + 1) ?_ ?_ ?_
        · exact ⟨rfl, rfl, rfl, rfl, trivial⟩
        · exact ⟨by omega, H⟩
        · show 8 - (i + 1) < 8 - i; omega
      · have hi8 : i = 8 := by omega
        subst hi8
        refine c_exit ?_; repeat refine c_seq ?_
        refine c_region ?_; refine l_op (o_ldr H (i := 0) rfl rfl rt103 (Nat.le_refl 8) ?_); refine l_op (o_stw H (i := 3) rfl rfl rfl (by rw [cs103]; rfl) (all_W64 (addS st rr).l) (by rfl) (fun w H => ?_)); first | refine l_end ?_ | refine l_nil ?_
        refine c_ret (e_retc Try.results53 H (i := 3) rfl rfl rt103 (by rfl) ⟨_, rfl, rfl, ?_⟩); exact H.sub (List.nil_sublist _)
end Go.Proofs.Ytomjbabllcmodaa
namespace Go.Proofs.Ytomjbabllcmodaa
open Go
/-- the sixty-four words when i bytes have been read. -/
def wpart (bs : List UInt8) (i : Nat) : List Value := (List.range 64).map fun j => V64 (UInt64.ofNat (pwN bs j (min 4 (i - 4 * j))))
theorem wpart_length (bs : List UInt8) (i : Nat) : (wpart bs i).length = 64 := by simp [wpart]
theorem wpart_get (bs : List UInt8) (i : Nat) (h : i < 64) : (wpart bs i)[i / 4]? = some (V64 (UInt64.ofNat (pwN bs (i / 4) (i % 4)))) := by
  have e : min 4 (i - 4 * (i / 4)) = i % 4 := by omega
  simp [wpart, List.getElem?_range (show i / 4 < 64 by omega), e]
theorem wpart_set (bs : List UInt8) (i : Nat) (h : i < 64) : (wpart bs i).set (i / 4) (V64 (UInt64.ofNat (pwN bs (i / 4) (i % 4 + 1)))) = wpart bs (i + 1) := by
  apply List.ext_getElem?
  intro j
  rw [List.getElem?_set, wpart_length]
  by_cases hj : i / 4 = j
  · subst hj
    have e : min 4 (i + 1 - 4 * (i / 4)) = i % 4 + 1 := by omega
    rw [if_pos rfl, if_pos (by omega)]
    simp [wpart, List.getElem?_range (show i / 4 < 64 by omega), e]
  · rw [if_neg hj]
    by_cases hl : j < 64
    · have e : min 4 (i - 4 * j) = min 4 (i + 1 - 4 * j) := by omega
      simp [wpart, List.getElem?_range hl, e]
    · simp [wpart, show 64 ≤ j by omega]
theorem wpart_zero (bs : List UInt8) : wpart bs 0 = List.replicate 64 (Value.int .u64 0) := by
  apply List.ext_getElem?
  intro j
  by_cases hl : j < 64
  · rw [List.getElem?_replicate, if_pos hl]; simp [wpart, List.getElem?_range hl, pwN, V64]
  · simp [wpart, show 64 ≤ j by omega]
theorem ofNat_word (x : UInt32) : UInt64.ofNat x.toNat = x.toUInt64 := by
  apply UInt64.toNat_inj.1
  have := x.toNat_lt
  rw [UInt64.toNat_ofNat', UInt32.toNat_toUInt64]; omega
theorem firsts_get (bs : List UInt8) : ∀ (n j : Nat), j < n → (firsts bs n)[j]? = some (wordAt bs j)
  | 0, _, h => by omega
  | n + 1, j, h => by
    by_cases hj : j < n
    · rw [firsts, List.getElem?_append_left (by rw [firsts_length]; exact hj)]; exact firsts_get bs n j hj
    · have : j = n := by omega
      subst this
      rw [firsts, List.getElem?_append_right (by rw [firsts_length]; exact Nat.le_refl _), firsts_length]; simp
theorem wpart_all (bs : List UInt8) : wpart bs 64 = padW (firsts bs 16) := by
  apply List.ext_getElem?
  intro j
  have hfl := firsts_length bs 16
  by_cases h1 : j < 16
  · have e : min 4 (64 - 4 * j) = 4 := by omega
    rw [padW, List.getElem?_append_left (by rw [List.length_map, hfl]; exact h1), List.getElem?_map, firsts_get bs 16 j h1]
    simp [wpart, List.getElem?_range (show j < 64 by omega), e, ← wordAt_nat, W64]
  · by_cases hl : j < 64
    · have e : 64 - 4 * j = 0 := by omega
      rw [padW, List.getElem?_append_right (by rw [List.length_map, hfl]; omega), List.length_map, hfl, List.getElem?_replicate, if_pos (by omega)]
      simp [wpart, List.getElem?_range hl, e, pwN, W64]
    · rw [List.getElem?_eq_none (by rw [wpart_length]; omega), List.getElem?_eq_none (by rw [padW_length _ (by omega)]; omega)]
end Go.Proofs.Ytomjbabllcmodaa
namespace Go.Proofs.Ytomjbabllcmodaa
open Go
theorem step1_m (s : HS) (b : UInt8) : (step1 s b).m = s.m + 1 := by unfold step1; split <;> rfl
theorem absorb_m (l : List UInt8) : ∀ s : HS, (absorb s l).m = s.m + UInt64.ofNat l.length := by
  induction l with
  | nil => intro s; simp [absorb]
  | cons b l ih => intro s; rw [absorb, ih, step1_m, add_one]; rfl
/-- how many zeros there are behind the byte 128. -/
def zerosOf (m : UInt64) : Nat := (119 - m.toNat % 64) % 64
def lenBytes (m : UInt64) : List UInt8 := (List.range 8).map fun i => ((m <<< 3) >>> UInt64.ofNat (56 - 8 * i)).toUInt8
theorem lenBytes_length (m : UInt64) : (lenBytes m).length = 8 := by simp [lenBytes]
theorem lenBytes_succ (m : UInt64) (i : Nat) (h : i < 8) : (lenBytes m).take (i + 1) = (lenBytes m).take i ++ [((m <<< 3) >>> UInt64.ofNat (56 - 8 * i)).toUInt8] := by
  rw [List.take_succ_eq_append_getElem (by rw [lenBytes_length]; exact h)]
  simp [lenBytes]
def tailOf (m : UInt64) : List UInt8 := 128 :: (List.replicate (zerosOf m) 0 ++ lenBytes m)
def closed (s : HS) : HS := absorb s (tailOf s.m)
def wordBytes (l : List UInt32) : List UInt8 := (List.range 32).map fun j => ((l.getD (j / 4) 0) >>> UInt32.ofNat (24 - 8 * (j % 4))).toUInt8
def digest (s : HS) : List UInt8 := wordBytes (closed s).st.l
theorem wordBytes_length (l : List UInt32) : (wordBytes l).length = 32 := by simp [wordBytes]
theorem digest_length (s : HS) : (digest s).length = 32 := wordBytes_length _
end Go.Proofs.Ytomjbabllcmodaa
namespace Go.Proofs.Ytomjbabllcmodaa
open Go
def foldB (st : S8) (M : List UInt8) : Nat → S8
  | 0 => st
  | n + 1 => comp (foldB st M n) ((M.drop (64 * n)).take 64)
theorem foldB_ext (st : S8) (M M' : List UInt8) : ∀ n, M.take (64 * n) = M'.take (64 * n) → foldB st M n = foldB st M' n
  | 0, _ => rfl
  | n + 1, h => by
    have h1 : M.take (64 * n) = M'.take (64 * n) := by
      have := congrArg (List.take (64 * n)) h
      rwa [List.take_take, List.take_take, Nat.min_eq_left (by omega)] at this
    have h2 : (M.drop (64 * n)).take 64 = (M'.drop (64 * n)).take 64 := by
      have := congrArg (List.drop (64 * n)) h
      rwa [List.drop_take, List.drop_take, show 64 * (n + 1) - 64 * n = 64 by omega] at this
    rw [foldB, foldB, foldB_ext st M M' n h1, h2]
theorem absorb_blocks (s : HS) (hwt : s.wt.length = 64) (hat : s.at_ = 0) : ∀ (n : Nat) (M : List UInt8), M.length = 64 * n → (absorb s M).st = foldB s.st M n
  | 0, M, h => by
    have : M = [] := List.length_eq_zero_iff.1 (by omega)
    subst this; rfl
  | n + 1, M, h => by
    have ih := absorb_blocks s hwt hat n (M.take (64 * n)) (by rw [List.length_take]; omega)
    have e : M = M.take (64 * n) ++ M.drop (64 * n) := (List.take_append_drop _ _).symm
    have hl : (M.drop (64 * n)).length = 64 := by rw [List.length_drop]; omega
    have ha : (absorb s (M.take (64 * n))).at_ = 0 := by
      simp only [HS.at_] at hat ⊢
      rw [absorb_m, List.length_take, UInt64.toNat_add, UInt64.toNat_ofNat', Nat.min_eq_left (by omega)]
      omega
    have hw : (absorb s (M.take (64 * n))).wt.length = 64 := by rw [absorb_wt, hwt]
    have hf := absorb_full (M.drop (64 * n)) (absorb s (M.take (64 * n))) hw (by rw [ha, hl]) (fun e => by rw [e] at hl; simp at hl)
    have hsp : spl (absorb s (M.take (64 * n))).wt 0 (M.drop (64 * n)) = M.drop (64 * n) := by
      have hd : (absorb s (M.take (64 * n))).wt.drop (0 + (M.drop (64 * n)).length) = [] := List.drop_of_length_le (by rw [hl]; omega)
      unfold spl
      rw [hd, List.take_zero, List.nil_append, List.append_nil]
    rw [ha, hsp] at hf
    have e2 : absorb s M = absorb (absorb s (M.take (64 * n))) (M.drop (64 * n)) := by rw [← absorb_append, ← e]
    rw [e2, hf]
    simp only
    rw [ih, foldB, foldB_ext s.st (M.take (64 * n)) M n (by rw [List.take_take, Nat.min_self]), List.take_of_length_le (Nat.le_of_eq hl)]
/-- the text with what stands behind it. -/
def padded (l : List UInt8) : List UInt8 := l ++ tailOf (UInt64.ofNat l.length)
theorem init_at : HS.at_ HS.init = 0 := rfl
theorem digest_padded (l : List UInt8) (n : Nat) (h : (padded l).length = 64 * n) : digest (absorb HS.init l) = wordBytes (foldB initS (padded l) n).l := by
  have hm : (absorb HS.init l).m = UInt64.ofNat l.length := by
    rw [absorb_m]
    show (0 : UInt64) + _ = _
    rw [UInt64.zero_add]
  rw [digest, closed, hm, ← absorb_append]
  have := absorb_blocks HS.init rfl init_at n (padded l) h
  rw [padded] at this
  rw [this]; rfl
theorem padded_len (l : List UInt8) (h : l.length < 1152921504606846976) : 64 ∣ (padded l).length := by
  have e : (UInt64.ofNat l.length).toNat = l.length := by rw [UInt64.toNat_ofNat']; omega
  simp only [padded, tailOf, zerosOf, e, List.length_append, List.length_cons, List.length_replicate, lenBytes_length]
  omega
end Go.Proofs.Ytomjbabllcmodaa
namespace Go.Proofs.Ytomjbabllcmodaa
open Go
/-- the hash of a text. -/
def sha256 (l : List UInt8) : List UInt8 := digest (absorb HS.init l)
theorem sha256_len (l : List UInt8) : (sha256 l).length = 32 := digest_length _
theorem sha256_eq (l : List UInt8) : sha256 l = digest (absorb HS.init l) := rfl
end Go.Proofs.Ytomjbabllcmodaa
namespace Go.Proofs.Ytomjbabllcmodaa
open Go
set_option maxRecDepth 100000
/-- the text, 128 and j zeros. -/
def pz (l : List UInt8) (j : Nat) : List UInt8 := l ++ 128 :: List.replicate j 0
theorem pz_succ (l : List UInt8) (j : Nat) : pz l j ++ [0] = pz l (j + 1) := by simp [pz, List.replicate_succ']
def Zn (n : Nat) : Nat := (119 - n % 64) % 64
theorem mul8N (n : Nat) : UInt64.ofNat (n * 8) = UInt64.ofNat n <<< (3 : UInt64) := by
  rw [UInt64.ofNat_mul]
  apply UInt64.toNat_inj.1
  rw [UInt64.toNat_mul, UInt64.toNat_shiftLeft, Nat.shiftLeft_eq]
  rfl
/-- the text, what is behind it, and i bytes of its length. -/
def plen (l : List UInt8) (n i : Nat) : List UInt8 := pz l (Zn n) ++ (lenBytes (UInt64.ofNat n)).take i
theorem zeros_Zn (n : Nat) : zerosOf (UInt64.ofNat n) = Zn n := by
  rw [zerosOf, UInt64.toNat_ofNat', Zn]; congr 2; omega
theorem plen_zero (l : List UInt8) (n : Nat) : pz l (Zn n) = plen l n 0 := by simp [plen]
theorem plen_succ (l : List UInt8) (n i : Nat) (h : i < 8) (k : Nat) (hk : k = 56 - 8 * i) : plen l n i ++ [(UInt64.ofNat (n * 8) >>> UInt64.ofNat k).toUInt8] = plen l n (i + 1) := by
  rw [plen, plen, lenBytes_succ _ i h, mul8N, hk, List.append_assoc]
theorem plen_all (l : List UInt8) (n : Nat) (h : l.length = n) : plen l n 8 = padded l := by
  rw [plen, List.take_of_length_le (Nat.le_of_eq (lenBytes_length _)), padded, tailOf, pz, h, zeros_Zn]; simp
theorem padded_length (l : List UInt8) (n : Nat) (h : l.length = n) (_hn : n < 1152921504606846976) : (padded l).length = n + 1 + Zn n + 8 := by
  rw [padded, tailOf, h, zeros_Zn]; simp [lenBytes_length, h]; omega
theorem W64_word (x : UInt32) (q k : Nat) (hk : k = 24 - 8 * (q % 4)) : (x.toUInt64 >>> UInt64.ofNat k).toUInt8 = (x >>> UInt32.ofNat (24 - 8 * (q % 4))).toUInt8 := by
  apply UInt8.toNat_inj.1
  have e1 : (UInt64.ofNat k).toNat % 64 = k := by rw [UInt64.toNat_ofNat']; omega
  have e2 : (UInt32.ofNat (24 - 8 * (q % 4))).toNat % 32 = 24 - 8 * (q % 4) := by rw [UInt32.toNat_ofNat']; omega
  rw [UInt64.toNat_toUInt8, UInt64.toNat_shiftRight, e1, UInt32.toNat_toUInt8, UInt32.toNat_shiftRight, e2, UInt32.toNat_toUInt64, hk]
theorem u8_u64 (x : UInt8) : x.toUInt64 = UInt64.ofNat x.toNat := by
  apply UInt64.toNat_inj.1
  have := u8_lt x
  rw [UInt8.toNat_toUInt64, UInt64.toNat_ofNat']; omega
theorem wstep (M : List UInt8) (i q : Nat) (hq : q < 64) (x : UInt8) (hx : x = M.getD (64 * i + q) 0) :
    UInt64.ofNat (pwN ((M.drop (64 * i)).take 64) (q / 4) (q % 4) * 256) + x.toUInt64 = UInt64.ofNat (pwN ((M.drop (64 * i)).take 64) (q / 4) (q % 4 + 1)) := by
  have e : ((M.drop (64 * i)).take 64).getD (4 * (q / 4) + q % 4) 0 = x := by
    rw [show 4 * (q / 4) + q % 4 = q by omega, hx, List.getD_eq_getElem?_getD, List.getD_eq_getElem?_getD, List.getElem?_take_of_lt hq, List.getElem?_drop]
  rw [pwN, e, UInt64.ofNat_add, u8_u64]
/-- the first q bytes of a hash, zeros behind. -/
def wbp (W : List UInt32) (q : Nat) : List UInt8 := (wordBytes W).take q ++ List.replicate (32 - q) 0
theorem wbp_len (W : List UInt32) (q : Nat) (h : q ≤ 32) : (wbp W q).length = 32 := by simp [wbp, wordBytes_length]; omega
theorem wbp_set (W : List UInt32) (q : Nat) (h : q < 32) (v : UInt8) (hv : v = ((W.getD (q / 4) 0) >>> UInt32.ofNat (24 - 8 * (q % 4))).toUInt8) : (wbp W q).set q v = wbp W (q + 1) := by
  have hl : ((wordBytes W).take q).length = q := by simp [wordBytes_length]; omega
  have hg : (wordBytes W)[q]? = some v := by rw [hv, wordBytes]; simp [h]
  unfold wbp
  rw [List.set_append_right _ _ (by omega), hl, Nat.sub_self, show 32 - q = (32 - (q + 1)) + 1 by omega, List.replicate_succ, List.set_cons_zero, List.take_add_one, hg]
  simp
theorem wbp_all (W : List UInt32) : wbp W 32 = wordBytes W := by
  rw [wbp, List.take_of_length_le (Nat.le_of_eq (wordBytes_length _))]; simp
theorem W64_get (l : List UInt32) (k : Nat) (h : k < l.length) : (l.map W64)[k]? = some (V64 ((l.getD k 0).toUInt64)) := by
  simp [List.getD_eq_getElem?_getD, h, W64]
theorem foldB0 (M : List UInt8) : foldB initS M 0 = initS := rfl
attribute [local irreducible] padded wordBytes lenBytes plen
set_option maxHeartbeats 4000000 in
theorem sum2_ret (w0 : World) (s : Sl) (hs : s.ok w0) (hm : s.len ≤ 1048576) :
    Ret Try.prog 36 [s.v] w0 fun v w' => v = .agg ((sha256 s.l).map V8).toArray ∧ Hp w0 w' [] [] := by
  refine ret_mk Try.func36 rfl Try.ntmps36 (by simp) ?_
  have H := Hp.refl w0 []
  have hln := hs.ln
  have hle := hs.le
  repeat refine c_seq ?_
  refine c_region ?_; refine l_op (o_alloc H zc29 (fun b1 w H hb1 => ?_)); replace H : Hp _ w _ ([.blk b1 ((List.replicate 32 (0 : UInt8)).map V8) 29]) := H
  first | refine l_end ?_ | refine l_nil ?_
  repeat refine c_seq ?_
  refine c_region ?_; refine l_op (o_callR Try.func52 rfl rfl rfl (keys_ret _) ?_); rintro _ w ⟨rfl, Hc⟩
  replace H : Hp _ w _ ([_]) := H.call Hc
  clear Hc
  refine l_op (o_alloc H zc101 (fun b2 w H hb2 => ?_)); replace H : Hp _ w _ ([_, .blk b2 ((List.replicate 64 (Value.int .u64 0))) 101]) := H
  refine l_op (o_stw (vs := (primeWords.map W64).toArray) H (i := 1) rfl rfl rfl (by rw [cs101]; rfl) (all_W64 _) (by rfl) (fun w H => ?_)); replace H : Hp _ w _ ([_, .blk b2 (primeWords.map W64) 101]) := H
  first | refine l_end ?_ | refine l_nil ?_
  repeat refine c_seq ?_
  refine c_region ?_; refine l_op (o_bslB (([] : List UInt8)) H sl32 zc5 rfl rfl (by decide) (fun b3 w H hb3 => ?_)); replace H : Hp _ w _ ([_, _, .own (some b3) 0 0 ((([] : List UInt8)).map V8) 5 1]) := H
  refine l_op (o_val r_mv ?_); refine l_op (o_appB (s := s) (l' := s.l) (len' := s.len) rfl (Nat.zero_add _) H (i := 2) rfl sl32 Try.underlying32 rfl rfl (hs.up H (fun _ => apart_nil _)) (by omega) (fun a4 c5 w H => ?_)); replace H : Hp _ w _ ([_, _, .own a4 s.len c5 ((s.l).map V8) 5 1]) := H
  refine l_op (o_bslB ([(128 : UInt8)]) H sl32 zc5 rfl rfl (by decide) (fun b6 w H hb6 => ?_)); replace H : Hp _ w _ ([_, _, _, .own (some b6) 1 1 (([(128 : UInt8)]).map V8) 5 1]) := H
  refine l_op (o_appB (s := ⟨hd (some b6), 1, 1, [(128 : UInt8)]⟩) (l' := s.l ++ ([(128 : UInt8)])) (len' := s.len + 1) rfl rfl H (i := 2) rfl sl32 Try.underlying32 rfl rfl (H.slOwn (i := 3) rfl) (by omega) (fun a7 c8 w H => ?_)); replace H : Hp _ w _ ([_, _, .own a7 (s.len + 1) c8 ((s.l ++ ([(128 : UInt8)])).map V8) 5 1, _]) := H
  refine l_op (o_val r_as ?_); first | refine l_end ?_ | refine l_nil ?_
  repeat refine c_seq ?_
  refine c_block ?_; repeat refine c_seq ?_
  refine c_loop3 (fun (j : Nat) (a : Option Nat) (c : Nat) => [(0, s.v), (2, .pointer (some ⟨b1, 0, none⟩)), (3, .pointer (some ⟨b2, 0, none⟩)), (4, .slice (hd a) (s.len + 1 + j) c)])
    (fun (j : Nat) (a : Option Nat) (c : Nat) w => (j ≤ Zn s.len) ∧ Hp w0 w [] ([.blk b1 ((List.replicate 32 (0 : UInt8)).map V8) 29, .blk b2 (primeWords.map W64) 101, .own a (s.len + 1 + j) c ((pz s.l j).map V8) 5 1]))
    (fun (j : Nat) (a : Option Nat) (c : Nat) => Zn s.len - j) 0 a7 c8 ⟨rfl, rfl, rfl, rfl, trivial⟩ ⟨Nat.zero_le _, H.sub (.cons_cons _ (.cons_cons _ (.cons_cons _ (List.nil_sublist _))))⟩ ?_
  clear H
  rintro j a c τ w ⟨hj, H⟩
  have hZ : Zn s.len = (119 - s.len % 64) % 64 := rfl
  repeat refine c_seq ?_
  refine c_region ?_; refine l_op (o_val r_mv ?_); refine l_op (o_val (r_lens el32 rfl) ?_); refine l_op (o_val (r_bin (a := ((s.len + 1 + j : Nat) : Int)) (b := 64) rfl rfl (fun _ => b_rem (by omega) (by omega))) ?_); refine l_op (o_val (r_bin (a := ((s.len + 1 + j : Nat) : Int) % 64) (b := 56) rfl rfl (fun _ => b_neq)) ?_); first | refine l_end ?_ | refine l_nil ?_
  by_cases hc9 : ((s.len + 1 + j : Nat) : Int) % 64 ≠ 56
  ·
   repeat refine c_seq ?_
   refine c_yes (by exact congrArg Value.bool (decide_eq_true hc9)) ?_; refine c_skip ?_; repeat refine c_seq ?_
   refine c_block ?_; repeat refine c_seq ?_
   refine c_region ?_; refine l_op (o_val r_mv ?_); refine l_op (o_bslB ([(0 : UInt8)]) H sl32 zc5 rfl rfl (by decide) (fun b10 w H hb10 => ?_)); replace H : Hp _ w _ ([_, _, _, .own (some b10) 1 1 (([(0 : UInt8)]).map V8) 5 1]) := H
   refine l_op (o_appB (s := ⟨hd (some b10), 1, 1, [(0 : UInt8)]⟩) (l' := pz s.l (j + 1)) (len' := s.len + 1 + (j + 1)) (pz_succ _ _) rfl H (i := 2) rfl sl32 Try.underlying32 rfl rfl (H.slOwn (i := 3) rfl) (by omega) (fun a11 c12 w H => ?_)); replace H : Hp _ w _ ([_, _, .own a11 (s.len + 1 + (j + 1)) c12 ((pz s.l (j + 1)).map V8) 5 1, _]) := H
   refine l_op (o_val r_as ?_); first | refine l_end ?_ | refine l_nil ?_
   refine round_end (j + 1, a11, c12) ?_ ?_ ?_
   · exact ⟨rfl, rfl, rfl, rfl, trivial⟩
   · refine ⟨?_, ?_⟩
     · try dsimp only
       exact by omega
     · exact H.sub (.cons_cons _ (.cons_cons _ (.cons_cons _ (List.nil_sublist _))))
   · show Zn s.len - (j + 1 : Nat) < Zn s.len - j; omega
  ·
   repeat refine c_seq ?_
   refine c_no (by exact congrArg Value.bool (decide_eq_false hc9)) ?_; refine c_exit ?_; have hjz : j = Zn s.len := by omega
   subst hjz
   clear hj
   rw [plen_zero] at H
   replace H : Hp _ w _ ([_, _, .own a (s.len + 1 + Zn s.len) c ((plen s.l s.len 0).map V8) 5 1]) := H
   repeat refine c_seq ?_
   refine c_region ?_; refine l_op (o_val r_mv ?_); refine l_op (o_val (r_lens el32 rfl) ?_); refine l_op (o_val (r_conv (v := ((UInt64.ofNat s.len).toNat : Int)) Try.underlying3 Try.underlying91 rfl (w_u64_N s.len (by omega))) ?_); refine l_op (o_val (r_bin rfl (c64 8 (by decide)) (fun _ => b_mul_u64N)) ?_); refine l_op (o_val r_as ?_); first | refine l_end ?_ | refine l_nil ?_
   repeat refine c_seq ?_
   refine c_region ?_; refine l_op (o_val r_as ?_); first | refine l_end ?_ | refine l_nil ?_
   repeat refine c_seq ?_
   refine c_block ?_; repeat refine c_seq ?_
   refine c_loop3 (fun (i : Nat) (a : Option Nat) (c : Nat) => [(2, .pointer (some ⟨b1, 0, none⟩)), (3, .pointer (some ⟨b2, 0, none⟩)), (4, .slice (hd a) (s.len + 1 + Zn s.len + i) c), (5, V64 (UInt64.ofNat (s.len * 8))), (6, VI (i : Int))])
     (fun (i : Nat) (a : Option Nat) (c : Nat) w => (i ≤ 8) ∧ Hp w0 w [] ([.blk b1 ((List.replicate 32 (0 : UInt8)).map V8) 29, .blk b2 (primeWords.map W64) 101, .own a (s.len + 1 + Zn s.len + i) c ((plen s.l s.len i).map V8) 5 1]))
     (fun (i : Nat) (a : Option Nat) (c : Nat) => 8 - i) 0 a c ⟨rfl, rfl, rfl, rfl, rfl, trivial⟩ ⟨Nat.zero_le _, H⟩ ?_
   clear H
   rintro i a c τ w ⟨hi, H⟩
   have hZ : Zn s.len = (119 - s.len % 64) % 64 := rfl
   repeat refine c_seq ?_
   refine c_region ?_; refine l_op (o_val r_mv ?_); refine l_op (o_val (r_bin (a := (i : Int)) (b := 8) rfl rfl (fun _ => b_lss)) ?_); first | refine l_end ?_ | refine l_nil ?_
   by_cases hc13 : (i : Int) < 8
   ·
    repeat refine c_seq ?_
    refine c_yes (by exact congrArg Value.bool (decide_eq_true hc13)) ?_; refine c_skip ?_; repeat refine c_seq ?_
    refine c_block ?_; repeat refine c_seq ?_
    refine c_region ?_; refine l_op (o_val r_mv ?_); refine l_op (o_val r_mv ?_); refine l_op (o_val r_mv ?_); refine l_op (o_val (r_bin (a := 8) (b := (i : Int)) rfl rfl (fun _ => b_mul (by omega) (by omega))) ?_); refine l_op (o_val (r_bin (a := 56) (b := 8 * (i : Int)) rfl rfl (fun _ => b_sub (by omega) (by omega))) ?_); refine l_op (o_val (r_shift rfl rfl (.inr rfl) (fun _ => b_shr_u64 (by omega) (by omega))) ?_); refine l_op (o_val (r_conv Try.underlying91 Try.underlying5 rfl (w_u8_64 _)) ?_); refine l_op (o_bslB ([((UInt64.ofNat (s.len * 8)) >>> UInt64.ofNat (56 - (8 * (i : Int))).toNat).toUInt8]) H sl32 zc5 rfl rfl (by decide) (fun b14 w H hb14 => ?_)); replace H : Hp _ w _ ([_, _, _, .own (some b14) 1 1 (([((UInt64.ofNat (s.len * 8)) >>> UInt64.ofNat (56 - (8 * (i : Int))).toNat).toUInt8]).map V8) 5 1]) := H
    refine l_op (o_appB (s := ⟨hd (some b14), 1, 1, [((UInt64.ofNat (s.len * 8)) >>> UInt64.ofNat (56 - (8 * (i : Int))).toNat).toUInt8]⟩) (l' := plen s.l s.len (i + 1)) (len' := s.len + 1 + Zn s.len + (i + 1)) (plen_succ _ _ _ (by omega) _ (by omega)) rfl H (i := 2) rfl sl32 Try.underlying32 rfl rfl (H.slOwn (i := 3) rfl) (by omega) (fun a15 c16 w H => ?_)); replace H : Hp _ w _ ([_, _, .own a15 (s.len + 1 + Zn s.len + (i + 1)) c16 ((plen s.l s.len (i + 1)).map V8) 5 1, _]) := H
    refine l_op (o_val r_as ?_); first | refine l_end ?_ | refine l_nil ?_
    repeat refine c_seq ?_
    refine c_region ?_; refine l_op (o_val r_mv ?_); refine l_op (o_val (r_bin (a := (i : Int)) (b := 1) rfl rfl (fun _ => b_add (by omega) (by omega))) ?_); refine l_op (o_val r_as ?_); first | refine l_end ?_ | refine l_nil ?_
    refine round_end (i + 1, a15, c16) ?_ ?_ ?_
    · exact ⟨rfl, rfl, rfl, rfl, show VI ((i : Int) + 1) = VI ((i + 1 : Nat) : Int) from congrArg VI (by omega), trivial⟩
    · refine ⟨?_, ?_⟩
      · try dsimp only
        exact by omega
      · exact H.sub (.cons_cons _ (.cons_cons _ (.cons_cons _ (List.nil_sublist _))))
    · show 8 - (i + 1 : Nat) < 8 - i; omega
   ·
    repeat refine c_seq ?_
    refine c_no (by exact congrArg Value.bool (decide_eq_false hc13)) ?_; refine c_exit ?_; have hi8 : i = 8 := by omega
    subst hi8
    clear hi
    have hpd := padded_length s.l s.len hln (by omega)
    rw [plen_all s.l s.len hln] at H
    obtain ⟨N, hN⟩ := padded_len s.l (by omega)
    rw [hpd] at hN
    replace H : Hp _ w _ ([_, _, .own a (s.len + 1 + Zn s.len + 8) c ((padded s.l).map V8) 5 1]) := H
    repeat refine c_seq ?_
    refine c_region ?_; refine l_op (o_val (r_bld' (pv := en 0 (initS.l.map W64)) bd103 rfl (fill_en _ (all_W64 _) rfl)) ?_); refine l_op (o_alloc H zc103 (fun b17 w H hb17 => ?_)); replace H : Hp _ w _ ([_, _, _, .blk b17 ((List.replicate 8 (Value.int .u64 0))) 103]) := H
    refine l_op (o_stw (vs := (initS.l.map W64).toArray) H (i := 3) rfl rfl rfl (by rw [cs103]; rfl) (all_W64 _) (by rfl) (fun w H => ?_)); replace H : Hp _ w _ ([_, _, _, .blk b17 (initS.l.map W64) 103]) := H
    first | refine l_end ?_ | refine l_nil ?_
    repeat refine c_seq ?_
    refine c_region ?_; refine l_op (o_val r_as ?_); first | refine l_end ?_ | refine l_nil ?_
    repeat refine c_seq ?_
    refine c_block ?_; repeat refine c_seq ?_
    refine c_loop (fun (i : Nat) => [(2, .pointer (some ⟨b1, 0, none⟩)), (3, .pointer (some ⟨b2, 0, none⟩)), (4, .slice (hd a) (s.len + 1 + Zn s.len + 8) c), (7, .pointer (some ⟨b17, 0, none⟩)), (8, VI ((64 * i : Nat) : Int))])
      (fun (i : Nat) w => (i ≤ N) ∧ Hp w0 w [] ([.blk b1 ((List.replicate 32 (0 : UInt8)).map V8) 29, .blk b2 (primeWords.map W64) 101, .own a (s.len + 1 + Zn s.len + 8) c ((padded s.l).map V8) 5 1, .blk b17 ((foldB initS (padded s.l) i).l.map W64) 103]))
      (fun (i : Nat) => N - i) 0 ⟨rfl, rfl, rfl, rfl, rfl, trivial⟩ ⟨Nat.zero_le _, (by rw [foldB0]; exact H)⟩ ?_
    clear H
    rintro i τ w ⟨hi, H⟩
    repeat refine c_seq ?_
    refine c_region ?_; refine l_op (o_val r_mv ?_); refine l_op (o_val r_mv ?_); refine l_op (o_val (r_lens el32 rfl) ?_); refine l_op (o_val (r_bin (a := ((64 * i : Nat) : Int)) (b := ((s.len + 1 + Zn s.len + 8 : Nat) : Int)) rfl rfl (fun _ => b_lss)) ?_); first | refine l_end ?_ | refine l_nil ?_
    by_cases hc18 : ((64 * i : Nat) : Int) < ((s.len + 1 + Zn s.len + 8 : Nat) : Int)
    ·
     repeat refine c_seq ?_
     refine c_yes (by exact congrArg Value.bool (decide_eq_true hc18)) ?_; refine c_skip ?_; repeat refine c_seq ?_
     refine c_block ?_; repeat refine c_seq ?_
     refine c_region ?_; refine l_op (o_alloc H zc101 (fun b19 w H hb19 => ?_)); replace H : Hp _ w _ ([_, _, _, _, .blk b19 ((List.replicate 64 (Value.int .u64 0))) 101]) := H
     first | refine l_end ?_ | refine l_nil ?_
     repeat refine c_seq ?_
     refine c_region ?_; refine l_op (o_val r_as ?_); first | refine l_end ?_ | refine l_nil ?_
     repeat refine c_seq ?_
     refine c_block ?_; repeat refine c_seq ?_
     refine c_loop (fun (q : Nat) => [(2, .pointer (some ⟨b1, 0, none⟩)), (3, .pointer (some ⟨b2, 0, none⟩)), (4, .slice (hd a) (s.len + 1 + Zn s.len + 8) c), (7, .pointer (some ⟨b17, 0, none⟩)), (8, VI ((64 * i : Nat) : Int)), (9, .pointer (some ⟨b19, 0, none⟩)), (10, VI (q : Int))])
       (fun (q : Nat) w => (q ≤ 64) ∧ Hp w0 w [] ([.blk b1 ((List.replicate 32 (0 : UInt8)).map V8) 29, .blk b2 (primeWords.map W64) 101, .own a (s.len + 1 + Zn s.len + 8) c ((padded s.l).map V8) 5 1, .blk b17 ((foldB initS (padded s.l) i).l.map W64) 103, .blk b19 (wpart (((padded s.l).drop (64 * i)).take 64) q) 101]))
       (fun (q : Nat) => 64 - q) 0 ⟨rfl, rfl, rfl, rfl, rfl, rfl, rfl, trivial⟩ ⟨Nat.zero_le _, (by rw [wpart_zero]; exact H)⟩ ?_
     clear H
     rintro q τ w ⟨hq, H⟩
     repeat refine c_seq ?_
     refine c_region ?_; refine l_op (o_val r_mv ?_); refine l_op (o_val (r_bin (a := (q : Int)) (b := 64) rfl rfl (fun _ => b_lss)) ?_); first | refine l_end ?_ | refine l_nil ?_
     by_cases hc20 : (q : Int) < 64
     ·
      repeat refine c_seq ?_
      refine c_yes (by exact congrArg Value.bool (decide_eq_true hc20)) ?_; refine c_skip ?_; repeat refine c_seq ?_
      refine c_block ?_; repeat refine c_seq ?_
      refine wp_held (fun w => Hp w0 w [] [.blk b1 ((List.replicate 32 (0 : UInt8)).map V8) 29, .blk b2 (primeWords.map W64) 101, .own a (s.len + 1 + Zn s.len + 8) c ((padded s.l).map V8) 5 1, .blk b17 ((foldB initS (padded s.l) i).l.map W64) 103]) mixed ?_; replace H := H.drew
      have HS := H.sub (.cons_cons _ (.cons_cons _ (.cons_cons _ (.cons_cons _ (List.nil_sublist _)))))
      refine t_take 0 rfl (by kernel_rfl) (by kernel_rfl) (by kernel_rfl) (fun _ _ _ h => h) (fun w HS => r_mv) HS ?_; refine t_take 1 rfl (by kernel_rfl) (by kernel_rfl) (by kernel_rfl) (fun _ _ _ h => h) (fun w HS => r_bin (a := (q : Int)) (b := 4) rfl rfl (fun _ => b_quo (by omega) (by omega) (by omega))) HS ?_; refine t_take 2 rfl (by kernel_rfl) (by kernel_rfl) (by kernel_rfl) (fun _ _ _ h => h) (fun w HS => r_mv) HS ?_; refine t_take 3 rfl (by kernel_rfl) (by kernel_rfl) (by kernel_rfl) (fun _ _ _ h => h) (fun w HS => r_bin (a := (q : Int)) (b := 4) rfl rfl (fun _ => b_quo (by omega) (by omega) (by omega))) HS ?_; refine t_take 4 rfl (by kernel_rfl) (by kernel_rfl) (by kernel_rfl) (fun _ _ _ h => h) (fun w HS => r_iaN (q / 4) rfl rfl ar101 (by omega) (by omega)) HS ?_; refine t_take 7 rfl (by kernel_rfl) (by kernel_rfl) (by kernel_rfl) (fun _ _ _ h => h) (fun w HS => r_mv) HS ?_; refine t_take 8 rfl (by kernel_rfl) (by kernel_rfl) (by kernel_rfl) (fun _ _ _ h => h) (fun w HS => r_mv) HS ?_; refine t_take 9 rfl (by kernel_rfl) (by kernel_rfl) (by kernel_rfl) (fun _ _ _ h => h) (fun w HS => r_mv) HS ?_; refine t_take 10 rfl (by kernel_rfl) (by kernel_rfl) (by kernel_rfl) (fun _ _ _ h => h) (fun w HS => r_bin (a := ((64 * i : Nat) : Int)) (b := (q : Int)) rfl rfl (fun _ => b_add (by omega) (by omega))) HS ?_; obtain ⟨ab21, ah22⟩ := HS.ownAddr (i := 2) rfl (by omega)
      refine t_take 11 rfl (by kernel_rfl) (by kernel_rfl) (by kernel_rfl) (fun _ _ _ h => h) (fun w HS => r_isN ((64 * i) + q) rfl rfl el32 ah22 (by omega) (by (try simp only [Sl.cut]); omega)) HS ?_; refine t_take 12 rfl (by kernel_rfl) (by kernel_rfl) (by kernel_rfl) (fun _ _ _ h => h) (fun w HS => r_ldB (s := ⟨hd a, s.len + 1 + Zn s.len + 8, c, padded s.l⟩) (k := (64 * i) + q) (HS.slOwn (i := 2) rfl) ah22 rfl ct5 (by (try simp only []); omega)) HS ?_; refine t_take 13 rfl (by kernel_rfl) (by kernel_rfl) (by kernel_rfl) (fun _ _ _ h => h) (fun w HS => r_conv Try.underlying5 Try.underlying91 rfl (w_u64_8 _)) HS ?_; refine t_step 5 rfl (by kernel_rfl) (o_val (r_ld H (v := V64 (UInt64.ofNat (pwN (((padded s.l).drop (64 * i)).take 64) (q / 4) (q % 4)))) (i := 4) rfl rfl ct91 (by rw [Nat.mul_one, Nat.zero_add]; exact wpart_get _ q (by omega))) ?_); refine ⟨H.sub (.cons_cons _ (.cons_cons _ (.cons_cons _ (.cons_cons _ (List.nil_sublist _))))), ?_⟩
      replace HS := H.sub (.cons_cons _ (.cons_cons _ (.cons_cons _ (.cons_cons _ (List.nil_sublist _)))))
      refine t_take 6 rfl (by kernel_rfl) (by kernel_rfl) (by kernel_rfl) (fun _ _ _ h => h) (fun w HS => r_bin rfl (c64 256 (by decide)) (fun _ => b_mul_u64N)) HS ?_; refine t_take 14 rfl (by kernel_rfl) (by kernel_rfl) (by kernel_rfl) (fun _ _ _ h => h) (fun w HS => r_bin rfl rfl (fun _ => b_add_u64)) HS ?_; refine t_take 15 rfl (by kernel_rfl) (by kernel_rfl) (by kernel_rfl) (fun _ _ _ h => h) (fun w HS => r_iaN (q / 4) rfl rfl ar101 (by omega) (by omega)) HS ?_; refine t_step 16 rfl (by kernel_rfl) (o_st (v := V64 (UInt64.ofNat (pwN (((padded s.l).drop (64 * i)).take 64) (q / 4) (q % 4 + 1)))) H (i := 4) rfl rfl (congrArg V64 (wstep (padded s.l) i q (by omega) _ rfl)) cs91 rfl (by rw [wpart_length]; omega) (fun w H => ?_))
      rw [Nat.mul_one, Nat.zero_add, wpart_set _ q (by omega)] at H
      replace H : Hp _ w _ ([_, _, _, _, .blk b19 (wpart (((padded s.l).drop (64 * i)).take 64) (q + 1)) 101]) := H
      refine ⟨H.sub (.cons_cons _ (.cons_cons _ (.cons_cons _ (.cons_cons _ (List.nil_sublist _))))), ?_⟩
      replace HS := H.sub (.cons_cons _ (.cons_cons _ (.cons_cons _ (.cons_cons _ (List.nil_sublist _)))))
      refine t_done (by kernel_rfl) ?_
      clear HS
      repeat refine c_seq ?_
      refine c_region ?_; refine l_op (o_val r_mv ?_); refine l_op (o_val (r_bin (a := (q : Int)) (b := 1) rfl rfl (fun _ => b_add (by omega) (by omega))) ?_); refine l_op (o_val r_as ?_); first | refine l_end ?_ | refine l_nil ?_
      refine round_end (q + 1) ?_ ?_ ?_
      · exact ⟨rfl, rfl, rfl, rfl, rfl, rfl, show VI ((q : Int) + 1) = VI ((q + 1 : Nat) : Int) from congrArg VI (by omega), trivial⟩
      · refine ⟨?_, ?_⟩
        · try dsimp only
          exact by omega
        · exact H
      · show 64 - (q + 1 : Nat) < 64 - q; omega
     ·
      repeat refine c_seq ?_
      refine c_no (by exact congrArg Value.bool (decide_eq_false hc20)) ?_; refine c_exit ?_; have hq64 : q = 64 := by omega
      subst hq64
      clear hq
      rw [wpart_all] at H
      replace H : Hp _ w _ ([_, _, _, _, .blk b19 (padW (firsts (((padded s.l).drop (64 * i)).take 64) 16)) 101]) := H
      repeat refine c_seq ?_
      refine c_region ?_; refine l_op (o_val (r_ldA H (i := 3) rfl rfl rt103 (by rw [List.length_map]; rfl)) ?_); refine l_op (o_val (r_ldA H (i := 4) rfl rfl rt101 (padW_length _ (by rw [firsts_length]; omega))) ?_); refine l_op (o_val (r_ldA H (i := 1) rfl rfl rt101 (by rfl)) ?_); refine l_op (o_callR Try.func53 rfl rfl rfl (block_ret _ (foldB initS (padded s.l) i) (((padded s.l).drop (64 * i)).take 64)) ?_); rintro _ w ⟨rfl, Hc⟩
      replace H : Hp _ w _ ([_, _, _, _, _]) := H.call Hc
      clear Hc
      refine l_op (o_stw (vs := ((foldB initS (padded s.l) (i + 1)).l.map W64).toArray) H (i := 3) rfl rfl rfl (by rw [cs103]; rfl) (all_W64 _) (by rw [List.length_map]; rfl) (fun w H => ?_)); replace H : Hp _ w _ ([_, _, _, .blk b17 ((foldB initS (padded s.l) (i + 1)).l.map W64) 103, _]) := H
      first | refine l_end ?_ | refine l_nil ?_
      repeat refine c_seq ?_
      refine c_region ?_; refine l_op (o_val r_mv ?_); refine l_op (o_val (r_bin (a := ((64 * i : Nat) : Int)) (b := 64) rfl rfl (fun _ => b_add (by omega) (by omega))) ?_); refine l_op (o_val r_as ?_); first | refine l_end ?_ | refine l_nil ?_
      refine round_end (i + 1) ?_ ?_ ?_
      · exact ⟨rfl, rfl, rfl, rfl, show VI (((64 * i : Nat) : Int) + 64) = VI ((64 * (i + 1 : Nat) : Nat) : Int) from congrArg VI (by omega), trivial⟩
      · refine ⟨?_, ?_⟩
        · try dsimp only
          exact by omega
        · exact H.sub (.cons_cons _ (.cons_cons _ (.cons_cons _ (.cons_cons _ (List.nil_sublist _)))))
      · show N - (i + 1 : Nat) < N - i; omega
    ·
     repeat refine c_seq ?_
     refine c_no (by exact congrArg Value.bool (decide_eq_false hc18)) ?_; refine c_exit ?_; have hiN : i = N := by omega
     subst hiN
     clear hi
     repeat refine c_seq ?_
     refine c_region ?_; refine l_op (o_alloc H zc29 (fun b23 w H hb23 => ?_)); replace H : Hp _ w _ ([_, _, _, _, .blk b23 ((List.replicate 32 (0 : UInt8)).map V8) 29]) := H
     first | refine l_end ?_ | refine l_nil ?_
     repeat refine c_seq ?_
     refine c_region ?_; refine l_op (o_val r_as ?_); first | refine l_end ?_ | refine l_nil ?_
     repeat refine c_seq ?_
     refine c_block ?_; repeat refine c_seq ?_
     refine c_loop (fun (q : Nat) => [(2, .pointer (some ⟨b1, 0, none⟩)), (7, .pointer (some ⟨b17, 0, none⟩)), (11, .pointer (some ⟨b23, 0, none⟩)), (12, VI (q : Int))])
       (fun (q : Nat) w => (q ≤ 32) ∧ Hp w0 w [] ([.blk b1 ((List.replicate 32 (0 : UInt8)).map V8) 29, .blk b2 (primeWords.map W64) 101, .own a (s.len + 1 + Zn s.len + 8) c ((padded s.l).map V8) 5 1, .blk b17 ((foldB initS (padded s.l) i).l.map W64) 103, .blk b23 ((wbp (foldB initS (padded s.l) i).l q).map V8) 29]))
       (fun (q : Nat) => 32 - q) 0 ⟨rfl, rfl, rfl, rfl, trivial⟩ ⟨Nat.zero_le _, (by rw [show wbp (foldB initS (padded s.l) i).l 0 = List.replicate 32 (0 : UInt8) by simp [wbp]]; exact H)⟩ ?_
     clear H
     rintro q τ w ⟨hq, H⟩
     repeat refine c_seq ?_
     refine c_region ?_; refine l_op (o_val r_mv ?_); refine l_op (o_val (r_bin (a := (q : Int)) (b := 32) rfl rfl (fun _ => b_lss)) ?_); first | refine l_end ?_ | refine l_nil ?_
     by_cases hc24 : (q : Int) < 32
     ·
      repeat refine c_seq ?_
      refine c_yes (by exact congrArg Value.bool (decide_eq_true hc24)) ?_; refine c_skip ?_; repeat refine c_seq ?_
      refine c_block ?_; repeat refine c_seq ?_
      refine c_region ?_; refine l_op (o_val r_mv ?_); refine l_op (o_val r_mv ?_); refine l_op (o_val (r_bin (a := (q : Int)) (b := 4) rfl rfl (fun _ => b_quo (by omega) (by omega) (by omega))) ?_); refine l_op (o_val (r_iaN (q / 4) rfl rfl ar103 (by omega) (by omega)) ?_); refine l_op (o_val (r_ld H (v := V64 (((foldB initS (padded s.l) i).l.getD (q / 4) 0).toUInt64)) (i := 3) rfl rfl ct91 (by rw [Nat.mul_one, Nat.zero_add]; exact W64_get _ _ (by show q / 4 < 8; omega))) ?_); refine l_op (o_val r_mv ?_); refine l_op (o_val (r_bin (a := (q : Int)) (b := 4) rfl rfl (fun _ => b_rem (by omega) (by omega))) ?_); refine l_op (o_val (r_bin (a := 8) (b := (q : Int) % 4) rfl rfl (fun _ => b_mul (by omega) (by omega))) ?_); refine l_op (o_val (r_bin (a := 24) (b := 8 * ((q : Int) % 4)) rfl rfl (fun _ => b_sub (by omega) (by omega))) ?_); refine l_op (o_val (r_shift rfl rfl (.inr rfl) (fun _ => b_shr_u64 (by omega) (by omega))) ?_); refine l_op (o_val (r_conv Try.underlying91 Try.underlying5 rfl (w_u8_64 _)) ?_); refine l_op (o_val (r_iaN q rfl rfl ar29 (by omega) (by omega)) ?_); refine l_op (o_stAB (u := ((((foldB initS (padded s.l) i).l.getD (q / 4) 0).toUInt64) >>> UInt64.ofNat (24 - (8 * ((q : Int) % 4))).toNat).toUInt8) (k := q) H (i := 4) rfl rfl rfl cs5 (by rw [(show (wbp (foldB initS (padded s.l) i).l q).length = 32 from wbp_len _ _ (by omega))]; omega) (fun w H => ?_))
      rw [show (wbp (foldB initS (padded s.l) i).l q).set q (((((foldB initS (padded s.l) i).l.getD (q / 4) 0).toUInt64) >>> UInt64.ofNat (24 - (8 * ((q : Int) % 4))).toNat).toUInt8) = wbp (foldB initS (padded s.l) i).l (q + 1) from wbp_set _ q (by omega) _ (W64_word _ q _ (by omega))] at H
      replace H : Hp _ w _ ([_, _, _, _, .blk b23 ((wbp (foldB initS (padded s.l) i).l (q + 1)).map V8) 29]) := H
      first | refine l_end ?_ | refine l_nil ?_
      repeat refine c_seq ?_
      refine c_region ?_; refine l_op (o_val r_mv ?_); refine l_op (o_val (r_bin (a := (q : Int)) (b := 1) rfl rfl (fun _ => b_add (by omega) (by omega))) ?_); refine l_op (o_val r_as ?_); first | refine l_end ?_ | refine l_nil ?_
      refine round_end (q + 1) ?_ ?_ ?_
      · exact ⟨rfl, rfl, rfl, show VI ((q : Int) + 1) = VI ((q + 1 : Nat) : Int) from congrArg VI (by omega), trivial⟩
      · refine ⟨?_, ?_⟩
        · try dsimp only
          exact by omega
        · exact H
      · show 32 - (q + 1 : Nat) < 32 - q; omega
     ·
      repeat refine c_seq ?_
      refine c_no (by exact congrArg Value.bool (decide_eq_false hc24)) ?_; refine c_exit ?_; repeat refine c_seq ?_
      refine c_region ?_; refine l_op (o_val (r_ldAA (l := wbp (foldB initS (padded s.l) i).l q) H (i := 4) rfl rfl rt29 (show (wbp (foldB initS (padded s.l) i).l q).length = 32 from wbp_len _ _ (by omega))) ?_); refine l_op (o_stA (l' := wbp (foldB initS (padded s.l) i).l q) H (i := 0) rfl rfl rfl cs29 (show (List.replicate 32 (0 : UInt8)).length = 32 from (List.length_replicate ..)) (show (wbp (foldB initS (padded s.l) i).l q).length = 32 from wbp_len _ _ (by omega)) (fun w H => ?_)); replace H : Hp _ w _ ([.blk b1 ((wbp (foldB initS (padded s.l) i).l q).map V8) 29, _, _, _, _]) := H
      first | refine l_end ?_ | refine l_nil ?_
      refine c_ret ?_; try dsimp only [Exit.then, Exit.inBlock]
      refine e_retA (l := wbp (foldB initS (padded s.l) i).l q) Try.results36 H (i := 0) rfl rfl rt29 (show (wbp (foldB initS (padded s.l) i).l q).length = 32 from wbp_len _ _ (by omega)) ?_
      refine ⟨_, rfl, ?_⟩
      have hq32 : q = 32 := by omega
      subst hq32
      refine ⟨?_, H.sub (List.nil_sublist _)⟩
      rw [wbp_all, sha256_eq, digest_padded s.l i (by rw [hpd]; omega)]
end Go.Proofs.Ytomjbabllcmodaa
namespace Go.Proofs.Ytomjbabllcmodaa
open Go
set_option maxRecDepth 100000
/-- the hash of a text, as a name. -/
def shaI (l : List UInt8) : Id32 := ⟨sha256 l, sha256_len l⟩
theorem bytesRes_len {g : List It} {l : List UInt8} {e : Int} (h : BytesRes g l e) : l.length ≤ 4000 := by
  rcases h with ⟨_, _, _, h⟩ | ⟨_, h, _⟩
  · exact h
  · rw [h]; simp
theorem ob_raw {l : List Ob} {w0 w : World} {L : List Ch} (ho : ∀ o ∈ l, o.data.ok w0) (H : Hp w0 w [] L) : ∀ o ∈ l, o.data.ok w := fun o h => (ho o h).up H (fun _ => apart_nil _)
theorem of17_ret (w0 : World) (s : Sl) (hs : s.ok w0) (hm : s.len ≤ 1048576) :
    Ret Try.prog 24 [s.v] w0 fun v w' => ∃ a c, v = .agg (obE ⟨shaI s.l, ⟨hd a, s.l.length, c, s.l⟩⟩).toArray ∧ Hp w0 w' [] [.own a s.l.length c (s.l.map V8) 5 1] := by
  refine ret_mk Try.func24 rfl Try.ntmps24 (by simp) ?_
  have H := Hp.refl w0 []
  have hsl := hs.ln
  have hle := hs.le
  repeat refine c_seq ?_
  refine c_region ?_; refine l_op (o_alloc H zc34 (fun b1 w H hb1 => ?_)); replace H : Hp _ w _ ([.blk b1 ((List.replicate 32 (0 : UInt8)).map V8 ++ (([.slice none 0 0] : List Value))) 34]) := H
  first | refine l_end ?_ | refine l_nil ?_
  repeat refine c_seq ?_
  refine c_region ?_; refine l_op (o_val r_mv ?_); refine l_op (o_callR Try.func36 rfl rfl rfl (sum2_ret _ s (hs.up H (fun _ => apart_nil _)) (by (try dsimp only); omega)) ?_); rintro _ w ⟨rfl, Hc⟩
  replace H : Hp _ w _ ([_]) := H.call Hc
  clear Hc
  refine l_op (o_bslB (([] : List UInt8)) H sl32 zc5 rfl rfl (by decide) (fun b2 w H hb2 => ?_)); replace H : Hp _ w _ ([_, .own (some b2) 0 0 ((([] : List UInt8)).map V8) 5 1]) := H
  refine l_op (o_val r_mv ?_); refine l_op (o_appB (s := s) (l' := s.l) (len' := s.len) rfl (Nat.zero_add _) H (i := 1) rfl sl32 Try.underlying32 rfl rfl (hs.up H (fun _ => apart_nil _)) (by omega) (fun a3 c4 w H => ?_)); replace H : Hp _ w _ ([_, .own a3 s.len c4 ((s.l).map V8) 5 1]) := H
  refine l_op (o_val (r_bldG (Z := (List.replicate 32 (0 : UInt8)).map V8 ++ (([.slice none 0 0] : List Value))) (E := (sha256 (s.l)).map V8 ++ (([.slice (hd a3) s.len c4] : List Value))) (pv := [(0, .agg ((sha256 (s.l)).map V8).toArray), (1, .slice (hd a3) s.len c4)]) bd34 rfl rfl (.cons (A := ([] : List Value)) (B := (List.replicate 32 (0 : UInt8)).map V8) (D := ([.slice none 0 0] : List Value)) (V := (sha256 (s.l)).map V8) (a := 0) (b := 32) rfl (show Cut3 ((List.replicate 32 (0 : UInt8)).map V8 ++ (([.slice none 0 0] : List Value))) (([] : List Value)) ((List.replicate 32 (0 : UInt8)).map V8) (([.slice none 0 0] : List Value)) 0 32 from ⟨(show (List.replicate 32 (0 : UInt8)).map V8 ++ (([.slice none 0 0] : List Value)) = ([] : List Value) ++ (((List.replicate 32 (0 : UInt8)).map V8) ++ (([.slice none 0 0] : List Value))) from by simp only [List.nil_append]), (by rfl), (by simp only [List.length_map, (show (List.replicate 32 (0 : UInt8)).length = 32 from (List.length_replicate ..))])⟩) (by rfl) (by simp only [List.length_map, (show (sha256 (s.l)).length = 32 from (sha256_len _))]) ((show (sha256 (s.l)).map V8 ++ (([.slice none 0 0] : List Value)) = ([] : List Value) ++ (((sha256 (s.l)).map V8) ++ (([.slice none 0 0] : List Value))) from by simp only [List.nil_append]) ▸ .cons (A := (sha256 (s.l)).map V8) (B := ([.slice none 0 0] : List Value)) (D := ([] : List Value)) (V := ([.slice (hd a3) s.len c4] : List Value)) (a := 32) (b := 1) rfl (show Cut3 ((sha256 (s.l)).map V8 ++ (([.slice none 0 0] : List Value))) ((sha256 (s.l)).map V8) (([.slice none 0 0] : List Value)) (([] : List Value)) 32 1 from ⟨(show (sha256 (s.l)).map V8 ++ (([.slice none 0 0] : List Value)) = ((sha256 (s.l)).map V8) ++ ((([.slice none 0 0] : List Value)) ++ (([] : List Value))) from by simp only [List.cons_append, List.nil_append]), (by simp only [List.length_map, (show (sha256 (s.l)).length = 32 from (sha256_len _))]), (by rfl)⟩) (by rfl) (by rfl) ((show (sha256 (s.l)).map V8 ++ (([.slice (hd a3) s.len c4] : List Value)) = ((sha256 (s.l)).map V8) ++ ((([.slice (hd a3) s.len c4] : List Value)) ++ (([] : List Value))) from by simp only [List.cons_append, List.nil_append]) ▸ .nil _)))) ?_); refine l_op (o_stW (C' := (sha256 (s.l)).map V8 ++ (([.slice (hd a3) s.len c4] : List Value))) H (i := 0) rfl rfl rfl cs34 (by first | (simp [Value.oneCell', List.all_append, List.all_map]; done) | (simp only [List.all_append, List.all_cons, List.all_nil, List.all_map]; simp [Value.oneCell', Function.comp_def])) (by simp only [List.length_append, List.length_map, List.length_cons, List.length_nil, (show (List.replicate 32 (0 : UInt8)).length = 32 from (List.length_replicate ..))]) (by simp only [List.length_append, List.length_map, List.length_cons, List.length_nil, (show (sha256 (s.l)).length = 32 from (sha256_len _))]) (fun w H => ?_)); replace H : Hp _ w _ ([.blk b1 ((sha256 (s.l)).map V8 ++ (([.slice (hd a3) s.len c4] : List Value))) 34, _]) := H
  first | refine l_end ?_ | refine l_nil ?_
  refine c_ret ?_; try dsimp only [Exit.then, Exit.inBlock]
  refine e_retc Try.results24 H (i := 0) rfl rfl rt34 (by simp only [List.length_append, List.length_map, List.length_cons, List.length_nil, (show (sha256 (s.l)).length = 32 from (sha256_len _))]) ?_
  refine ⟨_, rfl, ?_⟩
  have e2 : s.len = s.l.length := by rw [hs.ln]
  have e1 : s.l = s.l := by first | rfl | rw [List.nil_append]
  rw [e1, e2] at H
  exact ⟨_, _, by rw [e2]; rfl, H.sub (.cons _ (.cons_cons _ (List.nil_sublist _)))⟩
theorem folder17_ret (w0 : World) (g : Gl It) (hg : g.ok itE 35 w0) (hfits : ∀ x ∈ g.l, x.name.length ≤ 65536 ∧ x.size ≤ 9223372036854775807) :
    Ret Try.prog 25 [g.v] w0 fun v w' => ∃ (a : Option Nat) (c : Nat) (t : List UInt8) (e : Int), BytesRes g.l t e ∧ v = .agg (obE ⟨shaI t, ⟨hd a, t.length, c, t⟩⟩).toArray ∧ Hp w0 w' [] [.own a t.length c (t.map V8) 5 1] := by
  refine ret_mk Try.func25 rfl Try.ntmps25 (by simp) ?_
  have H := Hp.refl w0 []
  repeat refine c_seq ?_
  refine c_region ?_; refine l_op (o_alloc H zc34 (fun b1 w H hb1 => ?_)); replace H : Hp _ w _ ([.blk b1 ((List.replicate 32 (0 : UInt8)).map V8 ++ (([.slice none 0 0] : List Value))) 34]) := H
  first | refine l_end ?_ | refine l_nil ?_
  repeat refine c_seq ?_
  refine c_region ?_; refine l_op (o_val r_mv ?_); refine l_op (o_callR Try.func37 rfl rfl rfl (fbytes15_ret _ g (hg.up H) hfits) ?_); rintro _ w ⟨a2, c3, t4, e5, rfl, hby6, Hc⟩
  replace H : Hp _ w _ ([_, .own a2 t4.length c3 ((t4).map V8) 5 1]) := H.call Hc
  clear Hc
  refine l_op (o_val r_mv ?_); refine l_op (o_val (r_ext rfl rfl) ?_); refine l_op (o_val (r_ext rfl rfl) ?_); refine l_op (o_val r_as ?_); refine l_op (o_val r_as ?_); first | refine l_end ?_ | refine l_nil ?_
  have hbl := bytesRes_len hby6
  repeat refine c_seq ?_
  refine c_region ?_; refine l_op (o_val r_mv ?_); refine l_op (o_callR Try.func24 rfl rfl rfl (of17_ret _ ⟨hd a2, t4.length, c3, t4⟩ (H.slOwn (i := 1) rfl) (by (try dsimp only); omega)) ?_); rintro _ w ⟨a7, c8, rfl, Hc⟩
  replace H : Hp _ w _ ([_, _, .own a7 t4.length c8 ((t4).map V8) 5 1]) := H.call Hc
  clear Hc
  refine l_op (o_stW (C' := ((shaI t4).1).map V8 ++ (([.slice (hd a7) t4.length c8] : List Value))) H (i := 0) rfl rfl rfl cs34 (by first | (simp [Value.oneCell', List.all_append, List.all_map]; done) | (simp only [List.all_append, List.all_cons, List.all_nil, List.all_map]; simp [Value.oneCell', Function.comp_def])) (by simp only [List.length_append, List.length_map, List.length_cons, List.length_nil, (show (List.replicate 32 (0 : UInt8)).length = 32 from (List.length_replicate ..))]) (by simp only [List.length_append, List.length_map, List.length_cons, List.length_nil, (show ((shaI t4).1).length = 32 from (shaI t4).2)]) (fun w H => ?_)); replace H : Hp _ w _ ([.blk b1 (((shaI t4).1).map V8 ++ (([.slice (hd a7) t4.length c8] : List Value))) 34, _, _]) := H
  first | refine l_end ?_ | refine l_nil ?_
  refine c_ret ?_; try dsimp only [Exit.then, Exit.inBlock]
  refine e_retc Try.results25 H (i := 0) rfl rfl rt34 (by simp only [List.length_append, List.length_map, List.length_cons, List.length_nil, (show ((shaI t4).1).length = 32 from (shaI t4).2)]) ?_
  refine ⟨_, rfl, ?_⟩
  exact ⟨_, _, t4, e5, hby6, rfl, H.sub (.cons _ (.cons _ (.cons_cons _ (List.nil_sublist _))))⟩
theorem light17_ret (w0 : World) (g : Gl Ob) (hg : g.ok obE 33 w0) (horaw : ∀ o ∈ g.l, o.data.ok w0) (n : Int) :
    Ret Try.prog 9 [g.v, VI n] w0 fun v w' => ∃ b, v = .bool b ∧ (b = true ↔ (g.len : Int) ≤ n ∧ ∀ o ∈ g.l, o.data.len ≤ 5000) ∧ Hp w0 w' [] [] := by
  refine ret_mk Try.func9 rfl Try.ntmps9 (by simp) ?_
  have H := Hp.refl w0 []
  have hgl := hg.ln
  have hgx := hg.mx
  have hgc := hg.le
  have hmL : maxLen = 9223372036854775807 := rfl
  repeat refine c_seq ?_
  refine c_region ?_; refine l_op (o_val r_as ?_); first | refine l_end ?_ | refine l_nil ?_
  repeat refine c_seq ?_
  refine c_region ?_; refine l_op (o_val r_mv ?_); refine l_op (o_val (r_lens el22 rfl) ?_); refine l_op (o_val r_mv ?_); refine l_op (o_val (r_bin (a := (g.len : Int)) (b := n) rfl rfl (fun _ => b_gtr)) ?_); first | refine l_end ?_ | refine l_nil ?_
  by_cases hc1 : n < (g.len : Int)
  ·
   repeat refine c_seq ?_
   refine c_yes (by exact congrArg Value.bool (decide_eq_true hc1)) ?_; repeat refine c_seq ?_
   refine c_region ?_; refine l_op (o_val r_as ?_); first | refine l_end ?_ | refine l_nil ?_
   refine c_ret ?_; try dsimp only [Exit.then, Exit.inBlock]
   refine e_ret1 (v := .bool false) Try.results9 rfl ?_
   refine ⟨_, rfl, ?_⟩
   exact ⟨false, rfl, ⟨fun h => (by cases h), fun h => absurd h.1 (by omega)⟩, H⟩
  ·
   repeat refine c_seq ?_
   refine c_no (by exact congrArg Value.bool (decide_eq_false hc1)) ?_; refine c_skip ?_; repeat refine c_seq ?_
   refine c_region ?_; refine l_op (o_val r_as ?_); first | refine l_end ?_ | refine l_nil ?_
   repeat refine c_seq ?_
   refine c_block ?_; repeat refine c_seq ?_
   refine c_loop (fun (i : Nat) => [(0, g.v), (5, VI (i : Int))])
     (fun (i : Nat) w => (i ≤ g.len ∧ ∀ m, m < i → ∀ o, g.l[m]? = some o → o.data.len ≤ 5000) ∧ Hp w0 w [] ([]))
     (fun (i : Nat) => g.len - i) 0 ⟨rfl, rfl, trivial⟩ ⟨⟨Nat.zero_le _, fun m hm => absurd hm (by omega)⟩, H⟩ ?_
   clear H
   rintro i τ w ⟨⟨hil, hno⟩, H⟩
   repeat refine c_seq ?_
   refine c_region ?_; refine l_op (o_val r_mv ?_); refine l_op (o_val r_mv ?_); refine l_op (o_val (r_lens el22 rfl) ?_); refine l_op (o_val (r_bin (a := (i : Int)) (b := (g.len : Int)) rfl rfl (fun _ => b_lss)) ?_); first | refine l_end ?_ | refine l_nil ?_
   by_cases hc2 : (i : Int) < (g.len : Int)
   ·
    repeat refine c_seq ?_
    refine c_yes (by exact congrArg Value.bool (decide_eq_true hc2)) ?_; refine c_skip ?_; repeat refine c_seq ?_
    refine c_block ?_; repeat refine c_seq ?_
    refine c_region ?_; refine l_op (o_val r_mv ?_); refine l_op (o_val r_mv ?_); have ah5 := ((hg.up H)).addr (by decide) (by first | omega | (dsimp only; omega))
    obtain ⟨ab3, ao4, ah5⟩ := ah5
    refine l_op (o_val (r_isN i rfl rfl el22 ah5 (by omega) (by (try simp only [Sl.cut]); omega)) ?_); refine l_op (o_val (r_fa rfl fo34_1) ?_); have he7 : ∃ c, g.l[i]? = some c := ⟨_, List.getElem?_eq_getElem (by have := ((hg.up H)).ln; (try dsimp only at this ⊢); omega)⟩
    obtain ⟨e6, he7⟩ := he7
    have hez8 := ((hg.up H)).sz e6 (List.mem_of_getElem? he7)
    have hod_e6 := horaw e6 (List.mem_of_getElem? he7)
    refine l_op (o_val (r_g1 (v := e6.data.v) (s := g) (j := i) (hg.up H) ah5 rfl ct32 he7 (by decide) (show Cut3 (obE e6) ((e6.of.1).map V8) (([e6.data.v] : List Value)) (([] : List Value)) 32 1 from ⟨(show (e6.of.1).map V8 ++ (([e6.data.v] : List Value)) = ((e6.of.1).map V8) ++ ((([e6.data.v] : List Value)) ++ (([] : List Value))) from by simp only [List.cons_append, List.nil_append]), (by simp only [List.length_map, (show (e6.of.1).length = 32 from e6.of.2)]), (by rfl)⟩)) ?_); refine l_op (o_val (r_lens el32 rfl) ?_); refine l_op (o_val (r_bin (a := (e6.data.len : Int)) (b := 5000) rfl rfl (fun _ => b_gtr)) ?_); first | refine l_end ?_ | refine l_nil ?_
    by_cases hc9 : 5000 < (e6.data.len : Int)
    ·
     repeat refine c_seq ?_
     refine c_yes (by exact congrArg Value.bool (decide_eq_true hc9)) ?_; repeat refine c_seq ?_
     refine c_region ?_; refine l_op (o_val r_as ?_); first | refine l_end ?_ | refine l_nil ?_
     refine c_ret ?_; try dsimp only [Exit.then, Exit.inBlock]
     refine e_ret1 (v := .bool false) Try.results9 rfl ?_
     refine ⟨_, rfl, ?_⟩
     exact ⟨false, rfl, ⟨fun h => (by cases h), fun h => absurd (h.2 e6 (List.mem_of_getElem? he7)) (by omega)⟩, H⟩
    ·
     repeat refine c_seq ?_
     refine c_no (by exact congrArg Value.bool (decide_eq_false hc9)) ?_; refine c_skip ?_; repeat refine c_seq ?_
     refine c_region ?_; refine l_op (o_val r_mv ?_); refine l_op (o_val (r_bin (a := (i : Int)) (b := 1) rfl rfl (fun _ => b_add (by omega) (by omega))) ?_); refine l_op (o_val r_as ?_); first | refine l_end ?_ | refine l_nil ?_
     have hat : ∀ o, g.l[i]? = some o → o.data.len ≤ 5000 := fun o ho => by
       rw [he7] at ho; cases ho; omega
     refine round_end (i + 1) ?_ ?_ ?_
     · exact ⟨rfl, show VI ((i : Int) + 1) = VI ((i + 1 : Nat) : Int) from congrArg VI (by omega), trivial⟩
     · refine ⟨?_, ?_⟩
       · try dsimp only
         exact ⟨by omega, fun m hm => (Nat.lt_or_ge m i).elim (hno m) (fun h => (show i = m by omega) ▸ hat)⟩
       · exact H
     · show g.len - (i + 1 : Nat) < g.len - i; omega
   ·
    repeat refine c_seq ?_
    refine c_no (by exact congrArg Value.bool (decide_eq_false hc2)) ?_; refine c_exit ?_; repeat refine c_seq ?_
    refine c_region ?_; refine l_op (o_val r_as ?_); first | refine l_end ?_ | refine l_nil ?_
    refine c_ret ?_; try dsimp only [Exit.then, Exit.inBlock]
    refine e_ret1 (v := .bool true) Try.results9 rfl ?_
    refine ⟨_, rfl, ?_⟩
    exact ⟨true, rfl, ⟨fun _ => ⟨by omega, fun o ho => by obtain ⟨m, hm, e⟩ := List.mem_iff_getElem.1 ho; exact hno m (by omega) o (by rw [List.getElem?_eq_getElem hm, e])⟩, fun _ => rfl⟩, H⟩
end Go.Proofs.Ytomjbabllcmodaa
namespace Go.Proofs.Ytomjbabllcmodaa
open Go
set_option maxRecDepth 100000
abbrev nilS : Sl := ⟨none, 0, 0, []⟩
theorem zv_sl (w : World) : (zeroValue 32).run Try.prog w = .ok (Sl.v nilS) w := by
  have h : (Try.prog.info? 32).map (·.zero) = some (some (Sl.v nilS)) := by kernel_rfl
  cases hi : Try.prog.info? 32 with
  | none => rw [hi] at h; cases h
  | some i =>
    rw [hi] at h
    have hz : i.zero = some (Sl.v nilS) := by simpa using h
    simp [zeroValue, typeInfo, hi, hz]
theorem zv_i (w : World) : (zeroValue 3).run Try.prog w = .ok (VI 0) w := by
  have h : (Try.prog.info? 3).map (·.zero) = some (some (VI 0)) := by kernel_rfl
  cases hi : Try.prog.info? 3 with
  | none => rw [hi] at h; cases h
  | some i =>
    rw [hi] at h
    have hz : i.zero = some (VI 0) := by simpa using h
    simp [zeroValue, typeInfo, hi, hz]
theorem lookS_put {l : List Ob} {o : Ob} (h : (lookS l o.of).isSome = false) : fput (lookS l) o.of o.data = lookS (l ++ [o]) := by
  funext k
  rw [fput, lookS_snoc]
  by_cases e : k = o.of
  · rw [if_pos e, e, h, if_neg (by decide), if_pos rfl]
  · rw [if_neg e]
    by_cases hs : (lookS l k).isSome = true
    · rw [if_pos hs]
    · rw [if_neg hs, if_neg e]
      cases hl : lookS l k with
      | none => rfl
      | some s => rw [hl] at hs; exact absurd rfl hs
theorem lookS_same {l : List Ob} {o : Ob} (h : (lookS l o.of).isSome = true) : lookS l = lookS (l ++ [o]) := by
  funext k
  rw [lookS_snoc]
  by_cases hs : (lookS l k).isSome = true
  · rw [if_pos hs]
  · rw [if_neg hs]
    have e : k ≠ o.of := fun e => hs (by rw [e]; exact h)
    rw [if_neg e]
    cases hl : lookS l k with
    | none => rfl
    | some s => rw [hl] at hs; exact absurd rfl hs
variable {L : List (Id32 × List UInt8)}
/-- all that is to be met is met. -/
noncomputable def wlkAll (L : List (Id32 × List UInt8)) (a : List Todo) (s : WS) : WS := wlkRun L 1026 a s
theorem wlkAll_nil (s : WS) : wlkAll L [] s = s := wlkRun_nil _ _
theorem wlkAll_bad {t : Todo} {ts : List Todo} {s : WS} (h : ¬ (wlkStep L s t).1.err = 0) : wlkAll L (t :: ts) s = (wlkStep L s t).1 := wlkRun_bad h
theorem wlkAll_good {t : Todo} {ts : List Todo} {s : WS} (h : (wlkStep L s t).1.err = 0) : wlkAll L (t :: ts) s = wlkAll L ((wlkStep L s t).2 ++ ts) (wlkStep L s t).1 := by
  have h1 := wlkStep_met h
  exact (wlkRun_good h).trans (wlkRun_fuel _ _ _ _ (by omega) (by omega) (by omega))
theorem wlkAll_app {a b : List Todo} {s : WS} (he : s.err = 0) (hm : s.met ≤ 1024) : wlkAll L (a ++ b) s = if (wlkAll L a s).err ≠ 0 then wlkAll L a s else wlkAll L b (wlkAll L a s) := wlkRun_app _ _ _ _ he hm (by omega)
theorem wlkAll_met {a : List Todo} {s : WS} (hm : s.met ≤ 1024) (h : (wlkAll L a s).err = 0) : s.met ≤ (wlkAll L a s).met ∧ (wlkAll L a s).met ≤ 1024 := wlkRun_met _ _ _ hm h
/-- the next of a list, when what came ahead went well. -/
theorem wlkAll_snoc {a : List Todo} {t : Todo} {s s1 : WS} (he : s.err = 0) (hm : s.met ≤ 1024) (ha : wlkAll L a s = s1) (h1 : s1.err = 0) : wlkAll L (a ++ [t]) s = wlkAll L [t] s1 := by
  rw [wlkAll_app he hm, ha, if_neg (fun e => e h1)]
theorem wlkAll_stop {a b : List Todo} {s s1 : WS} (he : s.err = 0) (hm : s.met ≤ 1024) (ha : wlkAll L a s = s1) (h1 : ¬ s1.err = 0) : wlkAll L (a ++ b) s = s1 := by
  rw [wlkAll_app he hm, ha, if_pos h1]
end Go.Proofs.Ytomjbabllcmodaa
