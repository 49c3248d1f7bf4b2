/- Lemmas for the statement DiskTorn, part 3: rules of operations, walks through functions, plain laws. -/
import Derived.Test.YtncmcgcilijfkaaDiskTornG2
namespace Go.Proofs.Ytncmcgcilijfkaa
open Go
set_option maxRecDepth 100000
theorem torn_wait (m : Nat) (hm : m < 32) (A F : List UInt8) (o : Bool) (a p : Int) : dWaiting ⟨List.replicate 32 (List.replicate 512 0), fput (fun _ => none) (m : Int) A, o, a, p, m, F, 1, 0⟩ = [(m : Int)] := by
  refine risingI_eq (dWaiting_rising _) (List.pairwise_singleton _ _) fun x => ?_
  rw [dWaiting_mem, List.mem_singleton]
  simp only [List.length_replicate, fput]
  constructor
  · rintro ⟨_, _, h⟩
    by_cases e : x = (m : Int)
    · exact e
    · rw [if_neg e] at h; cases h
  · rintro rfl
    exact ⟨by omega, by omega, by rw [if_pos rfl]; rfl⟩
theorem dW1_wait (m : Int) (A : List UInt8) : (dW1 m A).wait m = some A := by
  unfold dW1 fput
  dsimp only
  rw [if_pos rfl]
theorem dW1_get {m : Nat} (hm : m < 32) (i : Int) (A : List UInt8) : (dW1 i A).last.getD m [] = wh [] := by
  unfold dW1
  dsimp only
  rw [List.getD_eq_getElem?_getD, List.getElem?_replicate, if_pos hm, wh_nil]; rfl
def torn4 (D : DD) (m p : Int) (F : List UInt8) : DD := ⟨D.last, D.wait, true, 0, p, m, F, D.writes, D.lives⟩
theorem torn_law {D : DD} {m : Nat} {part : Int} {A B : List UInt8} {waits keep : Bool} (hm : m < 32) (hB : B.length = 512) (hD : D = if waits then dW1 m A else dF1 m A) {q : Nat} (hq : (dArm D 0 part).part = (q : Int)) (hq2 : q ≤ 512) :
    dWriteE (dArm D 0 part) m B = 8 ∧ (dWrite (dArm D 0 part) m B).off = true ∧
    dMay (dPower (dWrite (dArm D 0 part) m B) [keep]) m = 0 ∧ dRead (dPower (dWrite (dArm D 0 part) m B) [keep]) m = B.take q ++ (if waits = true ∧ keep = false then wh [] else A).drop q ∧ dWaiting (dPower (dWrite (dArm D 0 part) m B) [keep]) = [] ∧ (dPower (dWrite (dArm D 0 part) m B) [keep]).lives = 1 := by
  have hlen : D.last.length = 32 := by rw [hD]; split; · simp [dW1]
                                       · exact dF1_len _ _
  have hoff : D.off = false := by rw [hD]; split <;> rfl
  have hliv : D.lives = 0 := by rw [hD]; split <;> rfl
  have hmay : dMay (dArm D 0 part) m = 0 := by
    rw [dMay, if_neg (by show ¬ D.off = true; rw [hoff]; decide), if_neg (by show ¬ ((m : Int) < 0 ∨ (D.last.length : Int) ≤ m); omega)]
  have harm : (dArm D 0 part).armed = 0 := rfl
  have hE : dWriteE (dArm D 0 part) m B = 8 := by rw [dWriteE, if_neg (by omega), if_neg (by omega), if_pos harm]
  have hW : dWrite (dArm D 0 part) m B = torn4 D m q (B.take q) := by
    rw [dWrite, if_neg (by omega), if_neg (by omega), if_pos harm, hq, Int.toNat_natCast, torn4, ← hq]; rfl
  refine ⟨hE, by rw [hW]; rfl, ?_, ?_, ?_, ?_⟩
  · rw [hW, dMay, if_neg (by simp [dPower]), if_neg]
    show ¬ ((m : Int) < 0 ∨ ((dPow (torn4 D m q (B.take q)) [keep]).length : Int) ≤ m)
    rw [dPow_len]
    show ¬ ((m : Int) < 0 ∨ (D.last.length : Int) ≤ m)
    omega
  · rw [dRead, hW]
    show (none : Option (List UInt8)).getD ((dPow (torn4 D m q (B.take q)) [keep]).getD (m : Int).toNat []) = _
    rw [Option.getD_none, Int.toNat_natCast, dPow_get (by show m < D.last.length; omega) rfl]
    show B.take q ++ ((dLast (torn4 D m q (B.take q)) (kp (dWaiting (torn4 D m q (B.take q))) [keep])).getD m []).drop (B.take q).length = _
    rw [dLast_get (by show m < D.last.length; omega)]
    have hl : (B.take q).length = q := by rw [List.length_take]; omega
    rw [hl]
    congr 1; congr 1
    cases waits with
    | true =>
      rw [if_pos rfl] at hD
      have hw2 : dWaiting (torn4 D m q (B.take q)) = [(m : Int)] := by rw [hD]; exact torn_wait m hm A (B.take q) true 0 q
      have hg1 : D.wait m = some A := by rw [hD]; exact dW1_wait _ _
      have hg2 : D.last.getD m [] = wh [] := by rw [hD]; exact dW1_get hm _ _
      rw [hw2]
      cases keep with
      | true =>
        rw [if_pos (by simp [kp]), if_neg (by simp)]
        show (D.wait m).getD _ = A
        rw [hg1]; rfl
      | false =>
        rw [if_neg (by simp [kp]), if_pos (by simp)]
        exact hg2
    | false =>
      rw [if_neg (by decide)] at hD
      have hg1 : D.wait m = none := by rw [hD]; rfl
      have hg2 : D.last.getD m [] = A := by rw [hD]; exact dF1_get hm A
      simp only [Bool.false_eq_true, if_false, false_and]
      split
      · show (D.wait m).getD (D.last.getD m []) = A
        rw [hg1]; exact hg2
      · exact hg2
  · rw [hW]; simp [dWaiting, dPower]
  · rw [hW]; show D.lives + 1 = 1; omega
set_option maxHeartbeats 2000000 in
theorem diskTorn_ret (w0 : World) (at_ part : Int) (a b : Sl) (waits keep : Bool) (ha : a.ok w0) (hb : b.ok w0) :
    Ret Try.prog 10 [VI at_, VI part, a.v, b.v, .bool waits, .bool keep] w0 fun v w' => v = .bool true ∧ Hp w0 w' [] [] := by
  refine ret_mk Try.func10 rfl Try.ntmps10 (by simp) ?_
  have H := Hp.refl w0 []
  have hal := ha.ln
  have hae := ha.le
  have hax := ha.mx
  have hbl := hb.ln
  have hbe := hb.le
  have hbx := hb.mx
  have hmL : maxLen = 9223372036854775807 := rfl
  repeat refine c_seq ?_
  refine c_region ?_
  refine l_op (o_val (r_as) ?_)
  first | refine l_end ?_ | refine l_nil ?_
  repeat refine c_seq ?_
  refine c_region ?_
  refine l_op (o_callR Try.func27 rfl rfl rfl (begun5_ret _) ?_)
  rintro _ w ⟨rfl, Hc⟩
  replace H : Hp _ w _ ([]) := H.call Hc
  clear Hc
  refine l_op (o_val (r_not rfl) ?_)
  first | refine l_end ?_ | refine l_nil ?_
  repeat refine c_seq ?_
  refine c_no rfl ?_
  refine c_skip ?_
  repeat refine c_seq ?_
  refine c_region ?_
  refine l_op (o_val (r_mv) ?_)
  refine l_op (o_val (r_lens el57 rfl) ?_)
  refine l_op (o_val (r_bin (a := (a.len : Int)) (b := 512) rfl rfl (fun _ => b_gtr)) ?_)
  refine l_op (o_val (r_mv) ?_)
  by_cases hc1 : 512 < (a.len : Int)
  ·
   refine l_no rfl rfl (by exact congrArg Value.bool (decide_eq_true hc1)) rfl ?_
   refine l_no rfl rfl (by exact congrArg Value.bool (decide_eq_true hc1)) rfl ?_
   refine l_no rfl rfl (by exact congrArg Value.bool (decide_eq_true hc1)) rfl ?_
   refine l_op (o_val (r_pick (b := true) (congrArg Value.bool (decide_eq_true hc1))) ?_)
   first | refine l_end ?_ | refine l_nil ?_
   repeat refine c_seq ?_
   refine c_yes rfl ?_
   repeat refine c_seq ?_
   refine c_region ?_
   refine l_op (o_val (r_as) ?_)
   first | refine l_end ?_ | refine l_nil ?_
   refine c_ret ?_
   try dsimp only [Exit.then, Exit.inBlock]
   refine e_ret1 (v := .bool true) Try.results10 rfl ?_
   refine ⟨_, rfl, ?_⟩
   exact ⟨rfl, H.sub (List.nil_sublist _)⟩
  ·
   refine l_yes rfl rfl (by exact congrArg Value.bool (decide_eq_false hc1)) (o_val (r_mv) ?_)
   refine l_yes rfl rfl (by exact congrArg Value.bool (decide_eq_false hc1)) (o_val (r_lens el57 rfl) ?_)
   refine l_yes rfl rfl (by exact congrArg Value.bool (decide_eq_false hc1)) (o_val (r_bin (a := (b.len : Int)) (b := 512) rfl rfl (fun _ => b_gtr)) ?_)
   refine l_op (o_val (r_pick (b := false) (congrArg Value.bool (decide_eq_false hc1))) ?_)
   first | refine l_end ?_ | refine l_nil ?_
   by_cases hc2 : 512 < (b.len : Int)
   ·
    repeat refine c_seq ?_
    refine c_yes (by exact congrArg Value.bool (decide_eq_true hc2)) ?_
    repeat refine c_seq ?_
    refine c_region ?_
    refine l_op (o_val (r_as) ?_)
    first | refine l_end ?_ | refine l_nil ?_
    refine c_ret ?_
    try dsimp only [Exit.then, Exit.inBlock]
    refine e_ret1 (v := .bool true) Try.results10 rfl ?_
    refine ⟨_, rfl, ?_⟩
    exact ⟨rfl, H.sub (List.nil_sublist _)⟩
   ·
    repeat refine c_seq ?_
    refine c_no (by exact congrArg Value.bool (decide_eq_false hc2)) ?_
    refine c_skip ?_
    repeat refine c_seq ?_
    refine c_region ?_
    refine l_op (o_callR Try.func28 rfl rfl rfl (dnewI_ret _ 32 (by omega)) ?_)
    rintro _ w ⟨db3, z4, rfl, hza5, hzo6, hzt7, Hc⟩
    replace H : Hp _ w _ (Ch.blk db3 ([.slice (hd (some z4.a1)) z4.ls.length z4.c1, .map (some z4.mb), .bool z4.off, VI z4.armed, VI z4.part, VI z4.way, .slice (hd z4.fa) z4.fl.length z4.fc, VI z4.writes, VI z4.lives]) 86 :: Ch.own (some z4.a1) z4.ls.length z4.c1 ((z4.ls).flatMap slE) 57 1 :: Ch.obj z4.mb (mobj kI z4.M z4.mc) :: Ch.own z4.fa z4.fl.length z4.fc ((z4.fl).map V8) 5 1 :: z4.T) := H.call Hc
    clear Hc
    refine l_op (o_val (r_as) ?_)
    first | refine l_end ?_ | refine l_nil ?_
    have hw0 := dNew_writes hza5
    have hv0 : z4.lives = 0 := congrArg DD.lives hza5
    repeat refine c_seq ?_
    refine c_region ?_
    refine l_op (o_val (r_mv) ?_)
    refine l_op (o_callR Try.func16 rfl rfl rfl (place_ret _ at_ 32 (by omega) (by omega)) ?_)
    rintro _ w' ⟨m8, rfl, hm9, hw10⟩
    rw [hw10]; clear hw10 w'
    refine l_op (o_val (r_as) ?_)
    first | refine l_end ?_ | refine l_nil ?_
    repeat refine c_seq ?_
    refine c_region ?_
    refine l_op (o_val (r_mv) ?_)
    refine l_op (o_val (r_mv) ?_)
    refine l_op (o_val (r_mv) ?_)
    refine l_op (o_callR Try.func31 rfl rfl rfl (full_ret _ a (ha.up H (fun _ => apart_nil _))) ?_)
    rintro _ w ⟨fb11, rfl, Hc⟩
    replace H : Hp _ w _ (Ch.own (some fb11) 512 512 ((wh a.l).map V8) 5 1 :: Ch.blk db3 ([.slice (hd (some z4.a1)) z4.ls.length z4.c1, .map (some z4.mb), .bool z4.off, VI z4.armed, VI z4.part, VI z4.way, .slice (hd z4.fa) z4.fl.length z4.fc, VI z4.writes, VI z4.lives]) 86 :: Ch.own (some z4.a1) z4.ls.length z4.c1 ((z4.ls).flatMap slE) 57 1 :: Ch.obj z4.mb (mobj kI z4.M z4.mc) :: Ch.own z4.fa z4.fl.length z4.fc ((z4.fl).map V8) 5 1 :: z4.T) := (H.call Hc).rot
    clear Hc
    refine l_op (o_callR Try.func34 rfl rfl rfl (dwrite_ret _ db3 z4 (H.ownT (L := [.own (some fb11) 512 512 ((wh a.l).map V8) 5 1, .blk db3 ([.slice (hd (some z4.a1)) z4.ls.length z4.c1, .map (some z4.mb), .bool z4.off, VI z4.armed, VI z4.part, VI z4.way, .slice (hd z4.fa) z4.fl.length z4.fc, VI z4.writes, VI z4.lives]) 86, .own (some z4.a1) z4.ls.length z4.c1 ((z4.ls).flatMap slE) 57 1, .obj z4.mb (mobj kI z4.M z4.mc), .own z4.fa z4.fl.length z4.fc ((z4.fl).map V8) 5 1]) (L1 := [.blk db3 ([.slice (hd (some z4.a1)) z4.ls.length z4.c1, .map (some z4.mb), .bool z4.off, VI z4.armed, VI z4.part, VI z4.way, .slice (hd z4.fa) z4.fl.length z4.fc, VI z4.writes, VI z4.lives]) 86, .own (some z4.a1) z4.ls.length z4.c1 ((z4.ls).flatMap slE) 57 1, .obj z4.mb (mobj kI z4.M z4.mc), .own z4.fa z4.fl.length z4.fc ((z4.fl).map V8) 5 1]) (Lr := ([.own (some fb11) 512 512 ((wh a.l).map V8) 5 1] : List Ch)) (T := z4.T) ((perm_front (j := 1) rfl).trans (.cons _ ((perm_front (j := 1) rfl).trans (.cons _ ((perm_front (j := 1) rfl).trans (.cons _ ((perm_front (j := 1) rfl).trans (.cons _ (.refl _)))))))))) hzo6 (m8 : Int) ⟨hd (some fb11), 512, 512, wh a.l⟩ (H.slOwn (i := 0) rfl) (fun _ => apart_own (L := [.own (some fb11) 512 512 ((wh a.l).map V8) 5 1, .blk db3 ([.slice (hd (some z4.a1)) z4.ls.length z4.c1, .map (some z4.mb), .bool z4.off, VI z4.armed, VI z4.part, VI z4.way, .slice (hd z4.fa) z4.fl.length z4.fc, VI z4.writes, VI z4.lives]) 86, .own (some z4.a1) z4.ls.length z4.c1 ((z4.ls).flatMap slE) 57 1, .obj z4.mb (mobj kI z4.M z4.mc), .own z4.fa z4.fl.length z4.fc ((z4.fl).map V8) 5 1]) (L1 := [.blk db3 ([.slice (hd (some z4.a1)) z4.ls.length z4.c1, .map (some z4.mb), .bool z4.off, VI z4.armed, VI z4.part, VI z4.way, .slice (hd z4.fa) z4.fl.length z4.fc, VI z4.writes, VI z4.lives]) 86, .own (some z4.a1) z4.ls.length z4.c1 ((z4.ls).flatMap slE) 57 1, .obj z4.mb (mobj kI z4.M z4.mc), .own z4.fa z4.fl.length z4.fc ((z4.fl).map V8) 5 1]) (Lr := ([.own (some fb11) 512 512 ((wh a.l).map V8) 5 1] : List Ch)) (T := z4.T) H ((perm_front (j := 1) rfl).trans (.cons _ ((perm_front (j := 1) rfl).trans (.cons _ ((perm_front (j := 1) rfl).trans (.cons _ ((perm_front (j := 1) rfl).trans (.cons _ (.refl _))))))))) (List.mem_of_getElem? (i := 0) rfl)) (by omega)) ?_)
    rintro _ w ⟨rfl, y12, hya13, hyo14, hyt15, Hc⟩
    replace H := H.callT (L1' := [.blk db3 ([.slice (hd (some y12.a1)) y12.ls.length y12.c1, .map (some y12.mb), .bool y12.off, VI y12.armed, VI y12.part, VI y12.way, .slice (hd y12.fa) y12.fl.length y12.fc, VI y12.writes, VI y12.lives]) 86, .own (some y12.a1) y12.ls.length y12.c1 ((y12.ls).flatMap slE) 57 1, .obj y12.mb (mobj kI y12.M y12.mc), .own y12.fa y12.fl.length y12.fc ((y12.fl).map V8) 5 1]) (T' := y12.T) (L := [.own (some fb11) 512 512 ((wh a.l).map V8) 5 1, .blk db3 ([.slice (hd (some z4.a1)) z4.ls.length z4.c1, .map (some z4.mb), .bool z4.off, VI z4.armed, VI z4.part, VI z4.way, .slice (hd z4.fa) z4.fl.length z4.fc, VI z4.writes, VI z4.lives]) 86, .own (some z4.a1) z4.ls.length z4.c1 ((z4.ls).flatMap slE) 57 1, .obj z4.mb (mobj kI z4.M z4.mc), .own z4.fa z4.fl.length z4.fc ((z4.fl).map V8) 5 1]) (L1 := [.blk db3 ([.slice (hd (some z4.a1)) z4.ls.length z4.c1, .map (some z4.mb), .bool z4.off, VI z4.armed, VI z4.part, VI z4.way, .slice (hd z4.fa) z4.fl.length z4.fc, VI z4.writes, VI z4.lives]) 86, .own (some z4.a1) z4.ls.length z4.c1 ((z4.ls).flatMap slE) 57 1, .obj z4.mb (mobj kI z4.M z4.mc), .own z4.fa z4.fl.length z4.fc ((z4.fl).map V8) 5 1]) (Lr := ([.own (some fb11) 512 512 ((wh a.l).map V8) 5 1] : List Ch)) (T := z4.T) ((perm_front (j := 1) rfl).trans (.cons _ ((perm_front (j := 1) rfl).trans (.cons _ ((perm_front (j := 1) rfl).trans (.cons _ ((perm_front (j := 1) rfl).trans (.cons _ (.refl _))))))))) Hc (.refl _)
    clear Hc
    replace H : Hp _ w _ (Ch.own (some fb11) 512 512 ((wh a.l).map V8) 5 1 :: Ch.blk db3 ([.slice (hd (some y12.a1)) y12.ls.length y12.c1, .map (some y12.mb), .bool y12.off, VI y12.armed, VI y12.part, VI y12.way, .slice (hd y12.fa) y12.fl.length y12.fc, VI y12.writes, VI y12.lives]) 86 :: Ch.own (some y12.a1) y12.ls.length y12.c1 ((y12.ls).flatMap slE) 57 1 :: Ch.obj y12.mb (mobj kI y12.M y12.mc) :: Ch.own y12.fa y12.fl.length y12.fc ((y12.fl).map V8) 5 1 :: y12.T) := H
    replace hya13 : y12.abs = dWrite z4.abs (m8 : Int) (wh a.l) := hya13
    have hya13w := dWrite_wl hya13
    have hyo14n := hyo14.n
    first | refine l_end ?_ | refine l_nil ?_
    have hdA := (dW1_eq (A := wh a.l) (show (0 : Int) ≤ (m8 : Int) by omega) (by omega) (wh_len _)).2
    repeat refine c_seq ?_
    refine c_region ?_
    refine l_op (o_val (r_mv) ?_)
    refine l_op (o_val (r_not rfl) ?_)
    first | refine l_end ?_ | refine l_nil ?_
    have hc160 := Bool.eq_false_or_eq_true (waits)
    rcases hc160 with hc16 | hc16
    ·
     repeat refine c_seq ?_
     refine c_no (by exact congrArg Value.bool (congrArg not hc16)) ?_
     refine c_skip ?_
     have hD : y12.abs = if waits then dW1 (m8 : Int) (wh a.l) else dF1 (m8 : Int) (wh a.l) := by
       rw [hc16, if_pos (by decide)]
       exact hya13.trans (by rw [hza5]; exact hdA)
     obtain ⟨q, hq, hq2⟩ : ∃ q : Nat, (dArm y12.abs 0 part).part = (q : Int) ∧ q ≤ 512 := ⟨(dArm y12.abs 0 part).part.toNat, by have : (dArm y12.abs 0 part).part = (if 512 < (if part < 0 then 0 else part) then 512 else if part < 0 then 0 else part) := rfl; rw [this]; constructor <;> (repeat' split) <;> omega⟩
     have htl := torn_law (B := wh b.l) (keep := keep) (by omega) (wh_len _) hD hq hq2
     repeat refine c_seq ?_
     refine c_region ?_
     refine l_op (o_val (r_mv) ?_)
     refine l_op (o_val (r_mv) ?_)
     refine l_op (o_callR Try.func36 rfl rfl rfl (darm_ret _ db3 y12 (H.ownT (L := [.own (some fb11) 512 512 ((wh a.l).map V8) 5 1, .blk db3 ([.slice (hd (some y12.a1)) y12.ls.length y12.c1, .map (some y12.mb), .bool y12.off, VI y12.armed, VI y12.part, VI y12.way, .slice (hd y12.fa) y12.fl.length y12.fc, VI y12.writes, VI y12.lives]) 86, .own (some y12.a1) y12.ls.length y12.c1 ((y12.ls).flatMap slE) 57 1, .obj y12.mb (mobj kI y12.M y12.mc), .own y12.fa y12.fl.length y12.fc ((y12.fl).map V8) 5 1]) (L1 := [.blk db3 ([.slice (hd (some y12.a1)) y12.ls.length y12.c1, .map (some y12.mb), .bool y12.off, VI y12.armed, VI y12.part, VI y12.way, .slice (hd y12.fa) y12.fl.length y12.fc, VI y12.writes, VI y12.lives]) 86, .own (some y12.a1) y12.ls.length y12.c1 ((y12.ls).flatMap slE) 57 1, .obj y12.mb (mobj kI y12.M y12.mc), .own y12.fa y12.fl.length y12.fc ((y12.fl).map V8) 5 1]) (Lr := ([.own (some fb11) 512 512 ((wh a.l).map V8) 5 1] : List Ch)) (T := y12.T) ((perm_front (j := 1) rfl).trans (.cons _ ((perm_front (j := 1) rfl).trans (.cons _ ((perm_front (j := 1) rfl).trans (.cons _ ((perm_front (j := 1) rfl).trans (.cons _ (.refl _)))))))))) hyo14 0 part (by omega)) ?_)
     rintro _ w ⟨rfl, y17, hya18, hyo19, hyt20, Hc⟩
     replace H := H.callT (L1' := [.blk db3 ([.slice (hd (some y17.a1)) y17.ls.length y17.c1, .map (some y17.mb), .bool y17.off, VI y17.armed, VI y17.part, VI y17.way, .slice (hd y17.fa) y17.fl.length y17.fc, VI y17.writes, VI y17.lives]) 86, .own (some y17.a1) y17.ls.length y17.c1 ((y17.ls).flatMap slE) 57 1, .obj y17.mb (mobj kI y17.M y17.mc), .own y17.fa y17.fl.length y17.fc ((y17.fl).map V8) 5 1]) (T' := y17.T) (L := [.own (some fb11) 512 512 ((wh a.l).map V8) 5 1, .blk db3 ([.slice (hd (some y12.a1)) y12.ls.length y12.c1, .map (some y12.mb), .bool y12.off, VI y12.armed, VI y12.part, VI y12.way, .slice (hd y12.fa) y12.fl.length y12.fc, VI y12.writes, VI y12.lives]) 86, .own (some y12.a1) y12.ls.length y12.c1 ((y12.ls).flatMap slE) 57 1, .obj y12.mb (mobj kI y12.M y12.mc), .own y12.fa y12.fl.length y12.fc ((y12.fl).map V8) 5 1]) (L1 := [.blk db3 ([.slice (hd (some y12.a1)) y12.ls.length y12.c1, .map (some y12.mb), .bool y12.off, VI y12.armed, VI y12.part, VI y12.way, .slice (hd y12.fa) y12.fl.length y12.fc, VI y12.writes, VI y12.lives]) 86, .own (some y12.a1) y12.ls.length y12.c1 ((y12.ls).flatMap slE) 57 1, .obj y12.mb (mobj kI y12.M y12.mc), .own y12.fa y12.fl.length y12.fc ((y12.fl).map V8) 5 1]) (Lr := ([.own (some fb11) 512 512 ((wh a.l).map V8) 5 1] : List Ch)) (T := y12.T) ((perm_front (j := 1) rfl).trans (.cons _ ((perm_front (j := 1) rfl).trans (.cons _ ((perm_front (j := 1) rfl).trans (.cons _ ((perm_front (j := 1) rfl).trans (.cons _ (.refl _))))))))) Hc (.refl _)
     clear Hc
     replace H : Hp _ w _ (Ch.own (some fb11) 512 512 ((wh a.l).map V8) 5 1 :: Ch.blk db3 ([.slice (hd (some y17.a1)) y17.ls.length y17.c1, .map (some y17.mb), .bool y17.off, VI y17.armed, VI y17.part, VI y17.way, .slice (hd y17.fa) y17.fl.length y17.fc, VI y17.writes, VI y17.lives]) 86 :: Ch.own (some y17.a1) y17.ls.length y17.c1 ((y17.ls).flatMap slE) 57 1 :: Ch.obj y17.mb (mobj kI y17.M y17.mc) :: Ch.own y17.fa y17.fl.length y17.fc ((y17.fl).map V8) 5 1 :: y17.T) := H
     replace hya18 : y17.abs = dArm y12.abs 0 part := hya18
     have hya18w := dArm_wl hya18
     have hyo19n := hyo19.n
     first | refine l_end ?_ | refine l_nil ?_
     rw [← hya18] at htl
     repeat refine c_seq ?_
     refine c_region ?_
     refine l_op (o_val (r_mv) ?_)
     refine l_op (o_val (r_mv) ?_)
     refine l_op (o_val (r_mv) ?_)
     refine l_op (o_callR Try.func31 rfl rfl rfl (full_ret _ b (hb.up H (fun _ => apart_nil _))) ?_)
     rintro _ w ⟨fb21, rfl, Hc⟩
     replace H : Hp _ w _ (Ch.own (some fb21) 512 512 ((wh b.l).map V8) 5 1 :: Ch.own (some fb11) 512 512 ((wh a.l).map V8) 5 1 :: Ch.blk db3 ([.slice (hd (some y17.a1)) y17.ls.length y17.c1, .map (some y17.mb), .bool y17.off, VI y17.armed, VI y17.part, VI y17.way, .slice (hd y17.fa) y17.fl.length y17.fc, VI y17.writes, VI y17.lives]) 86 :: Ch.own (some y17.a1) y17.ls.length y17.c1 ((y17.ls).flatMap slE) 57 1 :: Ch.obj y17.mb (mobj kI y17.M y17.mc) :: Ch.own y17.fa y17.fl.length y17.fc ((y17.fl).map V8) 5 1 :: y17.T) := (H.call Hc).rot
     clear Hc
     refine l_op (o_callR Try.func34 rfl rfl rfl (dwrite_ret _ db3 y17 (H.ownT (L := [.own (some fb21) 512 512 ((wh b.l).map V8) 5 1, .own (some fb11) 512 512 ((wh a.l).map V8) 5 1, .blk db3 ([.slice (hd (some y17.a1)) y17.ls.length y17.c1, .map (some y17.mb), .bool y17.off, VI y17.armed, VI y17.part, VI y17.way, .slice (hd y17.fa) y17.fl.length y17.fc, VI y17.writes, VI y17.lives]) 86, .own (some y17.a1) y17.ls.length y17.c1 ((y17.ls).flatMap slE) 57 1, .obj y17.mb (mobj kI y17.M y17.mc), .own y17.fa y17.fl.length y17.fc ((y17.fl).map V8) 5 1]) (L1 := [.blk db3 ([.slice (hd (some y17.a1)) y17.ls.length y17.c1, .map (some y17.mb), .bool y17.off, VI y17.armed, VI y17.part, VI y17.way, .slice (hd y17.fa) y17.fl.length y17.fc, VI y17.writes, VI y17.lives]) 86, .own (some y17.a1) y17.ls.length y17.c1 ((y17.ls).flatMap slE) 57 1, .obj y17.mb (mobj kI y17.M y17.mc), .own y17.fa y17.fl.length y17.fc ((y17.fl).map V8) 5 1]) (Lr := ([.own (some fb21) 512 512 ((wh b.l).map V8) 5 1, .own (some fb11) 512 512 ((wh a.l).map V8) 5 1] : List Ch)) (T := y17.T) ((perm_front (j := 2) rfl).trans (.cons _ ((perm_front (j := 2) rfl).trans (.cons _ ((perm_front (j := 2) rfl).trans (.cons _ ((perm_front (j := 2) rfl).trans (.cons _ (.refl _)))))))))) hyo19 (m8 : Int) ⟨hd (some fb21), 512, 512, wh b.l⟩ (H.slOwn (i := 0) rfl) (fun _ => apart_own (L := [.own (some fb21) 512 512 ((wh b.l).map V8) 5 1, .own (some fb11) 512 512 ((wh a.l).map V8) 5 1, .blk db3 ([.slice (hd (some y17.a1)) y17.ls.length y17.c1, .map (some y17.mb), .bool y17.off, VI y17.armed, VI y17.part, VI y17.way, .slice (hd y17.fa) y17.fl.length y17.fc, VI y17.writes, VI y17.lives]) 86, .own (some y17.a1) y17.ls.length y17.c1 ((y17.ls).flatMap slE) 57 1, .obj y17.mb (mobj kI y17.M y17.mc), .own y17.fa y17.fl.length y17.fc ((y17.fl).map V8) 5 1]) (L1 := [.blk db3 ([.slice (hd (some y17.a1)) y17.ls.length y17.c1, .map (some y17.mb), .bool y17.off, VI y17.armed, VI y17.part, VI y17.way, .slice (hd y17.fa) y17.fl.length y17.fc, VI y17.writes, VI y17.lives]) 86, .own (some y17.a1) y17.ls.length y17.c1 ((y17.ls).flatMap slE) 57 1, .obj y17.mb (mobj kI y17.M y17.mc), .own y17.fa y17.fl.length y17.fc ((y17.fl).map V8) 5 1]) (Lr := ([.own (some fb21) 512 512 ((wh b.l).map V8) 5 1, .own (some fb11) 512 512 ((wh a.l).map V8) 5 1] : List Ch)) (T := y17.T) H ((perm_front (j := 2) rfl).trans (.cons _ ((perm_front (j := 2) rfl).trans (.cons _ ((perm_front (j := 2) rfl).trans (.cons _ ((perm_front (j := 2) rfl).trans (.cons _ (.refl _))))))))) (List.mem_of_getElem? (i := 0) rfl)) (by omega)) ?_)
     rintro _ w ⟨rfl, y22, hya23, hyo24, hyt25, Hc⟩
     replace H := H.callT (L1' := [.blk db3 ([.slice (hd (some y22.a1)) y22.ls.length y22.c1, .map (some y22.mb), .bool y22.off, VI y22.armed, VI y22.part, VI y22.way, .slice (hd y22.fa) y22.fl.length y22.fc, VI y22.writes, VI y22.lives]) 86, .own (some y22.a1) y22.ls.length y22.c1 ((y22.ls).flatMap slE) 57 1, .obj y22.mb (mobj kI y22.M y22.mc), .own y22.fa y22.fl.length y22.fc ((y22.fl).map V8) 5 1]) (T' := y22.T) (L := [.own (some fb21) 512 512 ((wh b.l).map V8) 5 1, .own (some fb11) 512 512 ((wh a.l).map V8) 5 1, .blk db3 ([.slice (hd (some y17.a1)) y17.ls.length y17.c1, .map (some y17.mb), .bool y17.off, VI y17.armed, VI y17.part, VI y17.way, .slice (hd y17.fa) y17.fl.length y17.fc, VI y17.writes, VI y17.lives]) 86, .own (some y17.a1) y17.ls.length y17.c1 ((y17.ls).flatMap slE) 57 1, .obj y17.mb (mobj kI y17.M y17.mc), .own y17.fa y17.fl.length y17.fc ((y17.fl).map V8) 5 1]) (L1 := [.blk db3 ([.slice (hd (some y17.a1)) y17.ls.length y17.c1, .map (some y17.mb), .bool y17.off, VI y17.armed, VI y17.part, VI y17.way, .slice (hd y17.fa) y17.fl.length y17.fc, VI y17.writes, VI y17.lives]) 86, .own (some y17.a1) y17.ls.length y17.c1 ((y17.ls).flatMap slE) 57 1, .obj y17.mb (mobj kI y17.M y17.mc), .own y17.fa y17.fl.length y17.fc ((y17.fl).map V8) 5 1]) (Lr := ([.own (some fb21) 512 512 ((wh b.l).map V8) 5 1, .own (some fb11) 512 512 ((wh a.l).map V8) 5 1] : List Ch)) (T := y17.T) ((perm_front (j := 2) rfl).trans (.cons _ ((perm_front (j := 2) rfl).trans (.cons _ ((perm_front (j := 2) rfl).trans (.cons _ ((perm_front (j := 2) rfl).trans (.cons _ (.refl _))))))))) Hc (.refl _)
     clear Hc
     replace H : Hp _ w _ (Ch.own (some fb21) 512 512 ((wh b.l).map V8) 5 1 :: Ch.own (some fb11) 512 512 ((wh a.l).map V8) 5 1 :: Ch.blk db3 ([.slice (hd (some y22.a1)) y22.ls.length y22.c1, .map (some y22.mb), .bool y22.off, VI y22.armed, VI y22.part, VI y22.way, .slice (hd y22.fa) y22.fl.length y22.fc, VI y22.writes, VI y22.lives]) 86 :: Ch.own (some y22.a1) y22.ls.length y22.c1 ((y22.ls).flatMap slE) 57 1 :: Ch.obj y22.mb (mobj kI y22.M y22.mc) :: Ch.own y22.fa y22.fl.length y22.fc ((y22.fl).map V8) 5 1 :: y22.T) := H
     replace hya23 : y22.abs = dWrite y17.abs (m8 : Int) (wh b.l) := hya23
     have hya23w := dWrite_wl hya23
     have hyo24n := hyo24.n
     refine l_op (o_val (r_bin (a := dWriteE y17.abs (m8 : Int) (wh b.l)) (b := 8) rfl rfl (fun _ => b_neqB false (decide_eq_false (fun h => h htl.1)))) ?_)
     refine l_op (o_val (r_mv) ?_)
     refine l_yes rfl rfl rfl (o_val (r_mv) ?_)
     refine l_yes rfl rfl rfl (o_callR Try.func32 rfl rfl rfl (ddead_ret _ _ y22.ls.length y22.c1 y22.fl.length y22.fc (hd (some y22.a1)) (hd y22.fa) (some y22.mb) y22.off y22.armed y22.part y22.way y22.writes y22.lives (by omega) (H.has _ (List.mem_of_getElem? (i := 2) rfl))) ?_)
     rintro _ w ⟨rfl, Hc⟩
     replace H := (H.callA (i := 2) rfl rfl rfl Hc)
     clear Hc
     replace H : Hp _ w _ (Ch.own (some fb21) 512 512 ((wh b.l).map V8) 5 1 :: Ch.own (some fb11) 512 512 ((wh a.l).map V8) 5 1 :: Ch.blk db3 ([.slice (hd (some y22.a1)) y22.ls.length y22.c1, .map (some y22.mb), .bool y22.off, VI y22.armed, VI y22.part, VI y22.way, .slice (hd y22.fa) y22.fl.length y22.fc, VI y22.writes, VI y22.lives]) 86 :: Ch.own (some y22.a1) y22.ls.length y22.c1 ((y22.ls).flatMap slE) 57 1 :: Ch.obj y22.mb (mobj kI y22.M y22.mc) :: Ch.own y22.fa y22.fl.length y22.fc ((y22.fl).map V8) 5 1 :: y22.T) := H
     refine l_yes rfl rfl rfl (o_val (r_not rfl) ?_)
     have hk26 : (!y22.off) = false := (by rw [show y22.off = true from (congrArg DD.off hya23).trans htl.2.1]; rfl)
     refine l_op (o_val (r_pick rfl) ?_)
     first | refine l_end ?_ | refine l_nil ?_
     repeat refine c_seq ?_
     refine c_no (by exact congrArg Value.bool hk26) ?_
     refine c_skip ?_
     rw [← hya23] at htl
     repeat refine c_seq ?_
     refine c_region ?_
     refine l_op (o_val (r_mv) ?_)
     refine l_op (o_val (r_mv) ?_)
     refine l_op (o_bslV ([.bool keep]) H sl68 zc4 rfl (by simp [Value.oneCell']) rfl (by decide) (fun b27 w H hb27 => ?_))
     replace H := H.rot
     replace H : Hp _ w _ (Ch.own (some b27) 1 1 (([keep]).flatMap boolE) 4 1 :: Ch.own (some fb21) 512 512 ((wh b.l).map V8) 5 1 :: Ch.own (some fb11) 512 512 ((wh a.l).map V8) 5 1 :: Ch.blk db3 ([.slice (hd (some y22.a1)) y22.ls.length y22.c1, .map (some y22.mb), .bool y22.off, VI y22.armed, VI y22.part, VI y22.way, .slice (hd y22.fa) y22.fl.length y22.fc, VI y22.writes, VI y22.lives]) 86 :: Ch.own (some y22.a1) y22.ls.length y22.c1 ((y22.ls).flatMap slE) 57 1 :: Ch.obj y22.mb (mobj kI y22.M y22.mc) :: Ch.own y22.fa y22.fl.length y22.fc ((y22.fl).map V8) 5 1 :: y22.T) := H
     refine l_op (o_callR Try.func37 rfl rfl rfl (dpower_ret _ db3 y22 (H.ownT (L := [.own (some b27) 1 1 (([keep]).flatMap boolE) 4 1, .own (some fb21) 512 512 ((wh b.l).map V8) 5 1, .own (some fb11) 512 512 ((wh a.l).map V8) 5 1, .blk db3 ([.slice (hd (some y22.a1)) y22.ls.length y22.c1, .map (some y22.mb), .bool y22.off, VI y22.armed, VI y22.part, VI y22.way, .slice (hd y22.fa) y22.fl.length y22.fc, VI y22.writes, VI y22.lives]) 86, .own (some y22.a1) y22.ls.length y22.c1 ((y22.ls).flatMap slE) 57 1, .obj y22.mb (mobj kI y22.M y22.mc), .own y22.fa y22.fl.length y22.fc ((y22.fl).map V8) 5 1]) (L1 := [.blk db3 ([.slice (hd (some y22.a1)) y22.ls.length y22.c1, .map (some y22.mb), .bool y22.off, VI y22.armed, VI y22.part, VI y22.way, .slice (hd y22.fa) y22.fl.length y22.fc, VI y22.writes, VI y22.lives]) 86, .own (some y22.a1) y22.ls.length y22.c1 ((y22.ls).flatMap slE) 57 1, .obj y22.mb (mobj kI y22.M y22.mc), .own y22.fa y22.fl.length y22.fc ((y22.fl).map V8) 5 1]) (Lr := ([.own (some b27) 1 1 (([keep]).flatMap boolE) 4 1, .own (some fb21) 512 512 ((wh b.l).map V8) 5 1, .own (some fb11) 512 512 ((wh a.l).map V8) 5 1] : List Ch)) (T := y22.T) ((perm_front (j := 3) rfl).trans (.cons _ ((perm_front (j := 3) rfl).trans (.cons _ ((perm_front (j := 3) rfl).trans (.cons _ ((perm_front (j := 3) rfl).trans (.cons _ (.refl _)))))))))) hyo24 ⟨hd (some b27), 1, 1, [keep]⟩ (H.glOwn (i := 0) rfl (by decide) (fun _ _ => rfl)) (fun _ => apart_own (L := [.own (some b27) 1 1 (([keep]).flatMap boolE) 4 1, .own (some fb21) 512 512 ((wh b.l).map V8) 5 1, .own (some fb11) 512 512 ((wh a.l).map V8) 5 1, .blk db3 ([.slice (hd (some y22.a1)) y22.ls.length y22.c1, .map (some y22.mb), .bool y22.off, VI y22.armed, VI y22.part, VI y22.way, .slice (hd y22.fa) y22.fl.length y22.fc, VI y22.writes, VI y22.lives]) 86, .own (some y22.a1) y22.ls.length y22.c1 ((y22.ls).flatMap slE) 57 1, .obj y22.mb (mobj kI y22.M y22.mc), .own y22.fa y22.fl.length y22.fc ((y22.fl).map V8) 5 1]) (L1 := [.blk db3 ([.slice (hd (some y22.a1)) y22.ls.length y22.c1, .map (some y22.mb), .bool y22.off, VI y22.armed, VI y22.part, VI y22.way, .slice (hd y22.fa) y22.fl.length y22.fc, VI y22.writes, VI y22.lives]) 86, .own (some y22.a1) y22.ls.length y22.c1 ((y22.ls).flatMap slE) 57 1, .obj y22.mb (mobj kI y22.M y22.mc), .own y22.fa y22.fl.length y22.fc ((y22.fl).map V8) 5 1]) (Lr := ([.own (some b27) 1 1 (([keep]).flatMap boolE) 4 1, .own (some fb21) 512 512 ((wh b.l).map V8) 5 1, .own (some fb11) 512 512 ((wh a.l).map V8) 5 1] : List Ch)) (T := y22.T) H ((perm_front (j := 3) rfl).trans (.cons _ ((perm_front (j := 3) rfl).trans (.cons _ ((perm_front (j := 3) rfl).trans (.cons _ ((perm_front (j := 3) rfl).trans (.cons _ (.refl _))))))))) (List.mem_of_getElem? (i := 0) rfl)) (by omega)) ?_)
     rintro _ w ⟨rfl, y28, hya29, hyo30, hyt31, Hc⟩
     replace H := H.callT (L1' := [.blk db3 ([.slice (hd (some y28.a1)) y28.ls.length y28.c1, .map (some y28.mb), .bool y28.off, VI y28.armed, VI y28.part, VI y28.way, .slice (hd y28.fa) y28.fl.length y28.fc, VI y28.writes, VI y28.lives]) 86, .own (some y28.a1) y28.ls.length y28.c1 ((y28.ls).flatMap slE) 57 1, .obj y28.mb (mobj kI y28.M y28.mc), .own y28.fa y28.fl.length y28.fc ((y28.fl).map V8) 5 1]) (T' := y28.T) (L := [.own (some b27) 1 1 (([keep]).flatMap boolE) 4 1, .own (some fb21) 512 512 ((wh b.l).map V8) 5 1, .own (some fb11) 512 512 ((wh a.l).map V8) 5 1, .blk db3 ([.slice (hd (some y22.a1)) y22.ls.length y22.c1, .map (some y22.mb), .bool y22.off, VI y22.armed, VI y22.part, VI y22.way, .slice (hd y22.fa) y22.fl.length y22.fc, VI y22.writes, VI y22.lives]) 86, .own (some y22.a1) y22.ls.length y22.c1 ((y22.ls).flatMap slE) 57 1, .obj y22.mb (mobj kI y22.M y22.mc), .own y22.fa y22.fl.length y22.fc ((y22.fl).map V8) 5 1]) (L1 := [.blk db3 ([.slice (hd (some y22.a1)) y22.ls.length y22.c1, .map (some y22.mb), .bool y22.off, VI y22.armed, VI y22.part, VI y22.way, .slice (hd y22.fa) y22.fl.length y22.fc, VI y22.writes, VI y22.lives]) 86, .own (some y22.a1) y22.ls.length y22.c1 ((y22.ls).flatMap slE) 57 1, .obj y22.mb (mobj kI y22.M y22.mc), .own y22.fa y22.fl.length y22.fc ((y22.fl).map V8) 5 1]) (Lr := ([.own (some b27) 1 1 (([keep]).flatMap boolE) 4 1, .own (some fb21) 512 512 ((wh b.l).map V8) 5 1, .own (some fb11) 512 512 ((wh a.l).map V8) 5 1] : List Ch)) (T := y22.T) ((perm_front (j := 3) rfl).trans (.cons _ ((perm_front (j := 3) rfl).trans (.cons _ ((perm_front (j := 3) rfl).trans (.cons _ ((perm_front (j := 3) rfl).trans (.cons _ (.refl _))))))))) Hc (.refl _)
     clear Hc
     replace H : Hp _ w _ (Ch.own (some b27) 1 1 (([keep]).flatMap boolE) 4 1 :: Ch.own (some fb21) 512 512 ((wh b.l).map V8) 5 1 :: Ch.own (some fb11) 512 512 ((wh a.l).map V8) 5 1 :: Ch.blk db3 ([.slice (hd (some y28.a1)) y28.ls.length y28.c1, .map (some y28.mb), .bool y28.off, VI y28.armed, VI y28.part, VI y28.way, .slice (hd y28.fa) y28.fl.length y28.fc, VI y28.writes, VI y28.lives]) 86 :: Ch.own (some y28.a1) y28.ls.length y28.c1 ((y28.ls).flatMap slE) 57 1 :: Ch.obj y28.mb (mobj kI y28.M y28.mc) :: Ch.own y28.fa y28.fl.length y28.fc ((y28.fl).map V8) 5 1 :: y28.T) := H
     replace hya29 : y28.abs = dPower y22.abs ([keep]) := hya29
     have hya29w := dPower_wl hya29
     have hyo30n := hyo30.n
     first | refine l_end ?_ | refine l_nil ?_
     rw [← hya29] at htl
     repeat refine c_seq ?_
     refine c_region ?_
     refine l_op (o_val (r_mv) ?_)
     refine l_op (o_val (r_min rfl rfl) ?_)
     have hk2 : (if 0 < (if 512 < part then 512 else part) then (if 512 < part then 512 else part) else 0) = (q : Int) := by rw [← hq]; show _ = (if 512 < (if part < 0 then 0 else part) then 512 else if part < 0 then 0 else part); (repeat' split) <;> omega
     refine l_op (o_val (r_eqI (r_max (a := 0) (b := (if 512 < part then 512 else part)) rfl rfl) hk2) ?_)
     refine l_op (o_val (r_as) ?_)
     first | refine l_end ?_ | refine l_nil ?_
     repeat refine c_seq ?_
     refine c_region ?_
     refine l_op (o_val (r_mv) ?_)
     refine l_op (o_callR Try.func31 rfl rfl rfl (full_ret _ a (ha.up H (fun _ => apart_nil _))) ?_)
     rintro _ w ⟨fb32, rfl, Hc⟩
     replace H : Hp _ w _ (Ch.own (some fb32) 512 512 ((wh a.l).map V8) 5 1 :: Ch.own (some b27) 1 1 (([keep]).flatMap boolE) 4 1 :: Ch.own (some fb21) 512 512 ((wh b.l).map V8) 5 1 :: Ch.own (some fb11) 512 512 ((wh a.l).map V8) 5 1 :: Ch.blk db3 ([.slice (hd (some y28.a1)) y28.ls.length y28.c1, .map (some y28.mb), .bool y28.off, VI y28.armed, VI y28.part, VI y28.way, .slice (hd y28.fa) y28.fl.length y28.fc, VI y28.writes, VI y28.lives]) 86 :: Ch.own (some y28.a1) y28.ls.length y28.c1 ((y28.ls).flatMap slE) 57 1 :: Ch.obj y28.mb (mobj kI y28.M y28.mc) :: Ch.own y28.fa y28.fl.length y28.fc ((y28.fl).map V8) 5 1 :: y28.T) := (H.call Hc).rot
     clear Hc
     refine l_op (o_val (r_as) ?_)
     first | refine l_end ?_ | refine l_nil ?_
     repeat refine c_seq ?_
     refine c_region ?_
     refine l_op (o_val (r_mv) ?_)
     refine l_op (o_val (r_mv) ?_)
     refine l_yes rfl rfl (by exact congrArg Value.bool hc16) (o_val (r_mv) ?_)
     refine l_yes rfl rfl (by exact congrArg Value.bool hc16) (o_val (r_not rfl) ?_)
     refine l_op (o_val (r_pick (b := true) (congrArg Value.bool hc16)) ?_)
     first | refine l_end ?_ | refine l_nil ?_
     have hc330 := Bool.eq_false_or_eq_true (keep)
     rcases hc330 with hc33 | hc33
     ·
      repeat refine c_seq ?_
      refine c_no (by exact congrArg Value.bool (congrArg not hc33)) ?_
      refine c_skip ?_
      repeat refine c_seq ?_
      refine c_region ?_
      refine l_op (o_val (r_mv) ?_)
      refine l_op (o_val (r_mv) ?_)
      refine l_op (o_callR Try.func29 rfl rfl rfl (dread_ret _ db3 y28 (H.ownT (L := [.own (some fb32) 512 512 ((wh a.l).map V8) 5 1, .own (some b27) 1 1 (([keep]).flatMap boolE) 4 1, .own (some fb21) 512 512 ((wh b.l).map V8) 5 1, .own (some fb11) 512 512 ((wh a.l).map V8) 5 1, .blk db3 ([.slice (hd (some y28.a1)) y28.ls.length y28.c1, .map (some y28.mb), .bool y28.off, VI y28.armed, VI y28.part, VI y28.way, .slice (hd y28.fa) y28.fl.length y28.fc, VI y28.writes, VI y28.lives]) 86, .own (some y28.a1) y28.ls.length y28.c1 ((y28.ls).flatMap slE) 57 1, .obj y28.mb (mobj kI y28.M y28.mc), .own y28.fa y28.fl.length y28.fc ((y28.fl).map V8) 5 1]) (L1 := [.blk db3 ([.slice (hd (some y28.a1)) y28.ls.length y28.c1, .map (some y28.mb), .bool y28.off, VI y28.armed, VI y28.part, VI y28.way, .slice (hd y28.fa) y28.fl.length y28.fc, VI y28.writes, VI y28.lives]) 86, .own (some y28.a1) y28.ls.length y28.c1 ((y28.ls).flatMap slE) 57 1, .obj y28.mb (mobj kI y28.M y28.mc), .own y28.fa y28.fl.length y28.fc ((y28.fl).map V8) 5 1]) (Lr := ([.own (some fb32) 512 512 ((wh a.l).map V8) 5 1, .own (some b27) 1 1 (([keep]).flatMap boolE) 4 1, .own (some fb21) 512 512 ((wh b.l).map V8) 5 1, .own (some fb11) 512 512 ((wh a.l).map V8) 5 1] : List Ch)) (T := y28.T) ((perm_front (j := 4) rfl).trans (.cons _ ((perm_front (j := 4) rfl).trans (.cons _ ((perm_front (j := 4) rfl).trans (.cons _ ((perm_front (j := 4) rfl).trans (.cons _ (.refl _)))))))))) hyo30 (m8 : Int)) ?_)
      rintro _ w ⟨a34, n35, c36, rl37, rfl, hrn38, hr039, hr140, Hc⟩
      replace H := H.callT (L1' := [.own a34 n35 c36 ((rl37).map V8) 5 1, .blk db3 ([.slice (hd (some y28.a1)) y28.ls.length y28.c1, .map (some y28.mb), .bool y28.off, VI y28.armed, VI y28.part, VI y28.way, .slice (hd y28.fa) y28.fl.length y28.fc, VI y28.writes, VI y28.lives]) 86, .own (some y28.a1) y28.ls.length y28.c1 ((y28.ls).flatMap slE) 57 1, .obj y28.mb (mobj kI y28.M y28.mc), .own y28.fa y28.fl.length y28.fc ((y28.fl).map V8) 5 1]) (T' := y28.T) (L := [.own (some fb32) 512 512 ((wh a.l).map V8) 5 1, .own (some b27) 1 1 (([keep]).flatMap boolE) 4 1, .own (some fb21) 512 512 ((wh b.l).map V8) 5 1, .own (some fb11) 512 512 ((wh a.l).map V8) 5 1, .blk db3 ([.slice (hd (some y28.a1)) y28.ls.length y28.c1, .map (some y28.mb), .bool y28.off, VI y28.armed, VI y28.part, VI y28.way, .slice (hd y28.fa) y28.fl.length y28.fc, VI y28.writes, VI y28.lives]) 86, .own (some y28.a1) y28.ls.length y28.c1 ((y28.ls).flatMap slE) 57 1, .obj y28.mb (mobj kI y28.M y28.mc), .own y28.fa y28.fl.length y28.fc ((y28.fl).map V8) 5 1]) (L1 := [.blk db3 ([.slice (hd (some y28.a1)) y28.ls.length y28.c1, .map (some y28.mb), .bool y28.off, VI y28.armed, VI y28.part, VI y28.way, .slice (hd y28.fa) y28.fl.length y28.fc, VI y28.writes, VI y28.lives]) 86, .own (some y28.a1) y28.ls.length y28.c1 ((y28.ls).flatMap slE) 57 1, .obj y28.mb (mobj kI y28.M y28.mc), .own y28.fa y28.fl.length y28.fc ((y28.fl).map V8) 5 1]) (Lr := ([.own (some fb32) 512 512 ((wh a.l).map V8) 5 1, .own (some b27) 1 1 (([keep]).flatMap boolE) 4 1, .own (some fb21) 512 512 ((wh b.l).map V8) 5 1, .own (some fb11) 512 512 ((wh a.l).map V8) 5 1] : List Ch)) (T := y28.T) ((perm_front (j := 4) rfl).trans (.cons _ ((perm_front (j := 4) rfl).trans (.cons _ ((perm_front (j := 4) rfl).trans (.cons _ ((perm_front (j := 4) rfl).trans (.cons _ (.refl _))))))))) Hc ((perm_front (j := 4) rfl).trans (.cons _ (.refl _)))
      clear Hc
      replace H : Hp _ w _ (Ch.own a34 n35 c36 ((rl37).map V8) 5 1 :: Ch.own (some fb32) 512 512 ((wh a.l).map V8) 5 1 :: Ch.own (some b27) 1 1 (([keep]).flatMap boolE) 4 1 :: Ch.own (some fb21) 512 512 ((wh b.l).map V8) 5 1 :: Ch.own (some fb11) 512 512 ((wh a.l).map V8) 5 1 :: Ch.blk db3 ([.slice (hd (some y28.a1)) y28.ls.length y28.c1, .map (some y28.mb), .bool y28.off, VI y28.armed, VI y28.part, VI y28.way, .slice (hd y28.fa) y28.fl.length y28.fc, VI y28.writes, VI y28.lives]) 86 :: Ch.own (some y28.a1) y28.ls.length y28.c1 ((y28.ls).flatMap slE) 57 1 :: Ch.obj y28.mb (mobj kI y28.M y28.mc) :: Ch.own y28.fa y28.fl.length y28.fc ((y28.fl).map V8) 5 1 :: y28.T) := H
      refine l_op (o_val (r_mv) ?_)
      refine l_op (o_val (r_ext rfl rfl) ?_)
      refine l_op (o_val (r_ext rfl rfl) ?_)
      refine l_op (o_val (r_as) ?_)
      refine l_op (o_val (r_as) ?_)
      first | refine l_end ?_ | refine l_nil ?_
      have hs1 : (((wh b.l).drop 0).take q).length ≤ 512 := by rw [List.length_take]; omega
      have hs2 : (((wh a.l).drop q).take (512 - q)).length ≤ 512 := by rw [List.length_take]; omega
      obtain ⟨_, _, ht3, ht4, ht5, ht6⟩ := htl
      rw [if_neg (fun h => by rw [hc16, hc33] at h; simp at h)] at ht4
      rw [← hr039 ht3] at ht4
      repeat refine c_seq ?_
      refine wp_held (fun w => Hp w0 w [] [.own a34 n35 c36 ((rl37).map V8) 5 1, .own (some fb32) 512 512 ((wh a.l).map V8) 5 1, .own (some b27) 1 1 (([keep]).flatMap boolE) 4 1, .own (some fb21) 512 512 ((wh b.l).map V8) 5 1, .own (some fb11) 512 512 ((wh a.l).map V8) 5 1, .blk db3 ([.slice (hd (some y28.a1)) y28.ls.length y28.c1, .map (some y28.mb), .bool y28.off, VI y28.armed, VI y28.part, VI y28.way, .slice (hd y28.fa) y28.fl.length y28.fc, VI y28.writes, VI y28.lives]) 86, .own (some y28.a1) y28.ls.length y28.c1 ((y28.ls).flatMap slE) 57 1, .obj y28.mb (mobj kI y28.M y28.mc), .own y28.fa y28.fl.length y28.fc ((y28.fl).map V8) 5 1]) mixed ?_
      replace H := H.drew
      have HS := H.sub (.cons_cons _ (.cons_cons _ (.cons_cons _ (.cons_cons _ (.cons_cons _ (.cons_cons _ (.cons_cons _ (.cons_cons _ (.cons_cons _ (List.nil_sublist _))))))))))
      refine t_take 0 rfl (by kernel_rfl) (by kernel_rfl) (by kernel_rfl) (fun _ _ _ h => h) (fun w HS => r_mv) HS ?_
      refine t_take 1 rfl (by kernel_rfl) (by kernel_rfl) (by kernel_rfl) (fun _ _ _ h => h) (fun w HS => r_bin (a := dMay y28.abs (m8 : Int)) (b := 0) rfl rfl (fun _ => b_eqlB true (decide_eq_true ht3))) HS ?_
      refine t_take 2 rfl (by kernel_rfl) (by kernel_rfl) (by kernel_rfl) (fun _ _ _ h => h) (fun w HS => r_mv) HS ?_
      refine t_takeg 3 rfl (by kernel_rfl) (by kernel_rfl) (by kernel_rfl) (fun _ _ _ h => h) (yielded_mk _ _ _ rfl _ rfl rfl) (fun w HS => r_mv) HS ?_
      refine t_takeg 4 rfl (by kernel_rfl) (by kernel_rfl) (by kernel_rfl) (fun _ _ _ h => h) (yielded_mk _ _ _ rfl _ rfl rfl) (fun w HS => r_b2S (s := ⟨hd a34, n35, c36, rl37⟩) Try.underlying57 Try.underlying5 Try.underlying9 rfl (HS.slOwn (i := 0) rfl)) HS ?_
      refine t_takeg 5 rfl (by kernel_rfl) (by kernel_rfl) (by kernel_rfl) (fun _ _ _ h => h) (yielded_mk _ _ _ rfl _ rfl rfl) (fun w HS => r_mv) HS ?_
      refine t_takeg 7 rfl (by kernel_rfl) (by kernel_rfl) (by kernel_rfl) (fun _ _ _ h => h) (yielded_mk _ _ _ rfl _ rfl rfl) (fun w HS => r_mv) HS ?_
      refine t_takeg 10 rfl (by kernel_rfl) (by kernel_rfl) (by kernel_rfl) (fun _ _ _ h => h) (yielded_mk _ _ _ rfl _ rfl rfl) (fun w HS => r_mv) HS ?_
      refine t_takeg 11 rfl (by kernel_rfl) (by kernel_rfl) (by kernel_rfl) (fun _ _ _ h => h) (yielded_mk _ _ _ rfl _ rfl rfl) (fun w HS => r_mv) HS ?_
      refine t_takeg 12 rfl (by kernel_rfl) (by kernel_rfl) (by kernel_rfl) (fun _ _ _ h => h) (yielded_mk _ _ _ rfl _ rfl rfl) (fun w HS => r_slS (s := ⟨hd (some fb32), 512, 512, wh a.l⟩) q 512 512 (lv := some (VI (q : Int))) (hv := none) (mv := none) rfl el57 rfl rfl rfl (fun w => by exact sbl q (by omega) (by (try simp only []); omega) w)) HS ?_
      refine t_takeg 13 rfl (by kernel_rfl) (by kernel_rfl) (by kernel_rfl) (fun _ _ _ h => h) (yielded_mk _ _ _ rfl _ rfl rfl) (fun w HS => r_b2S (s := (Sl.cut ⟨hd (some fb32), 512, 512, wh a.l⟩ q 512 512)) Try.underlying57 Try.underlying5 Try.underlying9 rfl ((HS.slOwn (i := 1) rfl).cut (l := q) (h := 512) (m := 512) (by omega) (by (try simp only []); omega) (by omega) (by (try simp only []); omega))) HS ?_
      refine t_stepg 6 rfl (by kernel_rfl) (yielded_mk _ _ _ rfl _ rfl rfl) (o_callR Try.func31 rfl rfl rfl (full_ret _ b (hb.up H (fun _ => apart_nil _))) ?_)
      rintro _ w ⟨fb41, rfl, Hc⟩
      replace H : Hp _ w _ (Ch.own (some fb41) 512 512 ((wh b.l).map V8) 5 1 :: Ch.own a34 n35 c36 ((rl37).map V8) 5 1 :: Ch.own (some fb32) 512 512 ((wh a.l).map V8) 5 1 :: Ch.own (some b27) 1 1 (([keep]).flatMap boolE) 4 1 :: Ch.own (some fb21) 512 512 ((wh b.l).map V8) 5 1 :: Ch.own (some fb11) 512 512 ((wh a.l).map V8) 5 1 :: Ch.blk db3 ([.slice (hd (some y28.a1)) y28.ls.length y28.c1, .map (some y28.mb), .bool y28.off, VI y28.armed, VI y28.part, VI y28.way, .slice (hd y28.fa) y28.fl.length y28.fc, VI y28.writes, VI y28.lives]) 86 :: Ch.own (some y28.a1) y28.ls.length y28.c1 ((y28.ls).flatMap slE) 57 1 :: Ch.obj y28.mb (mobj kI y28.M y28.mc) :: Ch.own y28.fa y28.fl.length y28.fc ((y28.fl).map V8) 5 1 :: y28.T) := (H.call Hc).rot
      clear Hc
      refine ⟨H.sub (.cons _ (.cons_cons _ (.cons_cons _ (.cons_cons _ (.cons_cons _ (.cons_cons _ (.cons_cons _ (.cons_cons _ (.cons_cons _ (.cons_cons _ (List.nil_sublist _))))))))))), ?_⟩
      replace HS := H.sub (.cons _ (.cons_cons _ (.cons_cons _ (.cons_cons _ (.cons_cons _ (.cons_cons _ (.cons_cons _ (.cons_cons _ (.cons_cons _ (.cons_cons _ (List.nil_sublist _)))))))))))
      have hol42 := (H.ownLen (i := 0) rfl).2.1
      refine t_stepg 8 rfl (by kernel_rfl) (yielded_mk _ _ _ rfl _ rfl rfl) (o_val (r_slS (s := ⟨hd (some fb41), 512, 512, wh b.l⟩) 0 q 512 (lv := none) (hv := some (VI (q : Int))) (mv := none) rfl el57 rfl rfl rfl (fun w => by exact sbh q (by omega) (by (try simp only []); omega) w)) ?_)
      refine ⟨H.sub (.cons _ (.cons_cons _ (.cons_cons _ (.cons_cons _ (.cons_cons _ (.cons_cons _ (.cons_cons _ (.cons_cons _ (.cons_cons _ (.cons_cons _ (List.nil_sublist _))))))))))), ?_⟩
      replace HS := H.sub (.cons _ (.cons_cons _ (.cons_cons _ (.cons_cons _ (.cons_cons _ (.cons_cons _ (.cons_cons _ (.cons_cons _ (.cons_cons _ (.cons_cons _ (List.nil_sublist _)))))))))))
      refine t_stepg 9 rfl (by kernel_rfl) (yielded_mk _ _ _ rfl _ rfl rfl) (o_val (r_b2S (s := (Sl.cut ⟨hd (some fb41), 512, 512, wh b.l⟩ 0 q 512)) Try.underlying57 Try.underlying5 Try.underlying9 rfl ((H.slOwn (i := 0) rfl).cut (l := 0) (h := q) (m := 512) (by omega) (by (try simp only []); omega) (by omega) (by (try simp only []); omega))) ?_)
      refine ⟨H.sub (.cons _ (.cons_cons _ (.cons_cons _ (.cons_cons _ (.cons_cons _ (.cons_cons _ (.cons_cons _ (.cons_cons _ (.cons_cons _ (.cons_cons _ (List.nil_sublist _))))))))))), ?_⟩
      replace HS := H.sub (.cons _ (.cons_cons _ (.cons_cons _ (.cons_cons _ (.cons_cons _ (.cons_cons _ (.cons_cons _ (.cons_cons _ (.cons_cons _ (.cons_cons _ (List.nil_sublist _)))))))))))
      refine t_takeg 14 rfl (by kernel_rfl) (by kernel_rfl) (by kernel_rfl) (fun _ _ _ h => h) (yielded_mk _ _ _ rfl _ rfl rfl) (fun w HS => r_stradd (a := ((wh b.l).drop 0).take (q)) (b := ((wh a.l).drop q).take (512 - q)) rfl rfl (by (try simp only [List.length_cons, List.length_nil]); omega)) HS ?_
      refine t_takeg 15 rfl (by kernel_rfl) (by kernel_rfl) (by kernel_rfl) (fun _ _ _ h => h) (yielded_mk _ _ _ rfl _ rfl rfl) (fun w HS => r_streq (a := rl37) (b := (((wh b.l).drop 0).take (q)) ++ (((wh a.l).drop q).take (512 - q))) rfl rfl) HS ?_
      have hk43 : (decide (rl37 = (((wh b.l).drop 0).take (q)) ++ (((wh a.l).drop q).take (512 - q)))) = true := (by rw [ht4]; simp [List.take_of_length_le, wh_len])
      refine t_take 16 rfl (by kernel_rfl) (by kernel_rfl) (by kernel_rfl) (fun _ _ _ h => h) (fun w HS => r_pick rfl) HS ?_
      refine t_take 17 rfl (by kernel_rfl) (by kernel_rfl) (by kernel_rfl) (fun _ _ _ h => h) (fun w HS => r_mv) HS ?_
      refine t_takeg 18 rfl (by kernel_rfl) (by kernel_rfl) (by kernel_rfl) (fun _ _ _ h => h) (yielded_mk _ _ _ rfl _ rfl (by exact congrArg Value.bool hk43)) (fun w HS => r_mv) HS ?_
      refine t_stepg 19 rfl (by kernel_rfl) (yielded_mk _ _ _ rfl _ rfl (by exact congrArg Value.bool hk43)) (o_callR Try.func33 rfl rfl rfl (dwaiting_ret _ db3 y28 (H.ownT (L := [.own (some fb41) 512 512 ((wh b.l).map V8) 5 1, .own a34 n35 c36 ((rl37).map V8) 5 1, .own (some fb32) 512 512 ((wh a.l).map V8) 5 1, .own (some b27) 1 1 (([keep]).flatMap boolE) 4 1, .own (some fb21) 512 512 ((wh b.l).map V8) 5 1, .own (some fb11) 512 512 ((wh a.l).map V8) 5 1, .blk db3 ([.slice (hd (some y28.a1)) y28.ls.length y28.c1, .map (some y28.mb), .bool y28.off, VI y28.armed, VI y28.part, VI y28.way, .slice (hd y28.fa) y28.fl.length y28.fc, VI y28.writes, VI y28.lives]) 86, .own (some y28.a1) y28.ls.length y28.c1 ((y28.ls).flatMap slE) 57 1, .obj y28.mb (mobj kI y28.M y28.mc), .own y28.fa y28.fl.length y28.fc ((y28.fl).map V8) 5 1]) (L1 := [.blk db3 ([.slice (hd (some y28.a1)) y28.ls.length y28.c1, .map (some y28.mb), .bool y28.off, VI y28.armed, VI y28.part, VI y28.way, .slice (hd y28.fa) y28.fl.length y28.fc, VI y28.writes, VI y28.lives]) 86, .own (some y28.a1) y28.ls.length y28.c1 ((y28.ls).flatMap slE) 57 1, .obj y28.mb (mobj kI y28.M y28.mc), .own y28.fa y28.fl.length y28.fc ((y28.fl).map V8) 5 1]) (Lr := ([.own (some fb41) 512 512 ((wh b.l).map V8) 5 1, .own a34 n35 c36 ((rl37).map V8) 5 1, .own (some fb32) 512 512 ((wh a.l).map V8) 5 1, .own (some b27) 1 1 (([keep]).flatMap boolE) 4 1, .own (some fb21) 512 512 ((wh b.l).map V8) 5 1, .own (some fb11) 512 512 ((wh a.l).map V8) 5 1] : List Ch)) (T := y28.T) ((perm_front (j := 6) rfl).trans (.cons _ ((perm_front (j := 6) rfl).trans (.cons _ ((perm_front (j := 6) rfl).trans (.cons _ ((perm_front (j := 6) rfl).trans (.cons _ (.refl _)))))))))) hyo30) ?_)
      rintro _ w ⟨a44, c45, rfl, Hc⟩
      replace H := H.callT (L1' := [.own a44 ((dWaiting y28.abs).length) c45 ((dWaiting y28.abs).flatMap intE) 3 1, .blk db3 ([.slice (hd (some y28.a1)) y28.ls.length y28.c1, .map (some y28.mb), .bool y28.off, VI y28.armed, VI y28.part, VI y28.way, .slice (hd y28.fa) y28.fl.length y28.fc, VI y28.writes, VI y28.lives]) 86, .own (some y28.a1) y28.ls.length y28.c1 ((y28.ls).flatMap slE) 57 1, .obj y28.mb (mobj kI y28.M y28.mc), .own y28.fa y28.fl.length y28.fc ((y28.fl).map V8) 5 1]) (T' := y28.T) (L := [.own (some fb41) 512 512 ((wh b.l).map V8) 5 1, .own a34 n35 c36 ((rl37).map V8) 5 1, .own (some fb32) 512 512 ((wh a.l).map V8) 5 1, .own (some b27) 1 1 (([keep]).flatMap boolE) 4 1, .own (some fb21) 512 512 ((wh b.l).map V8) 5 1, .own (some fb11) 512 512 ((wh a.l).map V8) 5 1, .blk db3 ([.slice (hd (some y28.a1)) y28.ls.length y28.c1, .map (some y28.mb), .bool y28.off, VI y28.armed, VI y28.part, VI y28.way, .slice (hd y28.fa) y28.fl.length y28.fc, VI y28.writes, VI y28.lives]) 86, .own (some y28.a1) y28.ls.length y28.c1 ((y28.ls).flatMap slE) 57 1, .obj y28.mb (mobj kI y28.M y28.mc), .own y28.fa y28.fl.length y28.fc ((y28.fl).map V8) 5 1]) (L1 := [.blk db3 ([.slice (hd (some y28.a1)) y28.ls.length y28.c1, .map (some y28.mb), .bool y28.off, VI y28.armed, VI y28.part, VI y28.way, .slice (hd y28.fa) y28.fl.length y28.fc, VI y28.writes, VI y28.lives]) 86, .own (some y28.a1) y28.ls.length y28.c1 ((y28.ls).flatMap slE) 57 1, .obj y28.mb (mobj kI y28.M y28.mc), .own y28.fa y28.fl.length y28.fc ((y28.fl).map V8) 5 1]) (Lr := ([.own (some fb41) 512 512 ((wh b.l).map V8) 5 1, .own a34 n35 c36 ((rl37).map V8) 5 1, .own (some fb32) 512 512 ((wh a.l).map V8) 5 1, .own (some b27) 1 1 (([keep]).flatMap boolE) 4 1, .own (some fb21) 512 512 ((wh b.l).map V8) 5 1, .own (some fb11) 512 512 ((wh a.l).map V8) 5 1] : List Ch)) (T := y28.T) ((perm_front (j := 6) rfl).trans (.cons _ ((perm_front (j := 6) rfl).trans (.cons _ ((perm_front (j := 6) rfl).trans (.cons _ ((perm_front (j := 6) rfl).trans (.cons _ (.refl _))))))))) Hc ((perm_front (j := 6) rfl).trans (.cons _ (.refl _)))
      clear Hc
      replace H : Hp _ w _ (Ch.own a44 ((dWaiting y28.abs).length) c45 ((dWaiting y28.abs).flatMap intE) 3 1 :: Ch.own (some fb41) 512 512 ((wh b.l).map V8) 5 1 :: Ch.own a34 n35 c36 ((rl37).map V8) 5 1 :: Ch.own (some fb32) 512 512 ((wh a.l).map V8) 5 1 :: Ch.own (some b27) 1 1 (([keep]).flatMap boolE) 4 1 :: Ch.own (some fb21) 512 512 ((wh b.l).map V8) 5 1 :: Ch.own (some fb11) 512 512 ((wh a.l).map V8) 5 1 :: Ch.blk db3 ([.slice (hd (some y28.a1)) y28.ls.length y28.c1, .map (some y28.mb), .bool y28.off, VI y28.armed, VI y28.part, VI y28.way, .slice (hd y28.fa) y28.fl.length y28.fc, VI y28.writes, VI y28.lives]) 86 :: Ch.own (some y28.a1) y28.ls.length y28.c1 ((y28.ls).flatMap slE) 57 1 :: Ch.obj y28.mb (mobj kI y28.M y28.mc) :: Ch.own y28.fa y28.fl.length y28.fc ((y28.fl).map V8) 5 1 :: y28.T) := H
      refine ⟨H.sub (.cons _ (.cons _ (.cons_cons _ (.cons_cons _ (.cons_cons _ (.cons_cons _ (.cons_cons _ (.cons_cons _ (.cons_cons _ (.cons_cons _ (.cons_cons _ (List.nil_sublist _)))))))))))), ?_⟩
      replace HS := H.sub (.cons _ (.cons _ (.cons_cons _ (.cons_cons _ (.cons_cons _ (.cons_cons _ (.cons_cons _ (.cons_cons _ (.cons_cons _ (.cons_cons _ (.cons_cons _ (List.nil_sublist _))))))))))))
      refine t_takeg 20 rfl (by kernel_rfl) (by kernel_rfl) (by kernel_rfl) (fun _ _ _ h => h) (yielded_mk _ _ _ rfl _ rfl (by exact congrArg Value.bool hk43)) (fun w HS => r_lens el62 rfl) HS ?_
      refine t_takeg 21 rfl (by kernel_rfl) (by kernel_rfl) (by kernel_rfl) (fun _ _ _ h => h) (yielded_mk _ _ _ rfl _ rfl (by exact congrArg Value.bool hk43)) (fun w HS => r_bin (a := (((dWaiting y28.abs).length : Nat) : Int)) (b := 0) rfl rfl (fun _ => b_eqlB true (decide_eq_true (by rw [ht5]; rfl)))) HS ?_
      refine t_take 22 rfl (by kernel_rfl) (by kernel_rfl) (by kernel_rfl) (fun _ _ _ h => h) (fun w HS => r_pick (b := true) (congrArg Value.bool hk43)) HS ?_
      refine t_take 23 rfl (by kernel_rfl) (by kernel_rfl) (by kernel_rfl) (fun _ _ _ h => h) (fun w HS => r_mv) HS ?_
      refine t_takeg 24 rfl (by kernel_rfl) (by kernel_rfl) (by kernel_rfl) (fun _ _ _ h => h) (yielded_mk _ _ _ rfl _ rfl rfl) (fun w HS => r_mv) HS ?_
      refine t_stepg 25 rfl (by kernel_rfl) (yielded_mk _ _ _ rfl _ rfl rfl) (o_callR Try.func43 rfl rfl rfl (dlives_ret _ _ y28.ls.length y28.c1 y28.fl.length y28.fc (hd (some y28.a1)) (hd y28.fa) (some y28.mb) y28.off y28.armed y28.part y28.way y28.writes y28.lives (H.has _ (List.mem_of_getElem? (i := 7) rfl))) ?_)
      rintro _ w ⟨rfl, Hc⟩
      replace H := (H.callA (i := 7) rfl rfl rfl Hc)
      clear Hc
      replace H : Hp _ w _ (Ch.own a44 ((dWaiting y28.abs).length) c45 ((dWaiting y28.abs).flatMap intE) 3 1 :: Ch.own (some fb41) 512 512 ((wh b.l).map V8) 5 1 :: Ch.own a34 n35 c36 ((rl37).map V8) 5 1 :: Ch.own (some fb32) 512 512 ((wh a.l).map V8) 5 1 :: Ch.own (some b27) 1 1 (([keep]).flatMap boolE) 4 1 :: Ch.own (some fb21) 512 512 ((wh b.l).map V8) 5 1 :: Ch.own (some fb11) 512 512 ((wh a.l).map V8) 5 1 :: Ch.blk db3 ([.slice (hd (some y28.a1)) y28.ls.length y28.c1, .map (some y28.mb), .bool y28.off, VI y28.armed, VI y28.part, VI y28.way, .slice (hd y28.fa) y28.fl.length y28.fc, VI y28.writes, VI y28.lives]) 86 :: Ch.own (some y28.a1) y28.ls.length y28.c1 ((y28.ls).flatMap slE) 57 1 :: Ch.obj y28.mb (mobj kI y28.M y28.mc) :: Ch.own y28.fa y28.fl.length y28.fc ((y28.fl).map V8) 5 1 :: y28.T) := H
      refine ⟨H.sub (.cons _ (.cons _ (.cons_cons _ (.cons_cons _ (.cons_cons _ (.cons_cons _ (.cons_cons _ (.cons_cons _ (.cons_cons _ (.cons_cons _ (.cons_cons _ (List.nil_sublist _)))))))))))), ?_⟩
      replace HS := H.sub (.cons _ (.cons _ (.cons_cons _ (.cons_cons _ (.cons_cons _ (.cons_cons _ (.cons_cons _ (.cons_cons _ (.cons_cons _ (.cons_cons _ (.cons_cons _ (List.nil_sublist _))))))))))))
      refine t_takeg 26 rfl (by kernel_rfl) (by kernel_rfl) (by kernel_rfl) (fun _ _ _ h => h) (yielded_mk _ _ _ rfl _ rfl rfl) (fun w HS => r_bin (a := y28.lives) (b := 1) rfl rfl (fun _ => b_eqlB true (decide_eq_true ht6))) HS ?_
      refine t_take 27 rfl (by kernel_rfl) (by kernel_rfl) (by kernel_rfl) (fun _ _ _ h => h) (fun w HS => r_pick rfl) HS ?_
      refine t_take 28 rfl (by kernel_rfl) (by kernel_rfl) (by kernel_rfl) (fun _ _ _ h => h) (fun w HS => r_as) HS ?_
      refine t_done (by kernel_rfl) ?_
      clear HS
      refine c_ret ?_
      try dsimp only [Exit.then, Exit.inBlock]
      refine e_ret1 (v := .bool true) Try.results10 rfl ?_
      refine ⟨_, rfl, ?_⟩
      exact ⟨rfl, H.sub (List.nil_sublist _)⟩
     ·
      repeat refine c_seq ?_
      refine c_yes (by exact congrArg Value.bool (congrArg not hc33)) ?_
      repeat refine c_seq ?_
      refine c_region ?_
      refine l_op (o_callR Try.func31 rfl rfl rfl (full_ret _ ⟨none, 0, 0, []⟩ (Sl.ok_nil _)) ?_)
      rintro _ w ⟨fb46, rfl, Hc⟩
      replace H : Hp _ w _ (Ch.own (some fb46) 512 512 ((wh ([] : List UInt8)).map V8) 5 1 :: Ch.own (some fb32) 512 512 ((wh a.l).map V8) 5 1 :: Ch.own (some b27) 1 1 (([keep]).flatMap boolE) 4 1 :: Ch.own (some fb21) 512 512 ((wh b.l).map V8) 5 1 :: Ch.own (some fb11) 512 512 ((wh a.l).map V8) 5 1 :: Ch.blk db3 ([.slice (hd (some y28.a1)) y28.ls.length y28.c1, .map (some y28.mb), .bool y28.off, VI y28.armed, VI y28.part, VI y28.way, .slice (hd y28.fa) y28.fl.length y28.fc, VI y28.writes, VI y28.lives]) 86 :: Ch.own (some y28.a1) y28.ls.length y28.c1 ((y28.ls).flatMap slE) 57 1 :: Ch.obj y28.mb (mobj kI y28.M y28.mc) :: Ch.own y28.fa y28.fl.length y28.fc ((y28.fl).map V8) 5 1 :: y28.T) := (H.call Hc).rot
      clear Hc
      refine l_op (o_val (r_as) ?_)
      first | refine l_end ?_ | refine l_nil ?_
      repeat refine c_seq ?_
      refine c_region ?_
      refine l_op (o_val (r_mv) ?_)
      refine l_op (o_val (r_mv) ?_)
      refine l_op (o_callR Try.func29 rfl rfl rfl (dread_ret _ db3 y28 (H.ownT (L := [.own (some fb46) 512 512 ((wh ([] : List UInt8)).map V8) 5 1, .own (some fb32) 512 512 ((wh a.l).map V8) 5 1, .own (some b27) 1 1 (([keep]).flatMap boolE) 4 1, .own (some fb21) 512 512 ((wh b.l).map V8) 5 1, .own (some fb11) 512 512 ((wh a.l).map V8) 5 1, .blk db3 ([.slice (hd (some y28.a1)) y28.ls.length y28.c1, .map (some y28.mb), .bool y28.off, VI y28.armed, VI y28.part, VI y28.way, .slice (hd y28.fa) y28.fl.length y28.fc, VI y28.writes, VI y28.lives]) 86, .own (some y28.a1) y28.ls.length y28.c1 ((y28.ls).flatMap slE) 57 1, .obj y28.mb (mobj kI y28.M y28.mc), .own y28.fa y28.fl.length y28.fc ((y28.fl).map V8) 5 1]) (L1 := [.blk db3 ([.slice (hd (some y28.a1)) y28.ls.length y28.c1, .map (some y28.mb), .bool y28.off, VI y28.armed, VI y28.part, VI y28.way, .slice (hd y28.fa) y28.fl.length y28.fc, VI y28.writes, VI y28.lives]) 86, .own (some y28.a1) y28.ls.length y28.c1 ((y28.ls).flatMap slE) 57 1, .obj y28.mb (mobj kI y28.M y28.mc), .own y28.fa y28.fl.length y28.fc ((y28.fl).map V8) 5 1]) (Lr := ([.own (some fb46) 512 512 ((wh ([] : List UInt8)).map V8) 5 1, .own (some fb32) 512 512 ((wh a.l).map V8) 5 1, .own (some b27) 1 1 (([keep]).flatMap boolE) 4 1, .own (some fb21) 512 512 ((wh b.l).map V8) 5 1, .own (some fb11) 512 512 ((wh a.l).map V8) 5 1] : List Ch)) (T := y28.T) ((perm_front (j := 5) rfl).trans (.cons _ ((perm_front (j := 5) rfl).trans (.cons _ ((perm_front (j := 5) rfl).trans (.cons _ ((perm_front (j := 5) rfl).trans (.cons _ (.refl _)))))))))) hyo30 (m8 : Int)) ?_)
      rintro _ w ⟨a47, n48, c49, rl50, rfl, hrn51, hr052, hr153, Hc⟩
      replace H := H.callT (L1' := [.own a47 n48 c49 ((rl50).map V8) 5 1, .blk db3 ([.slice (hd (some y28.a1)) y28.ls.length y28.c1, .map (some y28.mb), .bool y28.off, VI y28.armed, VI y28.part, VI y28.way, .slice (hd y28.fa) y28.fl.length y28.fc, VI y28.writes, VI y28.lives]) 86, .own (some y28.a1) y28.ls.length y28.c1 ((y28.ls).flatMap slE) 57 1, .obj y28.mb (mobj kI y28.M y28.mc), .own y28.fa y28.fl.length y28.fc ((y28.fl).map V8) 5 1]) (T' := y28.T) (L := [.own (some fb46) 512 512 ((wh ([] : List UInt8)).map V8) 5 1, .own (some fb32) 512 512 ((wh a.l).map V8) 5 1, .own (some b27) 1 1 (([keep]).flatMap boolE) 4 1, .own (some fb21) 512 512 ((wh b.l).map V8) 5 1, .own (some fb11) 512 512 ((wh a.l).map V8) 5 1, .blk db3 ([.slice (hd (some y28.a1)) y28.ls.length y28.c1, .map (some y28.mb), .bool y28.off, VI y28.armed, VI y28.part, VI y28.way, .slice (hd y28.fa) y28.fl.length y28.fc, VI y28.writes, VI y28.lives]) 86, .own (some y28.a1) y28.ls.length y28.c1 ((y28.ls).flatMap slE) 57 1, .obj y28.mb (mobj kI y28.M y28.mc), .own y28.fa y28.fl.length y28.fc ((y28.fl).map V8) 5 1]) (L1 := [.blk db3 ([.slice (hd (some y28.a1)) y28.ls.length y28.c1, .map (some y28.mb), .bool y28.off, VI y28.armed, VI y28.part, VI y28.way, .slice (hd y28.fa) y28.fl.length y28.fc, VI y28.writes, VI y28.lives]) 86, .own (some y28.a1) y28.ls.length y28.c1 ((y28.ls).flatMap slE) 57 1, .obj y28.mb (mobj kI y28.M y28.mc), .own y28.fa y28.fl.length y28.fc ((y28.fl).map V8) 5 1]) (Lr := ([.own (some fb46) 512 512 ((wh ([] : List UInt8)).map V8) 5 1, .own (some fb32) 512 512 ((wh a.l).map V8) 5 1, .own (some b27) 1 1 (([keep]).flatMap boolE) 4 1, .own (some fb21) 512 512 ((wh b.l).map V8) 5 1, .own (some fb11) 512 512 ((wh a.l).map V8) 5 1] : List Ch)) (T := y28.T) ((perm_front (j := 5) rfl).trans (.cons _ ((perm_front (j := 5) rfl).trans (.cons _ ((perm_front (j := 5) rfl).trans (.cons _ ((perm_front (j := 5) rfl).trans (.cons _ (.refl _))))))))) Hc ((perm_front (j := 5) rfl).trans (.cons _ (.refl _)))
      clear Hc
      replace H : Hp _ w _ (Ch.own a47 n48 c49 ((rl50).map V8) 5 1 :: Ch.own (some fb46) 512 512 ((wh ([] : List UInt8)).map V8) 5 1 :: Ch.own (some fb32) 512 512 ((wh a.l).map V8) 5 1 :: Ch.own (some b27) 1 1 (([keep]).flatMap boolE) 4 1 :: Ch.own (some fb21) 512 512 ((wh b.l).map V8) 5 1 :: Ch.own (some fb11) 512 512 ((wh a.l).map V8) 5 1 :: Ch.blk db3 ([.slice (hd (some y28.a1)) y28.ls.length y28.c1, .map (some y28.mb), .bool y28.off, VI y28.armed, VI y28.part, VI y28.way, .slice (hd y28.fa) y28.fl.length y28.fc, VI y28.writes, VI y28.lives]) 86 :: Ch.own (some y28.a1) y28.ls.length y28.c1 ((y28.ls).flatMap slE) 57 1 :: Ch.obj y28.mb (mobj kI y28.M y28.mc) :: Ch.own y28.fa y28.fl.length y28.fc ((y28.fl).map V8) 5 1 :: y28.T) := H
      refine l_op (o_val (r_mv) ?_)
      refine l_op (o_val (r_ext rfl rfl) ?_)
      refine l_op (o_val (r_ext rfl rfl) ?_)
      refine l_op (o_val (r_as) ?_)
      refine l_op (o_val (r_as) ?_)
      first | refine l_end ?_ | refine l_nil ?_
      have hs1 : (((wh b.l).drop 0).take q).length ≤ 512 := by rw [List.length_take]; omega
      have hs2 : (((wh ([] : List UInt8)).drop q).take (512 - q)).length ≤ 512 := by rw [List.length_take]; omega
      obtain ⟨_, _, ht3, ht4, ht5, ht6⟩ := htl
      rw [if_pos ⟨hc16, hc33⟩] at ht4
      rw [← hr052 ht3] at ht4
      repeat refine c_seq ?_
      refine wp_held (fun w => Hp w0 w [] [.own a47 n48 c49 ((rl50).map V8) 5 1, .own (some fb46) 512 512 ((wh ([] : List UInt8)).map V8) 5 1, .own (some fb32) 512 512 ((wh a.l).map V8) 5 1, .own (some b27) 1 1 (([keep]).flatMap boolE) 4 1, .own (some fb21) 512 512 ((wh b.l).map V8) 5 1, .own (some fb11) 512 512 ((wh a.l).map V8) 5 1, .blk db3 ([.slice (hd (some y28.a1)) y28.ls.length y28.c1, .map (some y28.mb), .bool y28.off, VI y28.armed, VI y28.part, VI y28.way, .slice (hd y28.fa) y28.fl.length y28.fc, VI y28.writes, VI y28.lives]) 86, .own (some y28.a1) y28.ls.length y28.c1 ((y28.ls).flatMap slE) 57 1, .obj y28.mb (mobj kI y28.M y28.mc), .own y28.fa y28.fl.length y28.fc ((y28.fl).map V8) 5 1]) mixed ?_
      replace H := H.drew
      have HS := H.sub (.cons_cons _ (.cons_cons _ (.cons_cons _ (.cons_cons _ (.cons_cons _ (.cons_cons _ (.cons_cons _ (.cons_cons _ (.cons_cons _ (.cons_cons _ (List.nil_sublist _)))))))))))
      refine t_take 0 rfl (by kernel_rfl) (by kernel_rfl) (by kernel_rfl) (fun _ _ _ h => h) (fun w HS => r_mv) HS ?_
      refine t_take 1 rfl (by kernel_rfl) (by kernel_rfl) (by kernel_rfl) (fun _ _ _ h => h) (fun w HS => r_bin (a := dMay y28.abs (m8 : Int)) (b := 0) rfl rfl (fun _ => b_eqlB true (decide_eq_true ht3))) HS ?_
      refine t_take 2 rfl (by kernel_rfl) (by kernel_rfl) (by kernel_rfl) (fun _ _ _ h => h) (fun w HS => r_mv) HS ?_
      refine t_takeg 3 rfl (by kernel_rfl) (by kernel_rfl) (by kernel_rfl) (fun _ _ _ h => h) (yielded_mk _ _ _ rfl _ rfl rfl) (fun w HS => r_mv) HS ?_
      refine t_takeg 4 rfl (by kernel_rfl) (by kernel_rfl) (by kernel_rfl) (fun _ _ _ h => h) (yielded_mk _ _ _ rfl _ rfl rfl) (fun w HS => r_b2S (s := ⟨hd a47, n48, c49, rl50⟩) Try.underlying57 Try.underlying5 Try.underlying9 rfl (HS.slOwn (i := 0) rfl)) HS ?_
      refine t_takeg 5 rfl (by kernel_rfl) (by kernel_rfl) (by kernel_rfl) (fun _ _ _ h => h) (yielded_mk _ _ _ rfl _ rfl rfl) (fun w HS => r_mv) HS ?_
      refine t_takeg 7 rfl (by kernel_rfl) (by kernel_rfl) (by kernel_rfl) (fun _ _ _ h => h) (yielded_mk _ _ _ rfl _ rfl rfl) (fun w HS => r_mv) HS ?_
      refine t_takeg 10 rfl (by kernel_rfl) (by kernel_rfl) (by kernel_rfl) (fun _ _ _ h => h) (yielded_mk _ _ _ rfl _ rfl rfl) (fun w HS => r_mv) HS ?_
      refine t_takeg 11 rfl (by kernel_rfl) (by kernel_rfl) (by kernel_rfl) (fun _ _ _ h => h) (yielded_mk _ _ _ rfl _ rfl rfl) (fun w HS => r_mv) HS ?_
      refine t_takeg 12 rfl (by kernel_rfl) (by kernel_rfl) (by kernel_rfl) (fun _ _ _ h => h) (yielded_mk _ _ _ rfl _ rfl rfl) (fun w HS => r_slS (s := ⟨hd (some fb46), 512, 512, wh ([] : List UInt8)⟩) q 512 512 (lv := some (VI (q : Int))) (hv := none) (mv := none) rfl el57 rfl rfl rfl (fun w => by exact sbl q (by omega) (by (try simp only []); omega) w)) HS ?_
      refine t_takeg 13 rfl (by kernel_rfl) (by kernel_rfl) (by kernel_rfl) (fun _ _ _ h => h) (yielded_mk _ _ _ rfl _ rfl rfl) (fun w HS => r_b2S (s := (Sl.cut ⟨hd (some fb46), 512, 512, wh ([] : List UInt8)⟩ q 512 512)) Try.underlying57 Try.underlying5 Try.underlying9 rfl ((HS.slOwn (i := 1) rfl).cut (l := q) (h := 512) (m := 512) (by omega) (by (try simp only []); omega) (by omega) (by (try simp only []); omega))) HS ?_
      refine t_stepg 6 rfl (by kernel_rfl) (yielded_mk _ _ _ rfl _ rfl rfl) (o_callR Try.func31 rfl rfl rfl (full_ret _ b (hb.up H (fun _ => apart_nil _))) ?_)
      rintro _ w ⟨fb54, rfl, Hc⟩
      replace H : Hp _ w _ (Ch.own (some fb54) 512 512 ((wh b.l).map V8) 5 1 :: Ch.own a47 n48 c49 ((rl50).map V8) 5 1 :: Ch.own (some fb46) 512 512 ((wh ([] : List UInt8)).map V8) 5 1 :: Ch.own (some fb32) 512 512 ((wh a.l).map V8) 5 1 :: Ch.own (some b27) 1 1 (([keep]).flatMap boolE) 4 1 :: Ch.own (some fb21) 512 512 ((wh b.l).map V8) 5 1 :: Ch.own (some fb11) 512 512 ((wh a.l).map V8) 5 1 :: Ch.blk db3 ([.slice (hd (some y28.a1)) y28.ls.length y28.c1, .map (some y28.mb), .bool y28.off, VI y28.armed, VI y28.part, VI y28.way, .slice (hd y28.fa) y28.fl.length y28.fc, VI y28.writes, VI y28.lives]) 86 :: Ch.own (some y28.a1) y28.ls.length y28.c1 ((y28.ls).flatMap slE) 57 1 :: Ch.obj y28.mb (mobj kI y28.M y28.mc) :: Ch.own y28.fa y28.fl.length y28.fc ((y28.fl).map V8) 5 1 :: y28.T) := (H.call Hc).rot
      clear Hc
      refine ⟨H.sub (.cons _ (.cons_cons _ (.cons_cons _ (.cons_cons _ (.cons_cons _ (.cons_cons _ (.cons_cons _ (.cons_cons _ (.cons_cons _ (.cons_cons _ (.cons_cons _ (List.nil_sublist _)))))))))))), ?_⟩
      replace HS := H.sub (.cons _ (.cons_cons _ (.cons_cons _ (.cons_cons _ (.cons_cons _ (.cons_cons _ (.cons_cons _ (.cons_cons _ (.cons_cons _ (.cons_cons _ (.cons_cons _ (List.nil_sublist _))))))))))))
      have hol55 := (H.ownLen (i := 0) rfl).2.1
      refine t_stepg 8 rfl (by kernel_rfl) (yielded_mk _ _ _ rfl _ rfl rfl) (o_val (r_slS (s := ⟨hd (some fb54), 512, 512, wh b.l⟩) 0 q 512 (lv := none) (hv := some (VI (q : Int))) (mv := none) rfl el57 rfl rfl rfl (fun w => by exact sbh q (by omega) (by (try simp only []); omega) w)) ?_)
      refine ⟨H.sub (.cons _ (.cons_cons _ (.cons_cons _ (.cons_cons _ (.cons_cons _ (.cons_cons _ (.cons_cons _ (.cons_cons _ (.cons_cons _ (.cons_cons _ (.cons_cons _ (List.nil_sublist _)))))))))))), ?_⟩
      replace HS := H.sub (.cons _ (.cons_cons _ (.cons_cons _ (.cons_cons _ (.cons_cons _ (.cons_cons _ (.cons_cons _ (.cons_cons _ (.cons_cons _ (.cons_cons _ (.cons_cons _ (List.nil_sublist _))))))))))))
      refine t_stepg 9 rfl (by kernel_rfl) (yielded_mk _ _ _ rfl _ rfl rfl) (o_val (r_b2S (s := (Sl.cut ⟨hd (some fb54), 512, 512, wh b.l⟩ 0 q 512)) Try.underlying57 Try.underlying5 Try.underlying9 rfl ((H.slOwn (i := 0) rfl).cut (l := 0) (h := q) (m := 512) (by omega) (by (try simp only []); omega) (by omega) (by (try simp only []); omega))) ?_)
      refine ⟨H.sub (.cons _ (.cons_cons _ (.cons_cons _ (.cons_cons _ (.cons_cons _ (.cons_cons _ (.cons_cons _ (.cons_cons _ (.cons_cons _ (.cons_cons _ (.cons_cons _ (List.nil_sublist _)))))))))))), ?_⟩
      replace HS := H.sub (.cons _ (.cons_cons _ (.cons_cons _ (.cons_cons _ (.cons_cons _ (.cons_cons _ (.cons_cons _ (.cons_cons _ (.cons_cons _ (.cons_cons _ (.cons_cons _ (List.nil_sublist _))))))))))))
      refine t_takeg 14 rfl (by kernel_rfl) (by kernel_rfl) (by kernel_rfl) (fun _ _ _ h => h) (yielded_mk _ _ _ rfl _ rfl rfl) (fun w HS => r_stradd (a := ((wh b.l).drop 0).take (q)) (b := ((wh ([] : List UInt8)).drop q).take (512 - q)) rfl rfl (by (try simp only [List.length_cons, List.length_nil]); omega)) HS ?_
      refine t_takeg 15 rfl (by kernel_rfl) (by kernel_rfl) (by kernel_rfl) (fun _ _ _ h => h) (yielded_mk _ _ _ rfl _ rfl rfl) (fun w HS => r_streq (a := rl50) (b := (((wh b.l).drop 0).take (q)) ++ (((wh ([] : List UInt8)).drop q).take (512 - q))) rfl rfl) HS ?_
      have hk56 : (decide (rl50 = (((wh b.l).drop 0).take (q)) ++ (((wh ([] : List UInt8)).drop q).take (512 - q)))) = true := (by rw [ht4]; simp [List.take_of_length_le, wh_len])
      refine t_take 16 rfl (by kernel_rfl) (by kernel_rfl) (by kernel_rfl) (fun _ _ _ h => h) (fun w HS => r_pick rfl) HS ?_
      refine t_take 17 rfl (by kernel_rfl) (by kernel_rfl) (by kernel_rfl) (fun _ _ _ h => h) (fun w HS => r_mv) HS ?_
      refine t_takeg 18 rfl (by kernel_rfl) (by kernel_rfl) (by kernel_rfl) (fun _ _ _ h => h) (yielded_mk _ _ _ rfl _ rfl (by exact congrArg Value.bool hk56)) (fun w HS => r_mv) HS ?_
      refine t_stepg 19 rfl (by kernel_rfl) (yielded_mk _ _ _ rfl _ rfl (by exact congrArg Value.bool hk56)) (o_callR Try.func33 rfl rfl rfl (dwaiting_ret _ db3 y28 (H.ownT (L := [.own (some fb54) 512 512 ((wh b.l).map V8) 5 1, .own a47 n48 c49 ((rl50).map V8) 5 1, .own (some fb46) 512 512 ((wh ([] : List UInt8)).map V8) 5 1, .own (some fb32) 512 512 ((wh a.l).map V8) 5 1, .own (some b27) 1 1 (([keep]).flatMap boolE) 4 1, .own (some fb21) 512 512 ((wh b.l).map V8) 5 1, .own (some fb11) 512 512 ((wh a.l).map V8) 5 1, .blk db3 ([.slice (hd (some y28.a1)) y28.ls.length y28.c1, .map (some y28.mb), .bool y28.off, VI y28.armed, VI y28.part, VI y28.way, .slice (hd y28.fa) y28.fl.length y28.fc, VI y28.writes, VI y28.lives]) 86, .own (some y28.a1) y28.ls.length y28.c1 ((y28.ls).flatMap slE) 57 1, .obj y28.mb (mobj kI y28.M y28.mc), .own y28.fa y28.fl.length y28.fc ((y28.fl).map V8) 5 1]) (L1 := [.blk db3 ([.slice (hd (some y28.a1)) y28.ls.length y28.c1, .map (some y28.mb), .bool y28.off, VI y28.armed, VI y28.part, VI y28.way, .slice (hd y28.fa) y28.fl.length y28.fc, VI y28.writes, VI y28.lives]) 86, .own (some y28.a1) y28.ls.length y28.c1 ((y28.ls).flatMap slE) 57 1, .obj y28.mb (mobj kI y28.M y28.mc), .own y28.fa y28.fl.length y28.fc ((y28.fl).map V8) 5 1]) (Lr := ([.own (some fb54) 512 512 ((wh b.l).map V8) 5 1, .own a47 n48 c49 ((rl50).map V8) 5 1, .own (some fb46) 512 512 ((wh ([] : List UInt8)).map V8) 5 1, .own (some fb32) 512 512 ((wh a.l).map V8) 5 1, .own (some b27) 1 1 (([keep]).flatMap boolE) 4 1, .own (some fb21) 512 512 ((wh b.l).map V8) 5 1, .own (some fb11) 512 512 ((wh a.l).map V8) 5 1] : List Ch)) (T := y28.T) ((perm_front (j := 7) rfl).trans (.cons _ ((perm_front (j := 7) rfl).trans (.cons _ ((perm_front (j := 7) rfl).trans (.cons _ ((perm_front (j := 7) rfl).trans (.cons _ (.refl _)))))))))) hyo30) ?_)
      rintro _ w ⟨a57, c58, rfl, Hc⟩
      replace H := H.callT (L1' := [.own a57 ((dWaiting y28.abs).length) c58 ((dWaiting y28.abs).flatMap intE) 3 1, .blk db3 ([.slice (hd (some y28.a1)) y28.ls.length y28.c1, .map (some y28.mb), .bool y28.off, VI y28.armed, VI y28.part, VI y28.way, .slice (hd y28.fa) y28.fl.length y28.fc, VI y28.writes, VI y28.lives]) 86, .own (some y28.a1) y28.ls.length y28.c1 ((y28.ls).flatMap slE) 57 1, .obj y28.mb (mobj kI y28.M y28.mc), .own y28.fa y28.fl.length y28.fc ((y28.fl).map V8) 5 1]) (T' := y28.T) (L := [.own (some fb54) 512 512 ((wh b.l).map V8) 5 1, .own a47 n48 c49 ((rl50).map V8) 5 1, .own (some fb46) 512 512 ((wh ([] : List UInt8)).map V8) 5 1, .own (some fb32) 512 512 ((wh a.l).map V8) 5 1, .own (some b27) 1 1 (([keep]).flatMap boolE) 4 1, .own (some fb21) 512 512 ((wh b.l).map V8) 5 1, .own (some fb11) 512 512 ((wh a.l).map V8) 5 1, .blk db3 ([.slice (hd (some y28.a1)) y28.ls.length y28.c1, .map (some y28.mb), .bool y28.off, VI y28.armed, VI y28.part, VI y28.way, .slice (hd y28.fa) y28.fl.length y28.fc, VI y28.writes, VI y28.lives]) 86, .own (some y28.a1) y28.ls.length y28.c1 ((y28.ls).flatMap slE) 57 1, .obj y28.mb (mobj kI y28.M y28.mc), .own y28.fa y28.fl.length y28.fc ((y28.fl).map V8) 5 1]) (L1 := [.blk db3 ([.slice (hd (some y28.a1)) y28.ls.length y28.c1, .map (some y28.mb), .bool y28.off, VI y28.armed, VI y28.part, VI y28.way, .slice (hd y28.fa) y28.fl.length y28.fc, VI y28.writes, VI y28.lives]) 86, .own (some y28.a1) y28.ls.length y28.c1 ((y28.ls).flatMap slE) 57 1, .obj y28.mb (mobj kI y28.M y28.mc), .own y28.fa y28.fl.length y28.fc ((y28.fl).map V8) 5 1]) (Lr := ([.own (some fb54) 512 512 ((wh b.l).map V8) 5 1, .own a47 n48 c49 ((rl50).map V8) 5 1, .own (some fb46) 512 512 ((wh ([] : List UInt8)).map V8) 5 1, .own (some fb32) 512 512 ((wh a.l).map V8) 5 1, .own (some b27) 1 1 (([keep]).flatMap boolE) 4 1, .own (some fb21) 512 512 ((wh b.l).map V8) 5 1, .own (some fb11) 512 512 ((wh a.l).map V8) 5 1] : List Ch)) (T := y28.T) ((perm_front (j := 7) rfl).trans (.cons _ ((perm_front (j := 7) rfl).trans (.cons _ ((perm_front (j := 7) rfl).trans (.cons _ ((perm_front (j := 7) rfl).trans (.cons _ (.refl _))))))))) Hc ((perm_front (j := 7) rfl).trans (.cons _ (.refl _)))
      clear Hc
      replace H : Hp _ w _ (Ch.own a57 ((dWaiting y28.abs).length) c58 ((dWaiting y28.abs).flatMap intE) 3 1 :: Ch.own (some fb54) 512 512 ((wh b.l).map V8) 5 1 :: Ch.own a47 n48 c49 ((rl50).map V8) 5 1 :: Ch.own (some fb46) 512 512 ((wh ([] : List UInt8)).map V8) 5 1 :: Ch.own (some fb32) 512 512 ((wh a.l).map V8) 5 1 :: Ch.own (some b27) 1 1 (([keep]).flatMap boolE) 4 1 :: Ch.own (some fb21) 512 512 ((wh b.l).map V8) 5 1 :: Ch.own (some fb11) 512 512 ((wh a.l).map V8) 5 1 :: Ch.blk db3 ([.slice (hd (some y28.a1)) y28.ls.length y28.c1, .map (some y28.mb), .bool y28.off, VI y28.armed, VI y28.part, VI y28.way, .slice (hd y28.fa) y28.fl.length y28.fc, VI y28.writes, VI y28.lives]) 86 :: Ch.own (some y28.a1) y28.ls.length y28.c1 ((y28.ls).flatMap slE) 57 1 :: Ch.obj y28.mb (mobj kI y28.M y28.mc) :: Ch.own y28.fa y28.fl.length y28.fc ((y28.fl).map V8) 5 1 :: y28.T) := H
      refine ⟨H.sub (.cons _ (.cons _ (.cons_cons _ (.cons_cons _ (.cons_cons _ (.cons_cons _ (.cons_cons _ (.cons_cons _ (.cons_cons _ (.cons_cons _ (.cons_cons _ (.cons_cons _ (List.nil_sublist _))))))))))))), ?_⟩
      replace HS := H.sub (.cons _ (.cons _ (.cons_cons _ (.cons_cons _ (.cons_cons _ (.cons_cons _ (.cons_cons _ (.cons_cons _ (.cons_cons _ (.cons_cons _ (.cons_cons _ (.cons_cons _ (List.nil_sublist _)))))))))))))
      refine t_takeg 20 rfl (by kernel_rfl) (by kernel_rfl) (by kernel_rfl) (fun _ _ _ h => h) (yielded_mk _ _ _ rfl _ rfl (by exact congrArg Value.bool hk56)) (fun w HS => r_lens el62 rfl) HS ?_
      refine t_takeg 21 rfl (by kernel_rfl) (by kernel_rfl) (by kernel_rfl) (fun _ _ _ h => h) (yielded_mk _ _ _ rfl _ rfl (by exact congrArg Value.bool hk56)) (fun w HS => r_bin (a := (((dWaiting y28.abs).length : Nat) : Int)) (b := 0) rfl rfl (fun _ => b_eqlB true (decide_eq_true (by rw [ht5]; rfl)))) HS ?_
      refine t_take 22 rfl (by kernel_rfl) (by kernel_rfl) (by kernel_rfl) (fun _ _ _ h => h) (fun w HS => r_pick (b := true) (congrArg Value.bool hk56)) HS ?_
      refine t_take 23 rfl (by kernel_rfl) (by kernel_rfl) (by kernel_rfl) (fun _ _ _ h => h) (fun w HS => r_mv) HS ?_
      refine t_takeg 24 rfl (by kernel_rfl) (by kernel_rfl) (by kernel_rfl) (fun _ _ _ h => h) (yielded_mk _ _ _ rfl _ rfl rfl) (fun w HS => r_mv) HS ?_
      refine t_stepg 25 rfl (by kernel_rfl) (yielded_mk _ _ _ rfl _ rfl rfl) (o_callR Try.func43 rfl rfl rfl (dlives_ret _ _ y28.ls.length y28.c1 y28.fl.length y28.fc (hd (some y28.a1)) (hd y28.fa) (some y28.mb) y28.off y28.armed y28.part y28.way y28.writes y28.lives (H.has _ (List.mem_of_getElem? (i := 8) rfl))) ?_)
      rintro _ w ⟨rfl, Hc⟩
      replace H := (H.callA (i := 8) rfl rfl rfl Hc)
      clear Hc
      replace H : Hp _ w _ (Ch.own a57 ((dWaiting y28.abs).length) c58 ((dWaiting y28.abs).flatMap intE) 3 1 :: Ch.own (some fb54) 512 512 ((wh b.l).map V8) 5 1 :: Ch.own a47 n48 c49 ((rl50).map V8) 5 1 :: Ch.own (some fb46) 512 512 ((wh ([] : List UInt8)).map V8) 5 1 :: Ch.own (some fb32) 512 512 ((wh a.l).map V8) 5 1 :: Ch.own (some b27) 1 1 (([keep]).flatMap boolE) 4 1 :: Ch.own (some fb21) 512 512 ((wh b.l).map V8) 5 1 :: Ch.own (some fb11) 512 512 ((wh a.l).map V8) 5 1 :: Ch.blk db3 ([.slice (hd (some y28.a1)) y28.ls.length y28.c1, .map (some y28.mb), .bool y28.off, VI y28.armed, VI y28.part, VI y28.way, .slice (hd y28.fa) y28.fl.length y28.fc, VI y28.writes, VI y28.lives]) 86 :: Ch.own (some y28.a1) y28.ls.length y28.c1 ((y28.ls).flatMap slE) 57 1 :: Ch.obj y28.mb (mobj kI y28.M y28.mc) :: Ch.own y28.fa y28.fl.length y28.fc ((y28.fl).map V8) 5 1 :: y28.T) := H
      refine ⟨H.sub (.cons _ (.cons _ (.cons_cons _ (.cons_cons _ (.cons_cons _ (.cons_cons _ (.cons_cons _ (.cons_cons _ (.cons_cons _ (.cons_cons _ (.cons_cons _ (.cons_cons _ (List.nil_sublist _))))))))))))), ?_⟩
      replace HS := H.sub (.cons _ (.cons _ (.cons_cons _ (.cons_cons _ (.cons_cons _ (.cons_cons _ (.cons_cons _ (.cons_cons _ (.cons_cons _ (.cons_cons _ (.cons_cons _ (.cons_cons _ (List.nil_sublist _)))))))))))))
      refine t_takeg 26 rfl (by kernel_rfl) (by kernel_rfl) (by kernel_rfl) (fun _ _ _ h => h) (yielded_mk _ _ _ rfl _ rfl rfl) (fun w HS => r_bin (a := y28.lives) (b := 1) rfl rfl (fun _ => b_eqlB true (decide_eq_true ht6))) HS ?_
      refine t_take 27 rfl (by kernel_rfl) (by kernel_rfl) (by kernel_rfl) (fun _ _ _ h => h) (fun w HS => r_pick rfl) HS ?_
      refine t_take 28 rfl (by kernel_rfl) (by kernel_rfl) (by kernel_rfl) (fun _ _ _ h => h) (fun w HS => r_as) HS ?_
      refine t_done (by kernel_rfl) ?_
      clear HS
      refine c_ret ?_
      try dsimp only [Exit.then, Exit.inBlock]
      refine e_ret1 (v := .bool true) Try.results10 rfl ?_
      refine ⟨_, rfl, ?_⟩
      exact ⟨rfl, H.sub (List.nil_sublist _)⟩
    ·
     repeat refine c_seq ?_
     refine c_yes (by exact congrArg Value.bool (congrArg not hc16)) ?_
     repeat refine c_seq ?_
     refine c_region ?_
     refine l_op (o_val (r_mv) ?_)
     refine l_op (o_callR Try.func35 rfl rfl rfl (dflush_ret _ db3 y12 (H.ownT (L := [.own (some fb11) 512 512 ((wh a.l).map V8) 5 1, .blk db3 ([.slice (hd (some y12.a1)) y12.ls.length y12.c1, .map (some y12.mb), .bool y12.off, VI y12.armed, VI y12.part, VI y12.way, .slice (hd y12.fa) y12.fl.length y12.fc, VI y12.writes, VI y12.lives]) 86, .own (some y12.a1) y12.ls.length y12.c1 ((y12.ls).flatMap slE) 57 1, .obj y12.mb (mobj kI y12.M y12.mc), .own y12.fa y12.fl.length y12.fc ((y12.fl).map V8) 5 1]) (L1 := [.blk db3 ([.slice (hd (some y12.a1)) y12.ls.length y12.c1, .map (some y12.mb), .bool y12.off, VI y12.armed, VI y12.part, VI y12.way, .slice (hd y12.fa) y12.fl.length y12.fc, VI y12.writes, VI y12.lives]) 86, .own (some y12.a1) y12.ls.length y12.c1 ((y12.ls).flatMap slE) 57 1, .obj y12.mb (mobj kI y12.M y12.mc), .own y12.fa y12.fl.length y12.fc ((y12.fl).map V8) 5 1]) (Lr := ([.own (some fb11) 512 512 ((wh a.l).map V8) 5 1] : List Ch)) (T := y12.T) ((perm_front (j := 1) rfl).trans (.cons _ ((perm_front (j := 1) rfl).trans (.cons _ ((perm_front (j := 1) rfl).trans (.cons _ ((perm_front (j := 1) rfl).trans (.cons _ (.refl _)))))))))) hyo14 ) ?_)
     rintro _ w ⟨rfl, y59, hya60, hyo61, hyt62, Hc⟩
     replace H := H.callT (L1' := [.blk db3 ([.slice (hd (some y59.a1)) y59.ls.length y59.c1, .map (some y59.mb), .bool y59.off, VI y59.armed, VI y59.part, VI y59.way, .slice (hd y59.fa) y59.fl.length y59.fc, VI y59.writes, VI y59.lives]) 86, .own (some y59.a1) y59.ls.length y59.c1 ((y59.ls).flatMap slE) 57 1, .obj y59.mb (mobj kI y59.M y59.mc), .own y59.fa y59.fl.length y59.fc ((y59.fl).map V8) 5 1]) (T' := y59.T) (L := [.own (some fb11) 512 512 ((wh a.l).map V8) 5 1, .blk db3 ([.slice (hd (some y12.a1)) y12.ls.length y12.c1, .map (some y12.mb), .bool y12.off, VI y12.armed, VI y12.part, VI y12.way, .slice (hd y12.fa) y12.fl.length y12.fc, VI y12.writes, VI y12.lives]) 86, .own (some y12.a1) y12.ls.length y12.c1 ((y12.ls).flatMap slE) 57 1, .obj y12.mb (mobj kI y12.M y12.mc), .own y12.fa y12.fl.length y12.fc ((y12.fl).map V8) 5 1]) (L1 := [.blk db3 ([.slice (hd (some y12.a1)) y12.ls.length y12.c1, .map (some y12.mb), .bool y12.off, VI y12.armed, VI y12.part, VI y12.way, .slice (hd y12.fa) y12.fl.length y12.fc, VI y12.writes, VI y12.lives]) 86, .own (some y12.a1) y12.ls.length y12.c1 ((y12.ls).flatMap slE) 57 1, .obj y12.mb (mobj kI y12.M y12.mc), .own y12.fa y12.fl.length y12.fc ((y12.fl).map V8) 5 1]) (Lr := ([.own (some fb11) 512 512 ((wh a.l).map V8) 5 1] : List Ch)) (T := y12.T) ((perm_front (j := 1) rfl).trans (.cons _ ((perm_front (j := 1) rfl).trans (.cons _ ((perm_front (j := 1) rfl).trans (.cons _ ((perm_front (j := 1) rfl).trans (.cons _ (.refl _))))))))) Hc (.refl _)
     clear Hc
     replace H : Hp _ w _ (Ch.own (some fb11) 512 512 ((wh a.l).map V8) 5 1 :: Ch.blk db3 ([.slice (hd (some y59.a1)) y59.ls.length y59.c1, .map (some y59.mb), .bool y59.off, VI y59.armed, VI y59.part, VI y59.way, .slice (hd y59.fa) y59.fl.length y59.fc, VI y59.writes, VI y59.lives]) 86 :: Ch.own (some y59.a1) y59.ls.length y59.c1 ((y59.ls).flatMap slE) 57 1 :: Ch.obj y59.mb (mobj kI y59.M y59.mc) :: Ch.own y59.fa y59.fl.length y59.fc ((y59.fl).map V8) 5 1 :: y59.T) := H
     replace hya60 : y59.abs = dFlush y12.abs := hya60
     have hya60w := dFlush_wl hya60
     have hyo61n := hyo61.n
     first | refine l_end ?_ | refine l_nil ?_
     have hD : y59.abs = if waits then dW1 (m8 : Int) (wh a.l) else dF1 (m8 : Int) (wh a.l) := by
       rw [hc16, if_neg (by decide)]
       exact hya60.trans (by rw [hya13, hza5]; exact (congrArg dFlush hdA).trans (dF1_eq _ _).2)
     obtain ⟨q, hq, hq2⟩ : ∃ q : Nat, (dArm y59.abs 0 part).part = (q : Int) ∧ q ≤ 512 := ⟨(dArm y59.abs 0 part).part.toNat, by have : (dArm y59.abs 0 part).part = (if 512 < (if part < 0 then 0 else part) then 512 else if part < 0 then 0 else part) := rfl; rw [this]; constructor <;> (repeat' split) <;> omega⟩
     have htl := torn_law (B := wh b.l) (keep := keep) (by omega) (wh_len _) hD hq hq2
     repeat refine c_seq ?_
     refine c_region ?_
     refine l_op (o_val (r_mv) ?_)
     refine l_op (o_val (r_mv) ?_)
     refine l_op (o_callR Try.func36 rfl rfl rfl (darm_ret _ db3 y59 (H.ownT (L := [.own (some fb11) 512 512 ((wh a.l).map V8) 5 1, .blk db3 ([.slice (hd (some y59.a1)) y59.ls.length y59.c1, .map (some y59.mb), .bool y59.off, VI y59.armed, VI y59.part, VI y59.way, .slice (hd y59.fa) y59.fl.length y59.fc, VI y59.writes, VI y59.lives]) 86, .own (some y59.a1) y59.ls.length y59.c1 ((y59.ls).flatMap slE) 57 1, .obj y59.mb (mobj kI y59.M y59.mc), .own y59.fa y59.fl.length y59.fc ((y59.fl).map V8) 5 1]) (L1 := [.blk db3 ([.slice (hd (some y59.a1)) y59.ls.length y59.c1, .map (some y59.mb), .bool y59.off, VI y59.armed, VI y59.part, VI y59.way, .slice (hd y59.fa) y59.fl.length y59.fc, VI y59.writes, VI y59.lives]) 86, .own (some y59.a1) y59.ls.length y59.c1 ((y59.ls).flatMap slE) 57 1, .obj y59.mb (mobj kI y59.M y59.mc), .own y59.fa y59.fl.length y59.fc ((y59.fl).map V8) 5 1]) (Lr := ([.own (some fb11) 512 512 ((wh a.l).map V8) 5 1] : List Ch)) (T := y59.T) ((perm_front (j := 1) rfl).trans (.cons _ ((perm_front (j := 1) rfl).trans (.cons _ ((perm_front (j := 1) rfl).trans (.cons _ ((perm_front (j := 1) rfl).trans (.cons _ (.refl _)))))))))) hyo61 0 part (by omega)) ?_)
     rintro _ w ⟨rfl, y63, hya64, hyo65, hyt66, Hc⟩
     replace H := H.callT (L1' := [.blk db3 ([.slice (hd (some y63.a1)) y63.ls.length y63.c1, .map (some y63.mb), .bool y63.off, VI y63.armed, VI y63.part, VI y63.way, .slice (hd y63.fa) y63.fl.length y63.fc, VI y63.writes, VI y63.lives]) 86, .own (some y63.a1) y63.ls.length y63.c1 ((y63.ls).flatMap slE) 57 1, .obj y63.mb (mobj kI y63.M y63.mc), .own y63.fa y63.fl.length y63.fc ((y63.fl).map V8) 5 1]) (T' := y63.T) (L := [.own (some fb11) 512 512 ((wh a.l).map V8) 5 1, .blk db3 ([.slice (hd (some y59.a1)) y59.ls.length y59.c1, .map (some y59.mb), .bool y59.off, VI y59.armed, VI y59.part, VI y59.way, .slice (hd y59.fa) y59.fl.length y59.fc, VI y59.writes, VI y59.lives]) 86, .own (some y59.a1) y59.ls.length y59.c1 ((y59.ls).flatMap slE) 57 1, .obj y59.mb (mobj kI y59.M y59.mc), .own y59.fa y59.fl.length y59.fc ((y59.fl).map V8) 5 1]) (L1 := [.blk db3 ([.slice (hd (some y59.a1)) y59.ls.length y59.c1, .map (some y59.mb), .bool y59.off, VI y59.armed, VI y59.part, VI y59.way, .slice (hd y59.fa) y59.fl.length y59.fc, VI y59.writes, VI y59.lives]) 86, .own (some y59.a1) y59.ls.length y59.c1 ((y59.ls).flatMap slE) 57 1, .obj y59.mb (mobj kI y59.M y59.mc), .own y59.fa y59.fl.length y59.fc ((y59.fl).map V8) 5 1]) (Lr := ([.own (some fb11) 512 512 ((wh a.l).map V8) 5 1] : List Ch)) (T := y59.T) ((perm_front (j := 1) rfl).trans (.cons _ ((perm_front (j := 1) rfl).trans (.cons _ ((perm_front (j := 1) rfl).trans (.cons _ ((perm_front (j := 1) rfl).trans (.cons _ (.refl _))))))))) Hc (.refl _)
     clear Hc
     replace H : Hp _ w _ (Ch.own (some fb11) 512 512 ((wh a.l).map V8) 5 1 :: Ch.blk db3 ([.slice (hd (some y63.a1)) y63.ls.length y63.c1, .map (some y63.mb), .bool y63.off, VI y63.armed, VI y63.part, VI y63.way, .slice (hd y63.fa) y63.fl.length y63.fc, VI y63.writes, VI y63.lives]) 86 :: Ch.own (some y63.a1) y63.ls.length y63.c1 ((y63.ls).flatMap slE) 57 1 :: Ch.obj y63.mb (mobj kI y63.M y63.mc) :: Ch.own y63.fa y63.fl.length y63.fc ((y63.fl).map V8) 5 1 :: y63.T) := H
     replace hya64 : y63.abs = dArm y59.abs 0 part := hya64
     have hya64w := dArm_wl hya64
     have hyo65n := hyo65.n
     first | refine l_end ?_ | refine l_nil ?_
     rw [← hya64] at htl
     repeat refine c_seq ?_
     refine c_region ?_
     refine l_op (o_val (r_mv) ?_)
     refine l_op (o_val (r_mv) ?_)
     refine l_op (o_val (r_mv) ?_)
     refine l_op (o_callR Try.func31 rfl rfl rfl (full_ret _ b (hb.up H (fun _ => apart_nil _))) ?_)
     rintro _ w ⟨fb67, rfl, Hc⟩
     replace H : Hp _ w _ (Ch.own (some fb67) 512 512 ((wh b.l).map V8) 5 1 :: Ch.own (some fb11) 512 512 ((wh a.l).map V8) 5 1 :: Ch.blk db3 ([.slice (hd (some y63.a1)) y63.ls.length y63.c1, .map (some y63.mb), .bool y63.off, VI y63.armed, VI y63.part, VI y63.way, .slice (hd y63.fa) y63.fl.length y63.fc, VI y63.writes, VI y63.lives]) 86 :: Ch.own (some y63.a1) y63.ls.length y63.c1 ((y63.ls).flatMap slE) 57 1 :: Ch.obj y63.mb (mobj kI y63.M y63.mc) :: Ch.own y63.fa y63.fl.length y63.fc ((y63.fl).map V8) 5 1 :: y63.T) := (H.call Hc).rot
     clear Hc
     refine l_op (o_callR Try.func34 rfl rfl rfl (dwrite_ret _ db3 y63 (H.ownT (L := [.own (some fb67) 512 512 ((wh b.l).map V8) 5 1, .own (some fb11) 512 512 ((wh a.l).map V8) 5 1, .blk db3 ([.slice (hd (some y63.a1)) y63.ls.length y63.c1, .map (some y63.mb), .bool y63.off, VI y63.armed, VI y63.part, VI y63.way, .slice (hd y63.fa) y63.fl.length y63.fc, VI y63.writes, VI y63.lives]) 86, .own (some y63.a1) y63.ls.length y63.c1 ((y63.ls).flatMap slE) 57 1, .obj y63.mb (mobj kI y63.M y63.mc), .own y63.fa y63.fl.length y63.fc ((y63.fl).map V8) 5 1]) (L1 := [.blk db3 ([.slice (hd (some y63.a1)) y63.ls.length y63.c1, .map (some y63.mb), .bool y63.off, VI y63.armed, VI y63.part, VI y63.way, .slice (hd y63.fa) y63.fl.length y63.fc, VI y63.writes, VI y63.lives]) 86, .own (some y63.a1) y63.ls.length y63.c1 ((y63.ls).flatMap slE) 57 1, .obj y63.mb (mobj kI y63.M y63.mc), .own y63.fa y63.fl.length y63.fc ((y63.fl).map V8) 5 1]) (Lr := ([.own (some fb67) 512 512 ((wh b.l).map V8) 5 1, .own (some fb11) 512 512 ((wh a.l).map V8) 5 1] : List Ch)) (T := y63.T) ((perm_front (j := 2) rfl).trans (.cons _ ((perm_front (j := 2) rfl).trans (.cons _ ((perm_front (j := 2) rfl).trans (.cons _ ((perm_front (j := 2) rfl).trans (.cons _ (.refl _)))))))))) hyo65 (m8 : Int) ⟨hd (some fb67), 512, 512, wh b.l⟩ (H.slOwn (i := 0) rfl) (fun _ => apart_own (L := [.own (some fb67) 512 512 ((wh b.l).map V8) 5 1, .own (some fb11) 512 512 ((wh a.l).map V8) 5 1, .blk db3 ([.slice (hd (some y63.a1)) y63.ls.length y63.c1, .map (some y63.mb), .bool y63.off, VI y63.armed, VI y63.part, VI y63.way, .slice (hd y63.fa) y63.fl.length y63.fc, VI y63.writes, VI y63.lives]) 86, .own (some y63.a1) y63.ls.length y63.c1 ((y63.ls).flatMap slE) 57 1, .obj y63.mb (mobj kI y63.M y63.mc), .own y63.fa y63.fl.length y63.fc ((y63.fl).map V8) 5 1]) (L1 := [.blk db3 ([.slice (hd (some y63.a1)) y63.ls.length y63.c1, .map (some y63.mb), .bool y63.off, VI y63.armed, VI y63.part, VI y63.way, .slice (hd y63.fa) y63.fl.length y63.fc, VI y63.writes, VI y63.lives]) 86, .own (some y63.a1) y63.ls.length y63.c1 ((y63.ls).flatMap slE) 57 1, .obj y63.mb (mobj kI y63.M y63.mc), .own y63.fa y63.fl.length y63.fc ((y63.fl).map V8) 5 1]) (Lr := ([.own (some fb67) 512 512 ((wh b.l).map V8) 5 1, .own (some fb11) 512 512 ((wh a.l).map V8) 5 1] : List Ch)) (T := y63.T) H ((perm_front (j := 2) rfl).trans (.cons _ ((perm_front (j := 2) rfl).trans (.cons _ ((perm_front (j := 2) rfl).trans (.cons _ ((perm_front (j := 2) rfl).trans (.cons _ (.refl _))))))))) (List.mem_of_getElem? (i := 0) rfl)) (by omega)) ?_)
     rintro _ w ⟨rfl, y68, hya69, hyo70, hyt71, Hc⟩
     replace H := H.callT (L1' := [.blk db3 ([.slice (hd (some y68.a1)) y68.ls.length y68.c1, .map (some y68.mb), .bool y68.off, VI y68.armed, VI y68.part, VI y68.way, .slice (hd y68.fa) y68.fl.length y68.fc, VI y68.writes, VI y68.lives]) 86, .own (some y68.a1) y68.ls.length y68.c1 ((y68.ls).flatMap slE) 57 1, .obj y68.mb (mobj kI y68.M y68.mc), .own y68.fa y68.fl.length y68.fc ((y68.fl).map V8) 5 1]) (T' := y68.T) (L := [.own (some fb67) 512 512 ((wh b.l).map V8) 5 1, .own (some fb11) 512 512 ((wh a.l).map V8) 5 1, .blk db3 ([.slice (hd (some y63.a1)) y63.ls.length y63.c1, .map (some y63.mb), .bool y63.off, VI y63.armed, VI y63.part, VI y63.way, .slice (hd y63.fa) y63.fl.length y63.fc, VI y63.writes, VI y63.lives]) 86, .own (some y63.a1) y63.ls.length y63.c1 ((y63.ls).flatMap slE) 57 1, .obj y63.mb (mobj kI y63.M y63.mc), .own y63.fa y63.fl.length y63.fc ((y63.fl).map V8) 5 1]) (L1 := [.blk db3 ([.slice (hd (some y63.a1)) y63.ls.length y63.c1, .map (some y63.mb), .bool y63.off, VI y63.armed, VI y63.part, VI y63.way, .slice (hd y63.fa) y63.fl.length y63.fc, VI y63.writes, VI y63.lives]) 86, .own (some y63.a1) y63.ls.length y63.c1 ((y63.ls).flatMap slE) 57 1, .obj y63.mb (mobj kI y63.M y63.mc), .own y63.fa y63.fl.length y63.fc ((y63.fl).map V8) 5 1]) (Lr := ([.own (some fb67) 512 512 ((wh b.l).map V8) 5 1, .own (some fb11) 512 512 ((wh a.l).map V8) 5 1] : List Ch)) (T := y63.T) ((perm_front (j := 2) rfl).trans (.cons _ ((perm_front (j := 2) rfl).trans (.cons _ ((perm_front (j := 2) rfl).trans (.cons _ ((perm_front (j := 2) rfl).trans (.cons _ (.refl _))))))))) Hc (.refl _)
     clear Hc
     replace H : Hp _ w _ (Ch.own (some fb67) 512 512 ((wh b.l).map V8) 5 1 :: Ch.own (some fb11) 512 512 ((wh a.l).map V8) 5 1 :: Ch.blk db3 ([.slice (hd (some y68.a1)) y68.ls.length y68.c1, .map (some y68.mb), .bool y68.off, VI y68.armed, VI y68.part, VI y68.way, .slice (hd y68.fa) y68.fl.length y68.fc, VI y68.writes, VI y68.lives]) 86 :: Ch.own (some y68.a1) y68.ls.length y68.c1 ((y68.ls).flatMap slE) 57 1 :: Ch.obj y68.mb (mobj kI y68.M y68.mc) :: Ch.own y68.fa y68.fl.length y68.fc ((y68.fl).map V8) 5 1 :: y68.T) := H
     replace hya69 : y68.abs = dWrite y63.abs (m8 : Int) (wh b.l) := hya69
     have hya69w := dWrite_wl hya69
     have hyo70n := hyo70.n
     refine l_op (o_val (r_bin (a := dWriteE y63.abs (m8 : Int) (wh b.l)) (b := 8) rfl rfl (fun _ => b_neqB false (decide_eq_false (fun h => h htl.1)))) ?_)
     refine l_op (o_val (r_mv) ?_)
     refine l_yes rfl rfl rfl (o_val (r_mv) ?_)
     refine l_yes rfl rfl rfl (o_callR Try.func32 rfl rfl rfl (ddead_ret _ _ y68.ls.length y68.c1 y68.fl.length y68.fc (hd (some y68.a1)) (hd y68.fa) (some y68.mb) y68.off y68.armed y68.part y68.way y68.writes y68.lives (by omega) (H.has _ (List.mem_of_getElem? (i := 2) rfl))) ?_)
     rintro _ w ⟨rfl, Hc⟩
     replace H := (H.callA (i := 2) rfl rfl rfl Hc)
     clear Hc
     replace H : Hp _ w _ (Ch.own (some fb67) 512 512 ((wh b.l).map V8) 5 1 :: Ch.own (some fb11) 512 512 ((wh a.l).map V8) 5 1 :: Ch.blk db3 ([.slice (hd (some y68.a1)) y68.ls.length y68.c1, .map (some y68.mb), .bool y68.off, VI y68.armed, VI y68.part, VI y68.way, .slice (hd y68.fa) y68.fl.length y68.fc, VI y68.writes, VI y68.lives]) 86 :: Ch.own (some y68.a1) y68.ls.length y68.c1 ((y68.ls).flatMap slE) 57 1 :: Ch.obj y68.mb (mobj kI y68.M y68.mc) :: Ch.own y68.fa y68.fl.length y68.fc ((y68.fl).map V8) 5 1 :: y68.T) := H
     refine l_yes rfl rfl rfl (o_val (r_not rfl) ?_)
     have hk72 : (!y68.off) = false := (by rw [show y68.off = true from (congrArg DD.off hya69).trans htl.2.1]; rfl)
     refine l_op (o_val (r_pick rfl) ?_)
     first | refine l_end ?_ | refine l_nil ?_
     repeat refine c_seq ?_
     refine c_no (by exact congrArg Value.bool hk72) ?_
     refine c_skip ?_
     rw [← hya69] at htl
     repeat refine c_seq ?_
     refine c_region ?_
     refine l_op (o_val (r_mv) ?_)
     refine l_op (o_val (r_mv) ?_)
     refine l_op (o_bslV ([.bool keep]) H sl68 zc4 rfl (by simp [Value.oneCell']) rfl (by decide) (fun b73 w H hb73 => ?_))
     replace H := H.rot
     replace H : Hp _ w _ (Ch.own (some b73) 1 1 (([keep]).flatMap boolE) 4 1 :: Ch.own (some fb67) 512 512 ((wh b.l).map V8) 5 1 :: Ch.own (some fb11) 512 512 ((wh a.l).map V8) 5 1 :: Ch.blk db3 ([.slice (hd (some y68.a1)) y68.ls.length y68.c1, .map (some y68.mb), .bool y68.off, VI y68.armed, VI y68.part, VI y68.way, .slice (hd y68.fa) y68.fl.length y68.fc, VI y68.writes, VI y68.lives]) 86 :: Ch.own (some y68.a1) y68.ls.length y68.c1 ((y68.ls).flatMap slE) 57 1 :: Ch.obj y68.mb (mobj kI y68.M y68.mc) :: Ch.own y68.fa y68.fl.length y68.fc ((y68.fl).map V8) 5 1 :: y68.T) := H
     refine l_op (o_callR Try.func37 rfl rfl rfl (dpower_ret _ db3 y68 (H.ownT (L := [.own (some b73) 1 1 (([keep]).flatMap boolE) 4 1, .own (some fb67) 512 512 ((wh b.l).map V8) 5 1, .own (some fb11) 512 512 ((wh a.l).map V8) 5 1, .blk db3 ([.slice (hd (some y68.a1)) y68.ls.length y68.c1, .map (some y68.mb), .bool y68.off, VI y68.armed, VI y68.part, VI y68.way, .slice (hd y68.fa) y68.fl.length y68.fc, VI y68.writes, VI y68.lives]) 86, .own (some y68.a1) y68.ls.length y68.c1 ((y68.ls).flatMap slE) 57 1, .obj y68.mb (mobj kI y68.M y68.mc), .own y68.fa y68.fl.length y68.fc ((y68.fl).map V8) 5 1]) (L1 := [.blk db3 ([.slice (hd (some y68.a1)) y68.ls.length y68.c1, .map (some y68.mb), .bool y68.off, VI y68.armed, VI y68.part, VI y68.way, .slice (hd y68.fa) y68.fl.length y68.fc, VI y68.writes, VI y68.lives]) 86, .own (some y68.a1) y68.ls.length y68.c1 ((y68.ls).flatMap slE) 57 1, .obj y68.mb (mobj kI y68.M y68.mc), .own y68.fa y68.fl.length y68.fc ((y68.fl).map V8) 5 1]) (Lr := ([.own (some b73) 1 1 (([keep]).flatMap boolE) 4 1, .own (some fb67) 512 512 ((wh b.l).map V8) 5 1, .own (some fb11) 512 512 ((wh a.l).map V8) 5 1] : List Ch)) (T := y68.T) ((perm_front (j := 3) rfl).trans (.cons _ ((perm_front (j := 3) rfl).trans (.cons _ ((perm_front (j := 3) rfl).trans (.cons _ ((perm_front (j := 3) rfl).trans (.cons _ (.refl _)))))))))) hyo70 ⟨hd (some b73), 1, 1, [keep]⟩ (H.glOwn (i := 0) rfl (by decide) (fun _ _ => rfl)) (fun _ => apart_own (L := [.own (some b73) 1 1 (([keep]).flatMap boolE) 4 1, .own (some fb67) 512 512 ((wh b.l).map V8) 5 1, .own (some fb11) 512 512 ((wh a.l).map V8) 5 1, .blk db3 ([.slice (hd (some y68.a1)) y68.ls.length y68.c1, .map (some y68.mb), .bool y68.off, VI y68.armed, VI y68.part, VI y68.way, .slice (hd y68.fa) y68.fl.length y68.fc, VI y68.writes, VI y68.lives]) 86, .own (some y68.a1) y68.ls.length y68.c1 ((y68.ls).flatMap slE) 57 1, .obj y68.mb (mobj kI y68.M y68.mc), .own y68.fa y68.fl.length y68.fc ((y68.fl).map V8) 5 1]) (L1 := [.blk db3 ([.slice (hd (some y68.a1)) y68.ls.length y68.c1, .map (some y68.mb), .bool y68.off, VI y68.armed, VI y68.part, VI y68.way, .slice (hd y68.fa) y68.fl.length y68.fc, VI y68.writes, VI y68.lives]) 86, .own (some y68.a1) y68.ls.length y68.c1 ((y68.ls).flatMap slE) 57 1, .obj y68.mb (mobj kI y68.M y68.mc), .own y68.fa y68.fl.length y68.fc ((y68.fl).map V8) 5 1]) (Lr := ([.own (some b73) 1 1 (([keep]).flatMap boolE) 4 1, .own (some fb67) 512 512 ((wh b.l).map V8) 5 1, .own (some fb11) 512 512 ((wh a.l).map V8) 5 1] : List Ch)) (T := y68.T) H ((perm_front (j := 3) rfl).trans (.cons _ ((perm_front (j := 3) rfl).trans (.cons _ ((perm_front (j := 3) rfl).trans (.cons _ ((perm_front (j := 3) rfl).trans (.cons _ (.refl _))))))))) (List.mem_of_getElem? (i := 0) rfl)) (by omega)) ?_)
     rintro _ w ⟨rfl, y74, hya75, hyo76, hyt77, Hc⟩
     replace H := H.callT (L1' := [.blk db3 ([.slice (hd (some y74.a1)) y74.ls.length y74.c1, .map (some y74.mb), .bool y74.off, VI y74.armed, VI y74.part, VI y74.way, .slice (hd y74.fa) y74.fl.length y74.fc, VI y74.writes, VI y74.lives]) 86, .own (some y74.a1) y74.ls.length y74.c1 ((y74.ls).flatMap slE) 57 1, .obj y74.mb (mobj kI y74.M y74.mc), .own y74.fa y74.fl.length y74.fc ((y74.fl).map V8) 5 1]) (T' := y74.T) (L := [.own (some b73) 1 1 (([keep]).flatMap boolE) 4 1, .own (some fb67) 512 512 ((wh b.l).map V8) 5 1, .own (some fb11) 512 512 ((wh a.l).map V8) 5 1, .blk db3 ([.slice (hd (some y68.a1)) y68.ls.length y68.c1, .map (some y68.mb), .bool y68.off, VI y68.armed, VI y68.part, VI y68.way, .slice (hd y68.fa) y68.fl.length y68.fc, VI y68.writes, VI y68.lives]) 86, .own (some y68.a1) y68.ls.length y68.c1 ((y68.ls).flatMap slE) 57 1, .obj y68.mb (mobj kI y68.M y68.mc), .own y68.fa y68.fl.length y68.fc ((y68.fl).map V8) 5 1]) (L1 := [.blk db3 ([.slice (hd (some y68.a1)) y68.ls.length y68.c1, .map (some y68.mb), .bool y68.off, VI y68.armed, VI y68.part, VI y68.way, .slice (hd y68.fa) y68.fl.length y68.fc, VI y68.writes, VI y68.lives]) 86, .own (some y68.a1) y68.ls.length y68.c1 ((y68.ls).flatMap slE) 57 1, .obj y68.mb (mobj kI y68.M y68.mc), .own y68.fa y68.fl.length y68.fc ((y68.fl).map V8) 5 1]) (Lr := ([.own (some b73) 1 1 (([keep]).flatMap boolE) 4 1, .own (some fb67) 512 512 ((wh b.l).map V8) 5 1, .own (some fb11) 512 512 ((wh a.l).map V8) 5 1] : List Ch)) (T := y68.T) ((perm_front (j := 3) rfl).trans (.cons _ ((perm_front (j := 3) rfl).trans (.cons _ ((perm_front (j := 3) rfl).trans (.cons _ ((perm_front (j := 3) rfl).trans (.cons _ (.refl _))))))))) Hc (.refl _)
     clear Hc
     replace H : Hp _ w _ (Ch.own (some b73) 1 1 (([keep]).flatMap boolE) 4 1 :: Ch.own (some fb67) 512 512 ((wh b.l).map V8) 5 1 :: Ch.own (some fb11) 512 512 ((wh a.l).map V8) 5 1 :: Ch.blk db3 ([.slice (hd (some y74.a1)) y74.ls.length y74.c1, .map (some y74.mb), .bool y74.off, VI y74.armed, VI y74.part, VI y74.way, .slice (hd y74.fa) y74.fl.length y74.fc, VI y74.writes, VI y74.lives]) 86 :: Ch.own (some y74.a1) y74.ls.length y74.c1 ((y74.ls).flatMap slE) 57 1 :: Ch.obj y74.mb (mobj kI y74.M y74.mc) :: Ch.own y74.fa y74.fl.length y74.fc ((y74.fl).map V8) 5 1 :: y74.T) := H
     replace hya75 : y74.abs = dPower y68.abs ([keep]) := hya75
     have hya75w := dPower_wl hya75
     have hyo76n := hyo76.n
     first | refine l_end ?_ | refine l_nil ?_
     rw [← hya75] at htl
     repeat refine c_seq ?_
     refine c_region ?_
     refine l_op (o_val (r_mv) ?_)
     refine l_op (o_val (r_min rfl rfl) ?_)
     have hk2 : (if 0 < (if 512 < part then 512 else part) then (if 512 < part then 512 else part) else 0) = (q : Int) := by rw [← hq]; show _ = (if 512 < (if part < 0 then 0 else part) then 512 else if part < 0 then 0 else part); (repeat' split) <;> omega
     refine l_op (o_val (r_eqI (r_max (a := 0) (b := (if 512 < part then 512 else part)) rfl rfl) hk2) ?_)
     refine l_op (o_val (r_as) ?_)
     first | refine l_end ?_ | refine l_nil ?_
     repeat refine c_seq ?_
     refine c_region ?_
     refine l_op (o_val (r_mv) ?_)
     refine l_op (o_callR Try.func31 rfl rfl rfl (full_ret _ a (ha.up H (fun _ => apart_nil _))) ?_)
     rintro _ w ⟨fb78, rfl, Hc⟩
     replace H : Hp _ w _ (Ch.own (some fb78) 512 512 ((wh a.l).map V8) 5 1 :: Ch.own (some b73) 1 1 (([keep]).flatMap boolE) 4 1 :: Ch.own (some fb67) 512 512 ((wh b.l).map V8) 5 1 :: Ch.own (some fb11) 512 512 ((wh a.l).map V8) 5 1 :: Ch.blk db3 ([.slice (hd (some y74.a1)) y74.ls.length y74.c1, .map (some y74.mb), .bool y74.off, VI y74.armed, VI y74.part, VI y74.way, .slice (hd y74.fa) y74.fl.length y74.fc, VI y74.writes, VI y74.lives]) 86 :: Ch.own (some y74.a1) y74.ls.length y74.c1 ((y74.ls).flatMap slE) 57 1 :: Ch.obj y74.mb (mobj kI y74.M y74.mc) :: Ch.own y74.fa y74.fl.length y74.fc ((y74.fl).map V8) 5 1 :: y74.T) := (H.call Hc).rot
     clear Hc
     refine l_op (o_val (r_as) ?_)
     first | refine l_end ?_ | refine l_nil ?_
     repeat refine c_seq ?_
     refine c_region ?_
     refine l_op (o_val (r_mv) ?_)
     refine l_op (o_val (r_mv) ?_)
     refine l_no rfl rfl (by exact congrArg Value.bool hc16) rfl ?_
     refine l_no rfl rfl (by exact congrArg Value.bool hc16) rfl ?_
     refine l_op (o_val (r_pick (b := false) (congrArg Value.bool hc16)) ?_)
     first | refine l_end ?_ | refine l_nil ?_
     repeat refine c_seq ?_
     refine c_no rfl ?_
     refine c_skip ?_
     repeat refine c_seq ?_
     refine c_region ?_
     refine l_op (o_val (r_mv) ?_)
     refine l_op (o_val (r_mv) ?_)
     refine l_op (o_callR Try.func29 rfl rfl rfl (dread_ret _ db3 y74 (H.ownT (L := [.own (some fb78) 512 512 ((wh a.l).map V8) 5 1, .own (some b73) 1 1 (([keep]).flatMap boolE) 4 1, .own (some fb67) 512 512 ((wh b.l).map V8) 5 1, .own (some fb11) 512 512 ((wh a.l).map V8) 5 1, .blk db3 ([.slice (hd (some y74.a1)) y74.ls.length y74.c1, .map (some y74.mb), .bool y74.off, VI y74.armed, VI y74.part, VI y74.way, .slice (hd y74.fa) y74.fl.length y74.fc, VI y74.writes, VI y74.lives]) 86, .own (some y74.a1) y74.ls.length y74.c1 ((y74.ls).flatMap slE) 57 1, .obj y74.mb (mobj kI y74.M y74.mc), .own y74.fa y74.fl.length y74.fc ((y74.fl).map V8) 5 1]) (L1 := [.blk db3 ([.slice (hd (some y74.a1)) y74.ls.length y74.c1, .map (some y74.mb), .bool y74.off, VI y74.armed, VI y74.part, VI y74.way, .slice (hd y74.fa) y74.fl.length y74.fc, VI y74.writes, VI y74.lives]) 86, .own (some y74.a1) y74.ls.length y74.c1 ((y74.ls).flatMap slE) 57 1, .obj y74.mb (mobj kI y74.M y74.mc), .own y74.fa y74.fl.length y74.fc ((y74.fl).map V8) 5 1]) (Lr := ([.own (some fb78) 512 512 ((wh a.l).map V8) 5 1, .own (some b73) 1 1 (([keep]).flatMap boolE) 4 1, .own (some fb67) 512 512 ((wh b.l).map V8) 5 1, .own (some fb11) 512 512 ((wh a.l).map V8) 5 1] : List Ch)) (T := y74.T) ((perm_front (j := 4) rfl).trans (.cons _ ((perm_front (j := 4) rfl).trans (.cons _ ((perm_front (j := 4) rfl).trans (.cons _ ((perm_front (j := 4) rfl).trans (.cons _ (.refl _)))))))))) hyo76 (m8 : Int)) ?_)
     rintro _ w ⟨a79, n80, c81, rl82, rfl, hrn83, hr084, hr185, Hc⟩
     replace H := H.callT (L1' := [.own a79 n80 c81 ((rl82).map V8) 5 1, .blk db3 ([.slice (hd (some y74.a1)) y74.ls.length y74.c1, .map (some y74.mb), .bool y74.off, VI y74.armed, VI y74.part, VI y74.way, .slice (hd y74.fa) y74.fl.length y74.fc, VI y74.writes, VI y74.lives]) 86, .own (some y74.a1) y74.ls.length y74.c1 ((y74.ls).flatMap slE) 57 1, .obj y74.mb (mobj kI y74.M y74.mc), .own y74.fa y74.fl.length y74.fc ((y74.fl).map V8) 5 1]) (T' := y74.T) (L := [.own (some fb78) 512 512 ((wh a.l).map V8) 5 1, .own (some b73) 1 1 (([keep]).flatMap boolE) 4 1, .own (some fb67) 512 512 ((wh b.l).map V8) 5 1, .own (some fb11) 512 512 ((wh a.l).map V8) 5 1, .blk db3 ([.slice (hd (some y74.a1)) y74.ls.length y74.c1, .map (some y74.mb), .bool y74.off, VI y74.armed, VI y74.part, VI y74.way, .slice (hd y74.fa) y74.fl.length y74.fc, VI y74.writes, VI y74.lives]) 86, .own (some y74.a1) y74.ls.length y74.c1 ((y74.ls).flatMap slE) 57 1, .obj y74.mb (mobj kI y74.M y74.mc), .own y74.fa y74.fl.length y74.fc ((y74.fl).map V8) 5 1]) (L1 := [.blk db3 ([.slice (hd (some y74.a1)) y74.ls.length y74.c1, .map (some y74.mb), .bool y74.off, VI y74.armed, VI y74.part, VI y74.way, .slice (hd y74.fa) y74.fl.length y74.fc, VI y74.writes, VI y74.lives]) 86, .own (some y74.a1) y74.ls.length y74.c1 ((y74.ls).flatMap slE) 57 1, .obj y74.mb (mobj kI y74.M y74.mc), .own y74.fa y74.fl.length y74.fc ((y74.fl).map V8) 5 1]) (Lr := ([.own (some fb78) 512 512 ((wh a.l).map V8) 5 1, .own (some b73) 1 1 (([keep]).flatMap boolE) 4 1, .own (some fb67) 512 512 ((wh b.l).map V8) 5 1, .own (some fb11) 512 512 ((wh a.l).map V8) 5 1] : List Ch)) (T := y74.T) ((perm_front (j := 4) rfl).trans (.cons _ ((perm_front (j := 4) rfl).trans (.cons _ ((perm_front (j := 4) rfl).trans (.cons _ ((perm_front (j := 4) rfl).trans (.cons _ (.refl _))))))))) Hc ((perm_front (j := 4) rfl).trans (.cons _ (.refl _)))
     clear Hc
     replace H : Hp _ w _ (Ch.own a79 n80 c81 ((rl82).map V8) 5 1 :: Ch.own (some fb78) 512 512 ((wh a.l).map V8) 5 1 :: Ch.own (some b73) 1 1 (([keep]).flatMap boolE) 4 1 :: Ch.own (some fb67) 512 512 ((wh b.l).map V8) 5 1 :: Ch.own (some fb11) 512 512 ((wh a.l).map V8) 5 1 :: Ch.blk db3 ([.slice (hd (some y74.a1)) y74.ls.length y74.c1, .map (some y74.mb), .bool y74.off, VI y74.armed, VI y74.part, VI y74.way, .slice (hd y74.fa) y74.fl.length y74.fc, VI y74.writes, VI y74.lives]) 86 :: Ch.own (some y74.a1) y74.ls.length y74.c1 ((y74.ls).flatMap slE) 57 1 :: Ch.obj y74.mb (mobj kI y74.M y74.mc) :: Ch.own y74.fa y74.fl.length y74.fc ((y74.fl).map V8) 5 1 :: y74.T) := H
     refine l_op (o_val (r_mv) ?_)
     refine l_op (o_val (r_ext rfl rfl) ?_)
     refine l_op (o_val (r_ext rfl rfl) ?_)
     refine l_op (o_val (r_as) ?_)
     refine l_op (o_val (r_as) ?_)
     first | refine l_end ?_ | refine l_nil ?_
     have hs1 : (((wh b.l).drop 0).take q).length ≤ 512 := by rw [List.length_take]; omega
     have hs2 : (((wh a.l).drop q).take (512 - q)).length ≤ 512 := by rw [List.length_take]; omega
     obtain ⟨_, _, ht3, ht4, ht5, ht6⟩ := htl
     rw [if_neg (fun h => by rw [hc16] at h; simp at h)] at ht4
     rw [← hr084 ht3] at ht4
     repeat refine c_seq ?_
     refine wp_held (fun w => Hp w0 w [] [.own a79 n80 c81 ((rl82).map V8) 5 1, .own (some fb78) 512 512 ((wh a.l).map V8) 5 1, .own (some b73) 1 1 (([keep]).flatMap boolE) 4 1, .own (some fb67) 512 512 ((wh b.l).map V8) 5 1, .own (some fb11) 512 512 ((wh a.l).map V8) 5 1, .blk db3 ([.slice (hd (some y74.a1)) y74.ls.length y74.c1, .map (some y74.mb), .bool y74.off, VI y74.armed, VI y74.part, VI y74.way, .slice (hd y74.fa) y74.fl.length y74.fc, VI y74.writes, VI y74.lives]) 86, .own (some y74.a1) y74.ls.length y74.c1 ((y74.ls).flatMap slE) 57 1, .obj y74.mb (mobj kI y74.M y74.mc), .own y74.fa y74.fl.length y74.fc ((y74.fl).map V8) 5 1]) mixed ?_
     replace H := H.drew
     have HS := H.sub (.cons_cons _ (.cons_cons _ (.cons_cons _ (.cons_cons _ (.cons_cons _ (.cons_cons _ (.cons_cons _ (.cons_cons _ (.cons_cons _ (List.nil_sublist _))))))))))
     refine t_take 0 rfl (by kernel_rfl) (by kernel_rfl) (by kernel_rfl) (fun _ _ _ h => h) (fun w HS => r_mv) HS ?_
     refine t_take 1 rfl (by kernel_rfl) (by kernel_rfl) (by kernel_rfl) (fun _ _ _ h => h) (fun w HS => r_bin (a := dMay y74.abs (m8 : Int)) (b := 0) rfl rfl (fun _ => b_eqlB true (decide_eq_true ht3))) HS ?_
     refine t_take 2 rfl (by kernel_rfl) (by kernel_rfl) (by kernel_rfl) (fun _ _ _ h => h) (fun w HS => r_mv) HS ?_
     refine t_takeg 3 rfl (by kernel_rfl) (by kernel_rfl) (by kernel_rfl) (fun _ _ _ h => h) (yielded_mk _ _ _ rfl _ rfl rfl) (fun w HS => r_mv) HS ?_
     refine t_takeg 4 rfl (by kernel_rfl) (by kernel_rfl) (by kernel_rfl) (fun _ _ _ h => h) (yielded_mk _ _ _ rfl _ rfl rfl) (fun w HS => r_b2S (s := ⟨hd a79, n80, c81, rl82⟩) Try.underlying57 Try.underlying5 Try.underlying9 rfl (HS.slOwn (i := 0) rfl)) HS ?_
     refine t_takeg 5 rfl (by kernel_rfl) (by kernel_rfl) (by kernel_rfl) (fun _ _ _ h => h) (yielded_mk _ _ _ rfl _ rfl rfl) (fun w HS => r_mv) HS ?_
     refine t_takeg 7 rfl (by kernel_rfl) (by kernel_rfl) (by kernel_rfl) (fun _ _ _ h => h) (yielded_mk _ _ _ rfl _ rfl rfl) (fun w HS => r_mv) HS ?_
     refine t_takeg 10 rfl (by kernel_rfl) (by kernel_rfl) (by kernel_rfl) (fun _ _ _ h => h) (yielded_mk _ _ _ rfl _ rfl rfl) (fun w HS => r_mv) HS ?_
     refine t_takeg 11 rfl (by kernel_rfl) (by kernel_rfl) (by kernel_rfl) (fun _ _ _ h => h) (yielded_mk _ _ _ rfl _ rfl rfl) (fun w HS => r_mv) HS ?_
     refine t_takeg 12 rfl (by kernel_rfl) (by kernel_rfl) (by kernel_rfl) (fun _ _ _ h => h) (yielded_mk _ _ _ rfl _ rfl rfl) (fun w HS => r_slS (s := ⟨hd (some fb78), 512, 512, wh a.l⟩) q 512 512 (lv := some (VI (q : Int))) (hv := none) (mv := none) rfl el57 rfl rfl rfl (fun w => by exact sbl q (by omega) (by (try simp only []); omega) w)) HS ?_
     refine t_takeg 13 rfl (by kernel_rfl) (by kernel_rfl) (by kernel_rfl) (fun _ _ _ h => h) (yielded_mk _ _ _ rfl _ rfl rfl) (fun w HS => r_b2S (s := (Sl.cut ⟨hd (some fb78), 512, 512, wh a.l⟩ q 512 512)) Try.underlying57 Try.underlying5 Try.underlying9 rfl ((HS.slOwn (i := 1) rfl).cut (l := q) (h := 512) (m := 512) (by omega) (by (try simp only []); omega) (by omega) (by (try simp only []); omega))) HS ?_
     refine t_stepg 6 rfl (by kernel_rfl) (yielded_mk _ _ _ rfl _ rfl rfl) (o_callR Try.func31 rfl rfl rfl (full_ret _ b (hb.up H (fun _ => apart_nil _))) ?_)
     rintro _ w ⟨fb86, rfl, Hc⟩
     replace H : Hp _ w _ (Ch.own (some fb86) 512 512 ((wh b.l).map V8) 5 1 :: Ch.own a79 n80 c81 ((rl82).map V8) 5 1 :: Ch.own (some fb78) 512 512 ((wh a.l).map V8) 5 1 :: Ch.own (some b73) 1 1 (([keep]).flatMap boolE) 4 1 :: Ch.own (some fb67) 512 512 ((wh b.l).map V8) 5 1 :: Ch.own (some fb11) 512 512 ((wh a.l).map V8) 5 1 :: Ch.blk db3 ([.slice (hd (some y74.a1)) y74.ls.length y74.c1, .map (some y74.mb), .bool y74.off, VI y74.armed, VI y74.part, VI y74.way, .slice (hd y74.fa) y74.fl.length y74.fc, VI y74.writes, VI y74.lives]) 86 :: Ch.own (some y74.a1) y74.ls.length y74.c1 ((y74.ls).flatMap slE) 57 1 :: Ch.obj y74.mb (mobj kI y74.M y74.mc) :: Ch.own y74.fa y74.fl.length y74.fc ((y74.fl).map V8) 5 1 :: y74.T) := (H.call Hc).rot
     clear Hc
     refine ⟨H.sub (.cons _ (.cons_cons _ (.cons_cons _ (.cons_cons _ (.cons_cons _ (.cons_cons _ (.cons_cons _ (.cons_cons _ (.cons_cons _ (.cons_cons _ (List.nil_sublist _))))))))))), ?_⟩
     replace HS := H.sub (.cons _ (.cons_cons _ (.cons_cons _ (.cons_cons _ (.cons_cons _ (.cons_cons _ (.cons_cons _ (.cons_cons _ (.cons_cons _ (.cons_cons _ (List.nil_sublist _)))))))))))
     have hol87 := (H.ownLen (i := 0) rfl).2.1
     refine t_stepg 8 rfl (by kernel_rfl) (yielded_mk _ _ _ rfl _ rfl rfl) (o_val (r_slS (s := ⟨hd (some fb86), 512, 512, wh b.l⟩) 0 q 512 (lv := none) (hv := some (VI (q : Int))) (mv := none) rfl el57 rfl rfl rfl (fun w => by exact sbh q (by omega) (by (try simp only []); omega) w)) ?_)
     refine ⟨H.sub (.cons _ (.cons_cons _ (.cons_cons _ (.cons_cons _ (.cons_cons _ (.cons_cons _ (.cons_cons _ (.cons_cons _ (.cons_cons _ (.cons_cons _ (List.nil_sublist _))))))))))), ?_⟩
     replace HS := H.sub (.cons _ (.cons_cons _ (.cons_cons _ (.cons_cons _ (.cons_cons _ (.cons_cons _ (.cons_cons _ (.cons_cons _ (.cons_cons _ (.cons_cons _ (List.nil_sublist _)))))))))))
     refine t_stepg 9 rfl (by kernel_rfl) (yielded_mk _ _ _ rfl _ rfl rfl) (o_val (r_b2S (s := (Sl.cut ⟨hd (some fb86), 512, 512, wh b.l⟩ 0 q 512)) Try.underlying57 Try.underlying5 Try.underlying9 rfl ((H.slOwn (i := 0) rfl).cut (l := 0) (h := q) (m := 512) (by omega) (by (try simp only []); omega) (by omega) (by (try simp only []); omega))) ?_)
     refine ⟨H.sub (.cons _ (.cons_cons _ (.cons_cons _ (.cons_cons _ (.cons_cons _ (.cons_cons _ (.cons_cons _ (.cons_cons _ (.cons_cons _ (.cons_cons _ (List.nil_sublist _))))))))))), ?_⟩
     replace HS := H.sub (.cons _ (.cons_cons _ (.cons_cons _ (.cons_cons _ (.cons_cons _ (.cons_cons _ (.cons_cons _ (.cons_cons _ (.cons_cons _ (.cons_cons _ (List.nil_sublist _)))))))))))
     refine t_takeg 14 rfl (by kernel_rfl) (by kernel_rfl) (by kernel_rfl) (fun _ _ _ h => h) (yielded_mk _ _ _ rfl _ rfl rfl) (fun w HS => r_stradd (a := ((wh b.l).drop 0).take (q)) (b := ((wh a.l).drop q).take (512 - q)) rfl rfl (by (try simp only [List.length_cons, List.length_nil]); omega)) HS ?_
     refine t_takeg 15 rfl (by kernel_rfl) (by kernel_rfl) (by kernel_rfl) (fun _ _ _ h => h) (yielded_mk _ _ _ rfl _ rfl rfl) (fun w HS => r_streq (a := rl82) (b := (((wh b.l).drop 0).take (q)) ++ (((wh a.l).drop q).take (512 - q))) rfl rfl) HS ?_
     have hk88 : (decide (rl82 = (((wh b.l).drop 0).take (q)) ++ (((wh a.l).drop q).take (512 - q)))) = true := (by rw [ht4]; simp [List.take_of_length_le, wh_len])
     refine t_take 16 rfl (by kernel_rfl) (by kernel_rfl) (by kernel_rfl) (fun _ _ _ h => h) (fun w HS => r_pick rfl) HS ?_
     refine t_take 17 rfl (by kernel_rfl) (by kernel_rfl) (by kernel_rfl) (fun _ _ _ h => h) (fun w HS => r_mv) HS ?_
     refine t_takeg 18 rfl (by kernel_rfl) (by kernel_rfl) (by kernel_rfl) (fun _ _ _ h => h) (yielded_mk _ _ _ rfl _ rfl (by exact congrArg Value.bool hk88)) (fun w HS => r_mv) HS ?_
     refine t_stepg 19 rfl (by kernel_rfl) (yielded_mk _ _ _ rfl _ rfl (by exact congrArg Value.bool hk88)) (o_callR Try.func33 rfl rfl rfl (dwaiting_ret _ db3 y74 (H.ownT (L := [.own (some fb86) 512 512 ((wh b.l).map V8) 5 1, .own a79 n80 c81 ((rl82).map V8) 5 1, .own (some fb78) 512 512 ((wh a.l).map V8) 5 1, .own (some b73) 1 1 (([keep]).flatMap boolE) 4 1, .own (some fb67) 512 512 ((wh b.l).map V8) 5 1, .own (some fb11) 512 512 ((wh a.l).map V8) 5 1, .blk db3 ([.slice (hd (some y74.a1)) y74.ls.length y74.c1, .map (some y74.mb), .bool y74.off, VI y74.armed, VI y74.part, VI y74.way, .slice (hd y74.fa) y74.fl.length y74.fc, VI y74.writes, VI y74.lives]) 86, .own (some y74.a1) y74.ls.length y74.c1 ((y74.ls).flatMap slE) 57 1, .obj y74.mb (mobj kI y74.M y74.mc), .own y74.fa y74.fl.length y74.fc ((y74.fl).map V8) 5 1]) (L1 := [.blk db3 ([.slice (hd (some y74.a1)) y74.ls.length y74.c1, .map (some y74.mb), .bool y74.off, VI y74.armed, VI y74.part, VI y74.way, .slice (hd y74.fa) y74.fl.length y74.fc, VI y74.writes, VI y74.lives]) 86, .own (some y74.a1) y74.ls.length y74.c1 ((y74.ls).flatMap slE) 57 1, .obj y74.mb (mobj kI y74.M y74.mc), .own y74.fa y74.fl.length y74.fc ((y74.fl).map V8) 5 1]) (Lr := ([.own (some fb86) 512 512 ((wh b.l).map V8) 5 1, .own a79 n80 c81 ((rl82).map V8) 5 1, .own (some fb78) 512 512 ((wh a.l).map V8) 5 1, .own (some b73) 1 1 (([keep]).flatMap boolE) 4 1, .own (some fb67) 512 512 ((wh b.l).map V8) 5 1, .own (some fb11) 512 512 ((wh a.l).map V8) 5 1] : List Ch)) (T := y74.T) ((perm_front (j := 6) rfl).trans (.cons _ ((perm_front (j := 6) rfl).trans (.cons _ ((perm_front (j := 6) rfl).trans (.cons _ ((perm_front (j := 6) rfl).trans (.cons _ (.refl _)))))))))) hyo76) ?_)
     rintro _ w ⟨a89, c90, rfl, Hc⟩
     replace H := H.callT (L1' := [.own a89 ((dWaiting y74.abs).length) c90 ((dWaiting y74.abs).flatMap intE) 3 1, .blk db3 ([.slice (hd (some y74.a1)) y74.ls.length y74.c1, .map (some y74.mb), .bool y74.off, VI y74.armed, VI y74.part, VI y74.way, .slice (hd y74.fa) y74.fl.length y74.fc, VI y74.writes, VI y74.lives]) 86, .own (some y74.a1) y74.ls.length y74.c1 ((y74.ls).flatMap slE) 57 1, .obj y74.mb (mobj kI y74.M y74.mc), .own y74.fa y74.fl.length y74.fc ((y74.fl).map V8) 5 1]) (T' := y74.T) (L := [.own (some fb86) 512 512 ((wh b.l).map V8) 5 1, .own a79 n80 c81 ((rl82).map V8) 5 1, .own (some fb78) 512 512 ((wh a.l).map V8) 5 1, .own (some b73) 1 1 (([keep]).flatMap boolE) 4 1, .own (some fb67) 512 512 ((wh b.l).map V8) 5 1, .own (some fb11) 512 512 ((wh a.l).map V8) 5 1, .blk db3 ([.slice (hd (some y74.a1)) y74.ls.length y74.c1, .map (some y74.mb), .bool y74.off, VI y74.armed, VI y74.part, VI y74.way, .slice (hd y74.fa) y74.fl.length y74.fc, VI y74.writes, VI y74.lives]) 86, .own (some y74.a1) y74.ls.length y74.c1 ((y74.ls).flatMap slE) 57 1, .obj y74.mb (mobj kI y74.M y74.mc), .own y74.fa y74.fl.length y74.fc ((y74.fl).map V8) 5 1]) (L1 := [.blk db3 ([.slice (hd (some y74.a1)) y74.ls.length y74.c1, .map (some y74.mb), .bool y74.off, VI y74.armed, VI y74.part, VI y74.way, .slice (hd y74.fa) y74.fl.length y74.fc, VI y74.writes, VI y74.lives]) 86, .own (some y74.a1) y74.ls.length y74.c1 ((y74.ls).flatMap slE) 57 1, .obj y74.mb (mobj kI y74.M y74.mc), .own y74.fa y74.fl.length y74.fc ((y74.fl).map V8) 5 1]) (Lr := ([.own (some fb86) 512 512 ((wh b.l).map V8) 5 1, .own a79 n80 c81 ((rl82).map V8) 5 1, .own (some fb78) 512 512 ((wh a.l).map V8) 5 1, .own (some b73) 1 1 (([keep]).flatMap boolE) 4 1, .own (some fb67) 512 512 ((wh b.l).map V8) 5 1, .own (some fb11) 512 512 ((wh a.l).map V8) 5 1] : List Ch)) (T := y74.T) ((perm_front (j := 6) rfl).trans (.cons _ ((perm_front (j := 6) rfl).trans (.cons _ ((perm_front (j := 6) rfl).trans (.cons _ ((perm_front (j := 6) rfl).trans (.cons _ (.refl _))))))))) Hc ((perm_front (j := 6) rfl).trans (.cons _ (.refl _)))
     clear Hc
     replace H : Hp _ w _ (Ch.own a89 ((dWaiting y74.abs).length) c90 ((dWaiting y74.abs).flatMap intE) 3 1 :: Ch.own (some fb86) 512 512 ((wh b.l).map V8) 5 1 :: Ch.own a79 n80 c81 ((rl82).map V8) 5 1 :: Ch.own (some fb78) 512 512 ((wh a.l).map V8) 5 1 :: Ch.own (some b73) 1 1 (([keep]).flatMap boolE) 4 1 :: Ch.own (some fb67) 512 512 ((wh b.l).map V8) 5 1 :: Ch.own (some fb11) 512 512 ((wh a.l).map V8) 5 1 :: Ch.blk db3 ([.slice (hd (some y74.a1)) y74.ls.length y74.c1, .map (some y74.mb), .bool y74.off, VI y74.armed, VI y74.part, VI y74.way, .slice (hd y74.fa) y74.fl.length y74.fc, VI y74.writes, VI y74.lives]) 86 :: Ch.own (some y74.a1) y74.ls.length y74.c1 ((y74.ls).flatMap slE) 57 1 :: Ch.obj y74.mb (mobj kI y74.M y74.mc) :: Ch.own y74.fa y74.fl.length y74.fc ((y74.fl).map V8) 5 1 :: y74.T) := H
     refine ⟨H.sub (.cons _ (.cons _ (.cons_cons _ (.cons_cons _ (.cons_cons _ (.cons_cons _ (.cons_cons _ (.cons_cons _ (.cons_cons _ (.cons_cons _ (.cons_cons _ (List.nil_sublist _)))))))))))), ?_⟩
     replace HS := H.sub (.cons _ (.cons _ (.cons_cons _ (.cons_cons _ (.cons_cons _ (.cons_cons _ (.cons_cons _ (.cons_cons _ (.cons_cons _ (.cons_cons _ (.cons_cons _ (List.nil_sublist _))))))))))))
     refine t_takeg 20 rfl (by kernel_rfl) (by kernel_rfl) (by kernel_rfl) (fun _ _ _ h => h) (yielded_mk _ _ _ rfl _ rfl (by exact congrArg Value.bool hk88)) (fun w HS => r_lens el62 rfl) HS ?_
     refine t_takeg 21 rfl (by kernel_rfl) (by kernel_rfl) (by kernel_rfl) (fun _ _ _ h => h) (yielded_mk _ _ _ rfl _ rfl (by exact congrArg Value.bool hk88)) (fun w HS => r_bin (a := (((dWaiting y74.abs).length : Nat) : Int)) (b := 0) rfl rfl (fun _ => b_eqlB true (decide_eq_true (by rw [ht5]; rfl)))) HS ?_
     refine t_take 22 rfl (by kernel_rfl) (by kernel_rfl) (by kernel_rfl) (fun _ _ _ h => h) (fun w HS => r_pick (b := true) (congrArg Value.bool hk88)) HS ?_
     refine t_take 23 rfl (by kernel_rfl) (by kernel_rfl) (by kernel_rfl) (fun _ _ _ h => h) (fun w HS => r_mv) HS ?_
     refine t_takeg 24 rfl (by kernel_rfl) (by kernel_rfl) (by kernel_rfl) (fun _ _ _ h => h) (yielded_mk _ _ _ rfl _ rfl rfl) (fun w HS => r_mv) HS ?_
     refine t_stepg 25 rfl (by kernel_rfl) (yielded_mk _ _ _ rfl _ rfl rfl) (o_callR Try.func43 rfl rfl rfl (dlives_ret _ _ y74.ls.length y74.c1 y74.fl.length y74.fc (hd (some y74.a1)) (hd y74.fa) (some y74.mb) y74.off y74.armed y74.part y74.way y74.writes y74.lives (H.has _ (List.mem_of_getElem? (i := 7) rfl))) ?_)
     rintro _ w ⟨rfl, Hc⟩
     replace H := (H.callA (i := 7) rfl rfl rfl Hc)
     clear Hc
     replace H : Hp _ w _ (Ch.own a89 ((dWaiting y74.abs).length) c90 ((dWaiting y74.abs).flatMap intE) 3 1 :: Ch.own (some fb86) 512 512 ((wh b.l).map V8) 5 1 :: Ch.own a79 n80 c81 ((rl82).map V8) 5 1 :: Ch.own (some fb78) 512 512 ((wh a.l).map V8) 5 1 :: Ch.own (some b73) 1 1 (([keep]).flatMap boolE) 4 1 :: Ch.own (some fb67) 512 512 ((wh b.l).map V8) 5 1 :: Ch.own (some fb11) 512 512 ((wh a.l).map V8) 5 1 :: Ch.blk db3 ([.slice (hd (some y74.a1)) y74.ls.length y74.c1, .map (some y74.mb), .bool y74.off, VI y74.armed, VI y74.part, VI y74.way, .slice (hd y74.fa) y74.fl.length y74.fc, VI y74.writes, VI y74.lives]) 86 :: Ch.own (some y74.a1) y74.ls.length y74.c1 ((y74.ls).flatMap slE) 57 1 :: Ch.obj y74.mb (mobj kI y74.M y74.mc) :: Ch.own y74.fa y74.fl.length y74.fc ((y74.fl).map V8) 5 1 :: y74.T) := H
     refine ⟨H.sub (.cons _ (.cons _ (.cons_cons _ (.cons_cons _ (.cons_cons _ (.cons_cons _ (.cons_cons _ (.cons_cons _ (.cons_cons _ (.cons_cons _ (.cons_cons _ (List.nil_sublist _)))))))))))), ?_⟩
     replace HS := H.sub (.cons _ (.cons _ (.cons_cons _ (.cons_cons _ (.cons_cons _ (.cons_cons _ (.cons_cons _ (.cons_cons _ (.cons_cons _ (.cons_cons _ (.cons_cons _ (List.nil_sublist _))))))))))))
     refine t_takeg 26 rfl (by kernel_rfl) (by kernel_rfl) (by kernel_rfl) (fun _ _ _ h => h) (yielded_mk _ _ _ rfl _ rfl rfl) (fun w HS => r_bin (a := y74.lives) (b := 1) rfl rfl (fun _ => b_eqlB true (decide_eq_true ht6))) HS ?_
     refine t_take 27 rfl (by kernel_rfl) (by kernel_rfl) (by kernel_rfl) (fun _ _ _ h => h) (fun w HS => r_pick rfl) HS ?_
     refine t_take 28 rfl (by kernel_rfl) (by kernel_rfl) (by kernel_rfl) (fun _ _ _ h => h) (fun w HS => r_as) HS ?_
     refine t_done (by kernel_rfl) ?_
     clear HS
     refine c_ret ?_
     try dsimp only [Exit.then, Exit.inBlock]
     refine e_ret1 (v := .bool true) Try.results10 rfl ?_
     refine ⟨_, rfl, ?_⟩
     exact ⟨rfl, H.sub (List.nil_sublist _)⟩
end Go.Proofs.Ytncmcgcilijfkaa
