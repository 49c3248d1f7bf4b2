/- Lemmas for the statement DiskSizes, part 2: rules of operations, walks through functions, plain laws. -/
import Derived.Test.YtncmcgcilijfkaaDiskSizesG1
namespace Go.Proofs.Ytncmcgcilijfkaa
open Go
set_option maxRecDepth 100000
theorem msortedG_ret {w0 w : World} {S : List Nat} {L : List Ch} {M : List (Int × Value × Nat)} {c i j b bb : Nat} (H : Hp w0 w S L) (hi : L[i]? = some (.obj b (mobj kI M c))) (hj : L[j]? = some (.blk bb [.map (some b)] 84)) (hM : MOk M c) (hk : ∀ x ∈ M, (Lit.int .i64 x.1).wf = true) (hl : M.length ≤ 1048576) :
    Ret Try.prog 56 [.func (.func 75) #[] #[.pointer (some ⟨bb, 0, none⟩)]] w fun v w' => ∃ zs a n c', zs.Perm (M.map (·.1)) ∧ n = (sortedI zs).length ∧ v = .slice (hd a) n c' ∧ Hp w0 w' S (L ++ [.own a n c' ((sortedI zs).flatMap intE) 3 1]) := by
  refine (msorted_ret H hi hj hM hk hl).mono fun v w' ⟨zs, a, n, c', h1, h2, h3, h4⟩ => ⟨zs, a, n, c', h1, h2, h3, ?_⟩
  rw [flatI]; exact h4
theorem dwrites_ret (w0 : World) (db n c fn fc : Nat) (a fa : Option Addr) (m : Option Nat) (off : Bool) (armed part way writes lives : Int) (hdb : (Ch.blk db [.slice a n c, .map m, .bool off, VI armed, VI part, VI way, .slice fa fn fc, VI writes, VI lives] 86).ok w0) :
    Ret Try.prog 46 [.pointer (some ⟨db, 0, none⟩)] w0 fun v w' => v = VI writes ∧ Hp w0 w' [db] [.blk db [.slice a n c, .map m, .bool off, VI armed, VI part, VI way, .slice fa fn fc, VI writes, VI lives] 86] := by
  refine ret_mk Try.func46 rfl Try.ntmps46 (by simp) ?_
  have H := Hp.start w0 (.blk db ([.slice a n c, .map m, .bool off, VI armed, VI part, VI way, .slice fa fn fc, VI writes, VI lives]) 86) db hdb rfl
  repeat refine c_seq ?_
  refine c_region ?_
  refine l_op (o_val (r_as) ?_)
  first | refine l_end ?_ | refine l_nil ?_
  repeat refine c_seq ?_
  refine c_region ?_
  refine l_op (o_val (r_mv) ?_)
  refine l_op (o_val (r_nilp Try.underlying55 (by kernel_rfl) rfl rfl) ?_)
  first | refine l_end ?_ | refine l_nil ?_
  repeat refine c_seq ?_
  refine c_no rfl ?_
  refine c_skip ?_
  repeat refine c_seq ?_
  refine c_region ?_
  refine l_op (o_val (r_mv) ?_)
  refine l_op (o_val (r_nilc rfl) ?_)
  refine l_op (o_val (r_fa rfl fo86_7) ?_)
  refine l_op (o_val (r_ld (v := VI writes) H (i := 0) rfl rfl ct3 rfl) ?_)
  refine l_op (o_val (r_as) ?_)
  first | refine l_end ?_ | refine l_nil ?_
  refine c_ret ?_
  try dsimp only [Exit.then, Exit.inBlock]
  refine e_ret1 (v := VI writes) Try.results46 rfl ?_
  refine ⟨_, rfl, ?_⟩
  exact ⟨rfl, H.sub (.cons_cons _ (List.nil_sublist _))⟩
theorem ddead_ret (w0 : World) (db n c fn fc : Nat) (a fa : Option Addr) (m : Option Nat) (off : Bool) (armed part way writes lives : Int) (hn : 0 < n) (hdb : (Ch.blk db [.slice a n c, .map m, .bool off, VI armed, VI part, VI way, .slice fa fn fc, VI writes, VI lives] 86).ok w0) :
    Ret Try.prog 32 [.pointer (some ⟨db, 0, none⟩)] w0 fun v w' => v = .bool off ∧ Hp w0 w' [db] [.blk db [.slice a n c, .map m, .bool off, VI armed, VI part, VI way, .slice fa fn fc, VI writes, VI lives] 86] := by
  refine ret_mk Try.func32 rfl Try.ntmps32 (by simp) ?_
  have H := Hp.start w0 (.blk db ([.slice a n c, .map m, .bool off, VI armed, VI part, VI way, .slice fa fn fc, VI writes, VI lives]) 86) db hdb rfl
  repeat refine c_seq ?_
  refine c_region ?_
  refine l_op (o_val (r_as) ?_)
  first | refine l_end ?_ | refine l_nil ?_
  repeat refine c_seq ?_
  refine c_region ?_
  refine l_op (o_val (r_mv) ?_)
  refine l_op (o_callR Try.func30 rfl rfl rfl (dlen_ret _ _ n c fn fc a fa m off armed part way writes lives (H.has _ (List.mem_of_getElem? (i := 0) rfl))) ?_)
  rintro _ w ⟨rfl, Hc⟩
  replace H := (H.callA (i := 0) rfl rfl rfl Hc)
  clear Hc
  replace H : Hp _ w _ ([.blk db ([.slice a n c, .map m, .bool off, VI armed, VI part, VI way, .slice fa fn fc, VI writes, VI lives]) 86]) := H
  refine l_op (o_val (r_bin (a := (n : Int)) (b := 0) rfl rfl (fun _ => b_eqlB false (decide_eq_false (by omega)))) ?_)
  refine l_op (o_val (r_mv) ?_)
  refine l_yes rfl rfl rfl (o_val (r_mv) ?_)
  refine l_yes rfl rfl rfl (o_val (r_nilc rfl) ?_)
  refine l_yes rfl rfl rfl (o_val (r_fa rfl fo86_2) ?_)
  refine l_yes rfl rfl rfl (o_val (r_ld (v := .bool off) H (i := 0) rfl rfl ct4 rfl) ?_)
  refine l_op (o_val (r_pick rfl) ?_)
  refine l_op (o_val (r_as) ?_)
  first | refine l_end ?_ | refine l_nil ?_
  refine c_ret ?_
  try dsimp only [Exit.then, Exit.inBlock]
  refine e_ret1 (v := .bool off) Try.results32 rfl ?_
  refine ⟨_, rfl, ?_⟩
  exact ⟨rfl, H.sub (.cons_cons _ (List.nil_sublist _))⟩
theorem dnew_no (w0 : World) (n : Int) (h : n < 32 ∨ 4096 < n) :
    Ret Try.prog 28 [VI n] w0 fun v w' => v = .pointer none ∧ Hp w0 w' [] [] := by
  refine ret_mk Try.func28 rfl Try.ntmps28 (by simp) ?_
  have H := Hp.refl w0 []
  repeat refine c_seq ?_
  refine c_region ?_
  refine l_op (o_val (r_as) ?_)
  first | refine l_end ?_ | refine l_nil ?_
  repeat refine c_seq ?_
  refine c_region ?_
  refine l_op (o_val (r_mv) ?_)
  refine l_op (o_val (r_bin (a := n) (b := 32) rfl rfl (fun _ => b_lss)) ?_)
  refine l_op (o_val (r_mv) ?_)
  by_cases hc1 : n < 32
  ·
   refine l_no rfl rfl (by exact congrArg Value.bool (decide_eq_true hc1)) rfl ?_
   refine l_no rfl rfl (by exact congrArg Value.bool (decide_eq_true hc1)) rfl ?_
   refine l_op (o_val (r_pick (b := true) (congrArg Value.bool (decide_eq_true hc1))) ?_)
   first | refine l_end ?_ | refine l_nil ?_
   repeat refine c_seq ?_
   refine c_yes rfl ?_
   repeat refine c_seq ?_
   refine c_region ?_
   refine l_op (o_val (r_as) ?_)
   first | refine l_end ?_ | refine l_nil ?_
   refine c_ret ?_
   try dsimp only [Exit.then, Exit.inBlock]
   refine e_ret1 (v := .pointer none) Try.results28 rfl ?_
   refine ⟨_, rfl, ?_⟩
   first | exact ⟨rfl, H⟩ | (exfalso; omega)
  ·
   refine l_yes rfl rfl (by exact congrArg Value.bool (decide_eq_false hc1)) (o_val (r_mv) ?_)
   refine l_yes rfl rfl (by exact congrArg Value.bool (decide_eq_false hc1)) (o_val (r_bin (a := n) (b := 4096) rfl rfl (fun _ => b_gtr)) ?_)
   refine l_op (o_val (r_pick (b := false) (congrArg Value.bool (decide_eq_false hc1))) ?_)
   first | refine l_end ?_ | refine l_nil ?_
   by_cases hc2 : 4096 < n
   ·
    repeat refine c_seq ?_
    refine c_yes (by exact congrArg Value.bool (decide_eq_true hc2)) ?_
    repeat refine c_seq ?_
    refine c_region ?_
    refine l_op (o_val (r_as) ?_)
    first | refine l_end ?_ | refine l_nil ?_
    refine c_ret ?_
    try dsimp only [Exit.then, Exit.inBlock]
    refine e_ret1 (v := .pointer none) Try.results28 rfl ?_
    refine ⟨_, rfl, ?_⟩
    first | exact ⟨rfl, H⟩ | (exfalso; omega)
   ·
    repeat refine c_seq ?_
    refine c_no (by exact congrArg Value.bool (decide_eq_false hc2)) ?_
    refine c_skip ?_
    repeat refine c_seq ?_
    refine c_region ?_
    refine l_op (o_val (r_mv) ?_)
    refine l_op (o_makeS ((n).toNat) H sl83 zc57 rfl rfl (by omega) (by omega) (by omega) (by omega) (fun b3 w H hb3 => ?_))
    replace H : Hp _ w _ ([.own (some b3) ((n).toNat) ((n).toNat) ((List.replicate ((n).toNat) nilS).flatMap slE) 57 1]) := H
    refine l_op (o_mmake kI H (fun b4 w H hb4 => ?_))
    replace H : Hp _ w _ ([_, .obj b4 (mobj kI ([] : List (Int × Value × Nat)) 0)]) := H
    refine l_op (o_val (r_bld' (cells := ([.slice (hd (some b3)) ((n).toNat) ((n).toNat), .map (some b4), .bool false, VI (-1), VI 0, VI (-1), .slice none 0 0, VI 0, VI 0]).toArray) (pv := [(0, .slice (hd (some b3)) ((n).toNat) ((n).toNat)), (1, .map (some b4)), (3, VI (-1)), (5, VI (-1))]) bd86 rfl rfl) ?_)
    refine l_op (o_box (v := .agg ([.slice (hd (some b3)) ((n).toNat) ((n).toNat), .map (some b4), .bool false, VI (-1), VI 0, VI (-1), .slice none 0 0, VI 0, VI 0]).toArray) H rfl (fun b5 w H hb5 => ?_))
    replace H : Hp _ w _ ([_, _, .blk b5 ([.slice (hd (some b3)) ((n).toNat) ((n).toNat), .map (some b4), .bool false, VI (-1), VI 0, VI (-1), .slice none 0 0, VI 0, VI 0]) 86]) := H
    refine l_op (o_val (r_as) ?_)
    first | refine l_end ?_ | refine l_nil ?_
    refine c_ret ?_
    try dsimp only [Exit.then, Exit.inBlock]
    refine e_ret1 (v := .pointer (some ⟨b5, 0, none⟩)) Try.results28 rfl ?_
    refine ⟨_, rfl, ?_⟩
    first | exact ⟨rfl, H⟩ | (exfalso; omega)
theorem dnew_ret (w0 : World) (n : Nat) (hn : 32 ≤ n ∧ n ≤ 4096) :
    Ret Try.prog 28 [VI (n : Int)] w0 fun v w' => ∃ db z, v = .pointer (some ⟨db, 0, none⟩) ∧ z.abs = dNew n ∧ z.ok ∧ z.T = [] ∧ Hp w0 w' [] (kch db z) := by
  refine ret_mk Try.func28 rfl Try.ntmps28 (by simp) ?_
  have H := Hp.refl w0 []
  repeat refine c_seq ?_
  refine c_region ?_
  refine l_op (o_val (r_as) ?_)
  first | refine l_end ?_ | refine l_nil ?_
  repeat refine c_seq ?_
  refine c_region ?_
  refine l_op (o_val (r_mv) ?_)
  refine l_op (o_val (r_bin (a := (n : Int)) (b := 32) rfl rfl (fun _ => b_lss)) ?_)
  refine l_op (o_val (r_mv) ?_)
  by_cases hc1 : (n : Int) < 32
  ·
   refine l_no rfl rfl (by exact congrArg Value.bool (decide_eq_true hc1)) rfl ?_
   refine l_no rfl rfl (by exact congrArg Value.bool (decide_eq_true hc1)) rfl ?_
   refine l_op (o_val (r_pick (b := true) (congrArg Value.bool (decide_eq_true hc1))) ?_)
   first | refine l_end ?_ | refine l_nil ?_
   repeat refine c_seq ?_
   refine c_yes rfl ?_
   repeat refine c_seq ?_
   refine c_region ?_
   refine l_op (o_val (r_as) ?_)
   first | refine l_end ?_ | refine l_nil ?_
   refine c_ret ?_
   try dsimp only [Exit.then, Exit.inBlock]
   refine e_ret1 (v := .pointer none) Try.results28 rfl ?_
   refine ⟨_, rfl, ?_⟩
   exfalso; omega
  ·
   refine l_yes rfl rfl (by exact congrArg Value.bool (decide_eq_false hc1)) (o_val (r_mv) ?_)
   refine l_yes rfl rfl (by exact congrArg Value.bool (decide_eq_false hc1)) (o_val (r_bin (a := (n : Int)) (b := 4096) rfl rfl (fun _ => b_gtr)) ?_)
   refine l_op (o_val (r_pick (b := false) (congrArg Value.bool (decide_eq_false hc1))) ?_)
   first | refine l_end ?_ | refine l_nil ?_
   by_cases hc2 : 4096 < (n : Int)
   ·
    repeat refine c_seq ?_
    refine c_yes (by exact congrArg Value.bool (decide_eq_true hc2)) ?_
    repeat refine c_seq ?_
    refine c_region ?_
    refine l_op (o_val (r_as) ?_)
    first | refine l_end ?_ | refine l_nil ?_
    refine c_ret ?_
    try dsimp only [Exit.then, Exit.inBlock]
    refine e_ret1 (v := .pointer none) Try.results28 rfl ?_
    refine ⟨_, rfl, ?_⟩
    exfalso; omega
   ·
    repeat refine c_seq ?_
    refine c_no (by exact congrArg Value.bool (decide_eq_false hc2)) ?_
    refine c_skip ?_
    repeat refine c_seq ?_
    refine c_region ?_
    refine l_op (o_val (r_mv) ?_)
    refine l_op (o_makeS n H sl83 zc57 rfl rfl (by omega) (by omega) (by omega) (by omega) (fun b3 w H hb3 => ?_))
    replace H : Hp _ w _ ([.own (some b3) n n ((List.replicate n nilS).flatMap slE) 57 1]) := H
    refine l_op (o_mmake kI H (fun b4 w H hb4 => ?_))
    replace H : Hp _ w _ ([_, .obj b4 (mobj kI ([] : List (Int × Value × Nat)) 0)]) := H
    refine l_op (o_val (r_bld' (cells := ([.slice (hd (some b3)) n n, .map (some b4), .bool false, VI (-1), VI 0, VI (-1), .slice none 0 0, VI 0, VI 0]).toArray) (pv := [(0, .slice (hd (some b3)) n n), (1, .map (some b4)), (3, VI (-1)), (5, VI (-1))]) bd86 rfl rfl) ?_)
    refine l_op (o_box (v := .agg ([.slice (hd (some b3)) n n, .map (some b4), .bool false, VI (-1), VI 0, VI (-1), .slice none 0 0, VI 0, VI 0]).toArray) H rfl (fun b5 w H hb5 => ?_))
    replace H : Hp _ w _ ([_, _, .blk b5 ([.slice (hd (some b3)) n n, .map (some b4), .bool false, VI (-1), VI 0, VI (-1), .slice none 0 0, VI 0, VI 0]) 86]) := H
    refine l_op (o_val (r_as) ?_)
    first | refine l_end ?_ | refine l_nil ?_
    refine c_ret ?_
    try dsimp only [Exit.then, Exit.inBlock]
    refine e_ret1 (v := .pointer (some ⟨b5, 0, none⟩)) Try.results28 rfl ?_
    refine ⟨_, rfl, ?_⟩
    replace H := H.nilEnd 5 1
    have H2 := (H.permL ((perm_front (j := 2) rfl).trans (.cons _ (.refl _)))).sub (.cons_cons _ (.cons_cons _ (.cons_cons _ (.cons_cons _ (List.nil_sublist _)))))
    refine ⟨b5, ({ a1 := b3, c1 := n, ls := List.replicate n nilS, mb := b4, M := [], mc := 0, F := fun _ => none, off := false, armed := -1, part := 0, way := -1, fa := none, fc := 0, fl := [], writes := 0, lives := 0, T := [] } : DW), rfl, ?_, ⟨by simp; omega, fun s hs => .inl (List.eq_of_mem_replicate hs), MIs.nil, MOk.nil, fun i s h => (by cases h), (by simp), (by simp), (by simp; omega), (by simp)⟩, rfl, ?_⟩
    · simp [DW.abs, dNew, wh_nil]
    · rw [kch]
      simp only [List.length_replicate]
      exact H2
theorem dnewI_ret (w0 : World) (n : Int) (hn : 32 ≤ n ∧ n ≤ 4096) : Ret Try.prog 28 [VI n] w0 fun v w' => ∃ db z, v = .pointer (some ⟨db, 0, none⟩) ∧ z.abs = dNew n.toNat ∧ z.ok ∧ z.T = [] ∧ Hp w0 w' [] (kch db z) := by
  obtain ⟨m, rfl⟩ := Int.eq_ofNat_of_zero_le (show 0 ≤ n by omega)
  exact dnew_ret w0 m (by omega)
theorem dwaiting_ret (w0 : World) (db : Nat) (z : DW) (hO : Own w0 (kch db z)) (hz : z.ok) :
    Ret Try.prog 33 [.pointer (some ⟨db, 0, none⟩)] w0 fun v w' => ∃ a c, v = .slice (hd a) (dWaiting z.abs).length c ∧ Hp w0 w' (keys (kch db z)) (.own a (dWaiting z.abs).length c ((dWaiting z.abs).flatMap intE) 3 1 :: kch db z) := by
  refine ret_mk Try.func33 rfl Try.ntmps33 (by simp) ?_
  have H : Hp w0 w0 (keys (kch db z)) (Ch.blk db ([.slice (hd (some z.a1)) z.ls.length z.c1, .map (some z.mb), .bool z.off, VI z.armed, VI z.part, VI z.way, .slice (hd z.fa) z.fl.length z.fc, VI z.writes, VI z.lives]) 86 :: Ch.own (some z.a1) z.ls.length z.c1 ((z.ls).flatMap slE) 57 1 :: Ch.obj z.mb (mobj kI z.M z.mc) :: Ch.own z.fa z.fl.length z.fc ((z.fl).map V8) 5 1 :: z.T) := hO.start
  have hzn := hz.n
  have hza := hz.armed
  have hzp := hz.part
  have hzw := hz.way
  have hzf := hz.fl
  have hzl := z.alen
  have hmL : maxLen = 9223372036854775807 := rfl
  repeat refine c_seq ?_
  refine c_region ?_
  refine l_op (o_val (r_as) ?_)
  first | refine l_end ?_ | refine l_nil ?_
  repeat refine c_seq ?_
  refine c_region ?_
  refine l_op (o_val (r_mv) ?_)
  refine l_op (o_callR Try.func30 rfl rfl rfl (dlen_ret _ _ z.ls.length z.c1 z.fl.length z.fc (hd (some z.a1)) (hd z.fa) (some z.mb) z.off z.armed z.part z.way z.writes z.lives (H.has _ (List.mem_of_getElem? (i := 0) rfl))) ?_)
  rintro _ w ⟨rfl, Hc⟩
  replace H := (H.callA (i := 0) rfl rfl rfl Hc)
  clear Hc
  replace H : Hp _ w _ (Ch.blk db ([.slice (hd (some z.a1)) z.ls.length z.c1, .map (some z.mb), .bool z.off, VI z.armed, VI z.part, VI z.way, .slice (hd z.fa) z.fl.length z.fc, VI z.writes, VI z.lives]) 86 :: Ch.own (some z.a1) z.ls.length z.c1 ((z.ls).flatMap slE) 57 1 :: Ch.obj z.mb (mobj kI z.M z.mc) :: Ch.own z.fa z.fl.length z.fc ((z.fl).map V8) 5 1 :: z.T) := H
  refine l_op (o_val (r_bin (a := (z.ls.length : Int)) (b := 0) rfl rfl (fun _ => b_eqlB false (decide_eq_false (by omega)))) ?_)
  first | refine l_end ?_ | refine l_nil ?_
  repeat refine c_seq ?_
  refine c_no rfl ?_
  refine c_skip ?_
  repeat refine c_seq ?_
  refine c_region ?_
  refine l_op (o_val (r_mv) ?_)
  refine l_op (o_val (r_nilc rfl) ?_)
  refine l_op (o_val (r_fa rfl fo86_1) ?_)
  refine l_op (o_val (r_ld (v := .map (some z.mb)) H (i := 0) rfl rfl ct84 rfl) ?_)
  refine l_op (o_callR Try.func57 rfl rfl rfl (mkeys_ret _ z.mb) ?_)
  rintro _ w ⟨kb1, rfl, Hc⟩
  replace H : Hp _ w _ (Ch.blk kb1 [.map (some z.mb)] 84 :: Ch.blk db ([.slice (hd (some z.a1)) z.ls.length z.c1, .map (some z.mb), .bool z.off, VI z.armed, VI z.part, VI z.way, .slice (hd z.fa) z.fl.length z.fc, VI z.writes, VI z.lives]) 86 :: Ch.own (some z.a1) z.ls.length z.c1 ((z.ls).flatMap slE) 57 1 :: Ch.obj z.mb (mobj kI z.M z.mc) :: Ch.own z.fa z.fl.length z.fc ((z.fl).map V8) 5 1 :: z.T) := (H.call Hc).rot
  clear Hc
  refine l_op (o_callR Try.func56 rfl rfl rfl (msortedG_ret H (i := 3) (j := 0) rfl rfl hz.hM (wait_wf hz) (Nat.le_trans (wait_len hz) (by decide))) ?_)
  rintro _ w ⟨zs2, a3, n4, c5, hzp6, hzn7, rfl, Hc⟩
  clear H
  have H := Hc.rot; clear Hc
  replace H : Hp _ w _ (Ch.own a3 n4 c5 ((sortedI zs2).flatMap intE) 3 1 :: Ch.blk kb1 [.map (some z.mb)] 84 :: Ch.blk db ([.slice (hd (some z.a1)) z.ls.length z.c1, .map (some z.mb), .bool z.off, VI z.armed, VI z.part, VI z.way, .slice (hd z.fa) z.fl.length z.fc, VI z.writes, VI z.lives]) 86 :: Ch.own (some z.a1) z.ls.length z.c1 ((z.ls).flatMap slE) 57 1 :: Ch.obj z.mb (mobj kI z.M z.mc) :: Ch.own z.fa z.fl.length z.fc ((z.fl).map V8) 5 1 :: z.T) := H
  refine l_op (o_val (r_as) ?_)
  first | refine l_end ?_ | refine l_nil ?_
  refine c_ret ?_
  try dsimp only [Exit.then, Exit.inBlock]
  refine e_ret1 (v := .slice (hd a3) n4 c5) Try.results33 rfl ?_
  refine ⟨_, rfl, ?_⟩
  have H2 := (Hp.permT (L := [.own a3 n4 c5 ((sortedI zs2).flatMap intE) 3 1, .blk kb1 [.map (some z.mb)] 84, .blk db ([.slice (hd (some z.a1)) z.ls.length z.c1, .map (some z.mb), .bool z.off, VI z.armed, VI z.part, VI z.way, .slice (hd z.fa) z.fl.length z.fc, VI z.writes, VI z.lives]) 86, .own (some z.a1) z.ls.length z.c1 ((z.ls).flatMap slE) 57 1, .obj z.mb (mobj kI z.M z.mc), .own z.fa z.fl.length z.fc ((z.fl).map V8) 5 1]) (T := z.T) H ((perm_front (j := 0) rfl).trans (.cons _ ((perm_front (j := 1) rfl).trans (.cons _ ((perm_front (j := 1) rfl).trans (.cons _ ((perm_front (j := 1) rfl).trans (.cons _ ((perm_front (j := 1) rfl).trans (.cons _ (.refl _)))))))))))).sub (.cons_cons _ (.cons_cons _ (.cons_cons _ (.cons_cons _ (.cons_cons _ (.cons _ ((List.Sublist.refl _))))))))
  have hws := wait_sorted hz hzp6
  rw [hws] at hzn7 H2
  subst hzn7
  exact ⟨_, _, rfl, H2⟩
end Go.Proofs.Ytncmcgcilijfkaa
namespace Go.Proofs.Ytncmcgcilijfkaa
open Go
set_option maxRecDepth 100000
theorem full_ret (w0 : World) (s : Sl) (hs : s.ok w0) :
    Ret Try.prog 31 [s.v] w0 fun v w' => ∃ b, v = .slice (some ⟨b, 0, none⟩) 512 512 ∧ Hp w0 w' [] [.own (some b) 512 512 ((wh s.l).map V8) 5 1] := by
  refine ret_mk Try.func31 rfl Try.ntmps31 (by simp) ?_
  have H := Hp.refl w0 []
  have hsl0 := hs.ln
  have hsm := hs.le
  have hsx := hs.mx
  have hmL : maxLen = 9223372036854775807 := rfl
  repeat refine c_seq ?_
  refine c_region ?_
  refine l_op (o_val (r_as) ?_)
  first | refine l_end ?_ | refine l_nil ?_
  repeat refine c_seq ?_
  refine c_region ?_
  refine l_op (o_makeB 512 H sl57 zc5 rfl rfl (by omega) (by omega) (by omega) (fun b1 w H hb1 => ?_))
  replace H : Hp _ w _ ([.own (some b1) 512 512 ((List.replicate 512 (0 : UInt8)).map V8) 5 1]) := H
  refine l_op (o_val (r_as) ?_)
  first | refine l_end ?_ | refine l_nil ?_
  repeat refine c_seq ?_
  refine c_region ?_
  refine l_op (o_val (r_mv) ?_)
  refine l_op (o_val (r_mv) ?_)
  refine l_op (o_copyB (s := s) H (i := 0) rfl Try.underlying57 Try.underlying57 cs5 rfl rfl (hs.up H (fun _ => apart_nil _)) (by omega) (fun w H => ?_))
  replace H : Hp _ w _ ([.own (some b1) 512 512 (((s.l).take (min s.len 512) ++ (List.replicate 512 (0 : UInt8)).drop (min s.len 512)).map V8) 5 1]) := H
  first | refine l_end ?_ | refine l_nil ?_
  repeat refine c_seq ?_
  refine c_region ?_
  refine l_op (o_val (r_mv) ?_)
  refine l_op (o_val (r_as) ?_)
  first | refine l_end ?_ | refine l_nil ?_
  refine c_ret ?_
  try dsimp only [Exit.then, Exit.inBlock]
  refine e_ret1 (v := .slice (hd (some b1)) 512 512) Try.results31 rfl ?_
  refine ⟨_, rfl, ?_⟩
  have hsl := hs.ln
  have e : (s.l).take (min s.len 512) ++ (List.replicate 512 (0 : UInt8)).drop (min s.len 512) = wh s.l := by rw [wh, hsl]
  rw [e] at H
  exact ⟨_, rfl, H.sub (.cons_cons _ (List.nil_sublist _))⟩
theorem b5w : dWriteE (dNew 32) 3 (wh [7]) = 0 := by decide +kernel
theorem b5m : dMay (dWrite (dNew 32) 3 (wh [7])) 3 = 0 := by decide +kernel
theorem b5r : dRead (dWrite (dNew 32) 3 (wh [7])) 3 = wh [7] := by decide +kernel
theorem b5n : (dWrite (dNew 32) 3 (wh [7])).writes = 1 := by decide +kernel
theorem b5l : (dWrite (dNew 32) 3 (wh [7])).last.length = 32 := by decide +kernel
theorem dNew_writes {z : DW} {n : Nat} (h : z.abs = dNew n) : z.writes = 0 := congrArg DD.writes h
theorem begun5_ret (w0 : World) :
    Ret Try.prog 27 [] w0 fun v w' => v = .bool true ∧ Hp w0 w' [] [] := by
  refine ret_mk Try.func27 rfl Try.ntmps27 (by simp) ?_
  have H := Hp.refl w0 []
  repeat refine c_seq ?_
  refine c_region ?_
  refine l_op (o_val (r_as) ?_)
  first | refine l_end ?_ | refine l_nil ?_
  repeat refine c_seq ?_
  refine c_region ?_
  refine l_op (o_callR Try.func28 rfl rfl rfl (dnewI_ret _ 32 (by omega)) ?_)
  rintro _ w ⟨db1, z2, rfl, hza3, hzo4, hzt5, Hc⟩
  replace H : Hp _ w _ (Ch.blk db1 ([.slice (hd (some z2.a1)) z2.ls.length z2.c1, .map (some z2.mb), .bool z2.off, VI z2.armed, VI z2.part, VI z2.way, .slice (hd z2.fa) z2.fl.length z2.fc, VI z2.writes, VI z2.lives]) 86 :: Ch.own (some z2.a1) z2.ls.length z2.c1 ((z2.ls).flatMap slE) 57 1 :: Ch.obj z2.mb (mobj kI z2.M z2.mc) :: Ch.own z2.fa z2.fl.length z2.fc ((z2.fl).map V8) 5 1 :: z2.T) := H.call Hc
  clear Hc
  refine l_op (o_val (r_as) ?_)
  first | refine l_end ?_ | refine l_nil ?_
  have hw0 := dNew_writes hza3
  have hn32 : (dNew (32 : Int).toNat) = dNew 32 := rfl
  rw [hn32] at hza3
  repeat refine c_seq ?_
  refine c_region ?_
  refine l_op (o_val (r_mv) ?_)
  refine l_op (o_bslB ([(7 : UInt8)]) H sl57 zc5 rfl rfl (by decide) (fun b6 w H hb6 => ?_))
  replace H := H.rot
  replace H : Hp _ w _ (Ch.own (some b6) 1 1 (([(7 : UInt8)]).map V8) 5 1 :: Ch.blk db1 ([.slice (hd (some z2.a1)) z2.ls.length z2.c1, .map (some z2.mb), .bool z2.off, VI z2.armed, VI z2.part, VI z2.way, .slice (hd z2.fa) z2.fl.length z2.fc, VI z2.writes, VI z2.lives]) 86 :: Ch.own (some z2.a1) z2.ls.length z2.c1 ((z2.ls).flatMap slE) 57 1 :: Ch.obj z2.mb (mobj kI z2.M z2.mc) :: Ch.own z2.fa z2.fl.length z2.fc ((z2.fl).map V8) 5 1 :: z2.T) := H
  refine l_op (o_callR Try.func31 rfl rfl rfl (full_ret _ ⟨hd (some b6), 1, 1, [(7 : UInt8)]⟩ (H.slOwn (i := 0) rfl)) ?_)
  rintro _ w ⟨fb7, rfl, Hc⟩
  replace H : Hp _ w _ (Ch.own (some fb7) 512 512 ((wh ([(7 : UInt8)])).map V8) 5 1 :: Ch.own (some b6) 1 1 (([(7 : UInt8)]).map V8) 5 1 :: Ch.blk db1 ([.slice (hd (some z2.a1)) z2.ls.length z2.c1, .map (some z2.mb), .bool z2.off, VI z2.armed, VI z2.part, VI z2.way, .slice (hd z2.fa) z2.fl.length z2.fc, VI z2.writes, VI z2.lives]) 86 :: Ch.own (some z2.a1) z2.ls.length z2.c1 ((z2.ls).flatMap slE) 57 1 :: Ch.obj z2.mb (mobj kI z2.M z2.mc) :: Ch.own z2.fa z2.fl.length z2.fc ((z2.fl).map V8) 5 1 :: z2.T) := (H.call Hc).rot
  clear Hc
  refine l_op (o_callR Try.func34 rfl rfl rfl (dwrite_ret _ db1 z2 (H.ownT (L := [.own (some fb7) 512 512 ((wh ([(7 : UInt8)])).map V8) 5 1, .own (some b6) 1 1 (([(7 : UInt8)]).map V8) 5 1, .blk db1 ([.slice (hd (some z2.a1)) z2.ls.length z2.c1, .map (some z2.mb), .bool z2.off, VI z2.armed, VI z2.part, VI z2.way, .slice (hd z2.fa) z2.fl.length z2.fc, VI z2.writes, VI z2.lives]) 86, .own (some z2.a1) z2.ls.length z2.c1 ((z2.ls).flatMap slE) 57 1, .obj z2.mb (mobj kI z2.M z2.mc), .own z2.fa z2.fl.length z2.fc ((z2.fl).map V8) 5 1]) (L1 := [.blk db1 ([.slice (hd (some z2.a1)) z2.ls.length z2.c1, .map (some z2.mb), .bool z2.off, VI z2.armed, VI z2.part, VI z2.way, .slice (hd z2.fa) z2.fl.length z2.fc, VI z2.writes, VI z2.lives]) 86, .own (some z2.a1) z2.ls.length z2.c1 ((z2.ls).flatMap slE) 57 1, .obj z2.mb (mobj kI z2.M z2.mc), .own z2.fa z2.fl.length z2.fc ((z2.fl).map V8) 5 1]) (Lr := ([.own (some fb7) 512 512 ((wh ([(7 : UInt8)])).map V8) 5 1, .own (some b6) 1 1 (([(7 : UInt8)]).map V8) 5 1] : List Ch)) (T := z2.T) ((perm_front (j := 2) rfl).trans (.cons _ ((perm_front (j := 2) rfl).trans (.cons _ ((perm_front (j := 2) rfl).trans (.cons _ ((perm_front (j := 2) rfl).trans (.cons _ (.refl _)))))))))) hzo4 3 ⟨hd (some fb7), 512, 512, wh ([(7 : UInt8)])⟩ (H.slOwn (i := 0) rfl) (fun _ => apart_own (L := [.own (some fb7) 512 512 ((wh ([(7 : UInt8)])).map V8) 5 1, .own (some b6) 1 1 (([(7 : UInt8)]).map V8) 5 1, .blk db1 ([.slice (hd (some z2.a1)) z2.ls.length z2.c1, .map (some z2.mb), .bool z2.off, VI z2.armed, VI z2.part, VI z2.way, .slice (hd z2.fa) z2.fl.length z2.fc, VI z2.writes, VI z2.lives]) 86, .own (some z2.a1) z2.ls.length z2.c1 ((z2.ls).flatMap slE) 57 1, .obj z2.mb (mobj kI z2.M z2.mc), .own z2.fa z2.fl.length z2.fc ((z2.fl).map V8) 5 1]) (L1 := [.blk db1 ([.slice (hd (some z2.a1)) z2.ls.length z2.c1, .map (some z2.mb), .bool z2.off, VI z2.armed, VI z2.part, VI z2.way, .slice (hd z2.fa) z2.fl.length z2.fc, VI z2.writes, VI z2.lives]) 86, .own (some z2.a1) z2.ls.length z2.c1 ((z2.ls).flatMap slE) 57 1, .obj z2.mb (mobj kI z2.M z2.mc), .own z2.fa z2.fl.length z2.fc ((z2.fl).map V8) 5 1]) (Lr := ([.own (some fb7) 512 512 ((wh ([(7 : UInt8)])).map V8) 5 1, .own (some b6) 1 1 (([(7 : UInt8)]).map V8) 5 1] : List Ch)) (T := z2.T) H ((perm_front (j := 2) rfl).trans (.cons _ ((perm_front (j := 2) rfl).trans (.cons _ ((perm_front (j := 2) rfl).trans (.cons _ ((perm_front (j := 2) rfl).trans (.cons _ (.refl _))))))))) (List.mem_of_getElem? (i := 0) rfl)) (by omega)) ?_)
  rintro _ w ⟨rfl, y8, hya9, hyo10, hyt11, Hc⟩
  replace H := H.callT (L1' := [.blk db1 ([.slice (hd (some y8.a1)) y8.ls.length y8.c1, .map (some y8.mb), .bool y8.off, VI y8.armed, VI y8.part, VI y8.way, .slice (hd y8.fa) y8.fl.length y8.fc, VI y8.writes, VI y8.lives]) 86, .own (some y8.a1) y8.ls.length y8.c1 ((y8.ls).flatMap slE) 57 1, .obj y8.mb (mobj kI y8.M y8.mc), .own y8.fa y8.fl.length y8.fc ((y8.fl).map V8) 5 1]) (T' := y8.T) (L := [.own (some fb7) 512 512 ((wh ([(7 : UInt8)])).map V8) 5 1, .own (some b6) 1 1 (([(7 : UInt8)]).map V8) 5 1, .blk db1 ([.slice (hd (some z2.a1)) z2.ls.length z2.c1, .map (some z2.mb), .bool z2.off, VI z2.armed, VI z2.part, VI z2.way, .slice (hd z2.fa) z2.fl.length z2.fc, VI z2.writes, VI z2.lives]) 86, .own (some z2.a1) z2.ls.length z2.c1 ((z2.ls).flatMap slE) 57 1, .obj z2.mb (mobj kI z2.M z2.mc), .own z2.fa z2.fl.length z2.fc ((z2.fl).map V8) 5 1]) (L1 := [.blk db1 ([.slice (hd (some z2.a1)) z2.ls.length z2.c1, .map (some z2.mb), .bool z2.off, VI z2.armed, VI z2.part, VI z2.way, .slice (hd z2.fa) z2.fl.length z2.fc, VI z2.writes, VI z2.lives]) 86, .own (some z2.a1) z2.ls.length z2.c1 ((z2.ls).flatMap slE) 57 1, .obj z2.mb (mobj kI z2.M z2.mc), .own z2.fa z2.fl.length z2.fc ((z2.fl).map V8) 5 1]) (Lr := ([.own (some fb7) 512 512 ((wh ([(7 : UInt8)])).map V8) 5 1, .own (some b6) 1 1 (([(7 : UInt8)]).map V8) 5 1] : List Ch)) (T := z2.T) ((perm_front (j := 2) rfl).trans (.cons _ ((perm_front (j := 2) rfl).trans (.cons _ ((perm_front (j := 2) rfl).trans (.cons _ ((perm_front (j := 2) rfl).trans (.cons _ (.refl _))))))))) Hc (.refl _)
  clear Hc
  replace H : Hp _ w _ (Ch.own (some fb7) 512 512 ((wh ([(7 : UInt8)])).map V8) 5 1 :: Ch.own (some b6) 1 1 (([(7 : UInt8)]).map V8) 5 1 :: Ch.blk db1 ([.slice (hd (some y8.a1)) y8.ls.length y8.c1, .map (some y8.mb), .bool y8.off, VI y8.armed, VI y8.part, VI y8.way, .slice (hd y8.fa) y8.fl.length y8.fc, VI y8.writes, VI y8.lives]) 86 :: Ch.own (some y8.a1) y8.ls.length y8.c1 ((y8.ls).flatMap slE) 57 1 :: Ch.obj y8.mb (mobj kI y8.M y8.mc) :: Ch.own y8.fa y8.fl.length y8.fc ((y8.fl).map V8) 5 1 :: y8.T) := H
  replace hya9 : y8.abs = dWrite z2.abs 3 (wh ([(7 : UInt8)])) := hya9
  refine l_op (o_val (r_as) ?_)
  first | refine l_end ?_ | refine l_nil ?_
  rw [hza3] at hya9
  have hyl := y8.alen
  rw [hya9, b5l] at hyl
  repeat refine c_seq ?_
  refine c_region ?_
  refine l_op (o_val (r_mv) ?_)
  refine l_op (o_callR Try.func29 rfl rfl rfl (dread_ret _ db1 y8 (H.ownT (L := [.own (some fb7) 512 512 ((wh ([(7 : UInt8)])).map V8) 5 1, .own (some b6) 1 1 (([(7 : UInt8)]).map V8) 5 1, .blk db1 ([.slice (hd (some y8.a1)) y8.ls.length y8.c1, .map (some y8.mb), .bool y8.off, VI y8.armed, VI y8.part, VI y8.way, .slice (hd y8.fa) y8.fl.length y8.fc, VI y8.writes, VI y8.lives]) 86, .own (some y8.a1) y8.ls.length y8.c1 ((y8.ls).flatMap slE) 57 1, .obj y8.mb (mobj kI y8.M y8.mc), .own y8.fa y8.fl.length y8.fc ((y8.fl).map V8) 5 1]) (L1 := [.blk db1 ([.slice (hd (some y8.a1)) y8.ls.length y8.c1, .map (some y8.mb), .bool y8.off, VI y8.armed, VI y8.part, VI y8.way, .slice (hd y8.fa) y8.fl.length y8.fc, VI y8.writes, VI y8.lives]) 86, .own (some y8.a1) y8.ls.length y8.c1 ((y8.ls).flatMap slE) 57 1, .obj y8.mb (mobj kI y8.M y8.mc), .own y8.fa y8.fl.length y8.fc ((y8.fl).map V8) 5 1]) (Lr := ([.own (some fb7) 512 512 ((wh ([(7 : UInt8)])).map V8) 5 1, .own (some b6) 1 1 (([(7 : UInt8)]).map V8) 5 1] : List Ch)) (T := y8.T) ((perm_front (j := 2) rfl).trans (.cons _ ((perm_front (j := 2) rfl).trans (.cons _ ((perm_front (j := 2) rfl).trans (.cons _ ((perm_front (j := 2) rfl).trans (.cons _ (.refl _)))))))))) hyo10 3) ?_)
  rintro _ w ⟨a12, n13, c14, rl15, rfl, hrn16, hr017, hr118, Hc⟩
  replace H := H.callT (L1' := [.own a12 n13 c14 ((rl15).map V8) 5 1, .blk db1 ([.slice (hd (some y8.a1)) y8.ls.length y8.c1, .map (some y8.mb), .bool y8.off, VI y8.armed, VI y8.part, VI y8.way, .slice (hd y8.fa) y8.fl.length y8.fc, VI y8.writes, VI y8.lives]) 86, .own (some y8.a1) y8.ls.length y8.c1 ((y8.ls).flatMap slE) 57 1, .obj y8.mb (mobj kI y8.M y8.mc), .own y8.fa y8.fl.length y8.fc ((y8.fl).map V8) 5 1]) (T' := y8.T) (L := [.own (some fb7) 512 512 ((wh ([(7 : UInt8)])).map V8) 5 1, .own (some b6) 1 1 (([(7 : UInt8)]).map V8) 5 1, .blk db1 ([.slice (hd (some y8.a1)) y8.ls.length y8.c1, .map (some y8.mb), .bool y8.off, VI y8.armed, VI y8.part, VI y8.way, .slice (hd y8.fa) y8.fl.length y8.fc, VI y8.writes, VI y8.lives]) 86, .own (some y8.a1) y8.ls.length y8.c1 ((y8.ls).flatMap slE) 57 1, .obj y8.mb (mobj kI y8.M y8.mc), .own y8.fa y8.fl.length y8.fc ((y8.fl).map V8) 5 1]) (L1 := [.blk db1 ([.slice (hd (some y8.a1)) y8.ls.length y8.c1, .map (some y8.mb), .bool y8.off, VI y8.armed, VI y8.part, VI y8.way, .slice (hd y8.fa) y8.fl.length y8.fc, VI y8.writes, VI y8.lives]) 86, .own (some y8.a1) y8.ls.length y8.c1 ((y8.ls).flatMap slE) 57 1, .obj y8.mb (mobj kI y8.M y8.mc), .own y8.fa y8.fl.length y8.fc ((y8.fl).map V8) 5 1]) (Lr := ([.own (some fb7) 512 512 ((wh ([(7 : UInt8)])).map V8) 5 1, .own (some b6) 1 1 (([(7 : UInt8)]).map V8) 5 1] : List Ch)) (T := y8.T) ((perm_front (j := 2) rfl).trans (.cons _ ((perm_front (j := 2) rfl).trans (.cons _ ((perm_front (j := 2) rfl).trans (.cons _ ((perm_front (j := 2) rfl).trans (.cons _ (.refl _))))))))) Hc ((perm_front (j := 2) rfl).trans (.cons _ (.refl _)))
  clear Hc
  replace H : Hp _ w _ (Ch.own a12 n13 c14 ((rl15).map V8) 5 1 :: Ch.own (some fb7) 512 512 ((wh ([(7 : UInt8)])).map V8) 5 1 :: Ch.own (some b6) 1 1 (([(7 : UInt8)]).map V8) 5 1 :: Ch.blk db1 ([.slice (hd (some y8.a1)) y8.ls.length y8.c1, .map (some y8.mb), .bool y8.off, VI y8.armed, VI y8.part, VI y8.way, .slice (hd y8.fa) y8.fl.length y8.fc, VI y8.writes, VI y8.lives]) 86 :: Ch.own (some y8.a1) y8.ls.length y8.c1 ((y8.ls).flatMap slE) 57 1 :: Ch.obj y8.mb (mobj kI y8.M y8.mc) :: Ch.own y8.fa y8.fl.length y8.fc ((y8.fl).map V8) 5 1 :: y8.T) := H
  refine l_op (o_val (r_mv) ?_)
  refine l_op (o_val (r_ext rfl rfl) ?_)
  refine l_op (o_val (r_ext rfl rfl) ?_)
  refine l_op (o_val (r_as) ?_)
  refine l_op (o_val (r_as) ?_)
  first | refine l_end ?_ | refine l_nil ?_
  have hm0 : dMay y8.abs 3 = 0 := by rw [hya9]; exact b5m
  have hr0 : rl15 = wh [7] := by rw [hr017 hm0, hya9]; exact b5r
  have hr1 : n13 = 512 := by rw [hrn16, hr0]; exact wh_len _
  repeat refine c_seq ?_
  refine c_region ?_
  refine l_op (o_val (r_mv) ?_)
  refine l_op (o_callR Try.func30 rfl rfl rfl (dlen_ret _ _ y8.ls.length y8.c1 y8.fl.length y8.fc (hd (some y8.a1)) (hd y8.fa) (some y8.mb) y8.off y8.armed y8.part y8.way y8.writes y8.lives (H.has _ (List.mem_of_getElem? (i := 3) rfl))) ?_)
  rintro _ w ⟨rfl, Hc⟩
  replace H := (H.callA (i := 3) rfl rfl rfl Hc)
  clear Hc
  replace H : Hp _ w _ (Ch.own a12 n13 c14 ((rl15).map V8) 5 1 :: Ch.own (some fb7) 512 512 ((wh ([(7 : UInt8)])).map V8) 5 1 :: Ch.own (some b6) 1 1 (([(7 : UInt8)]).map V8) 5 1 :: Ch.blk db1 ([.slice (hd (some y8.a1)) y8.ls.length y8.c1, .map (some y8.mb), .bool y8.off, VI y8.armed, VI y8.part, VI y8.way, .slice (hd y8.fa) y8.fl.length y8.fc, VI y8.writes, VI y8.lives]) 86 :: Ch.own (some y8.a1) y8.ls.length y8.c1 ((y8.ls).flatMap slE) 57 1 :: Ch.obj y8.mb (mobj kI y8.M y8.mc) :: Ch.own y8.fa y8.fl.length y8.fc ((y8.fl).map V8) 5 1 :: y8.T) := H
  refine l_op (o_val (r_bin (a := (y8.ls.length : Int)) (b := 32) rfl rfl (fun _ => b_eqlB true (decide_eq_true (by omega)))) ?_)
  refine l_op (o_val (r_mv) ?_)
  refine l_yes rfl rfl rfl (o_val (r_mv) ?_)
  refine l_yes rfl rfl rfl (o_val (r_bin (a := dWriteE z2.abs 3 (wh ([(7 : UInt8)]))) (b := 0) rfl rfl (fun _ => b_eqlB true (decide_eq_true (by rw [hza3]; exact b5w)))) ?_)
  refine l_op (o_val (r_pick rfl) ?_)
  refine l_op (o_val (r_mv) ?_)
  refine l_yes rfl rfl rfl (o_val (r_mv) ?_)
  refine l_yes rfl rfl rfl (o_val (r_bin (a := dMay y8.abs 3) (b := 0) rfl rfl (fun _ => b_eqlB true (decide_eq_true hm0))) ?_)
  refine l_op (o_val (r_pick rfl) ?_)
  refine l_op (o_val (r_mv) ?_)
  refine l_yes rfl rfl rfl (o_val (r_mv) ?_)
  refine l_yes rfl rfl rfl (o_val (r_lens el57 rfl) ?_)
  refine l_yes rfl rfl rfl (o_val (r_bin (a := (n13 : Int)) (b := 512) rfl rfl (fun _ => b_eqlB true (decide_eq_true (by omega)))) ?_)
  refine l_op (o_val (r_pick rfl) ?_)
  refine l_op (o_val (r_mv) ?_)
  refine l_yes rfl rfl rfl (o_val (r_mv) ?_)
  have ah20 := H.ownAddr (i := 0) rfl (by omega)
  obtain ⟨ab19, ah20⟩ := ah20
  refine l_yes rfl rfl rfl (o_val (r_isN 0 rfl rfl el57 ah20 (by omega) (by (try simp only [Sl.cut]); omega)) ?_)
  refine l_yes rfl rfl rfl (o_val (r_ldB (s := ⟨hd a12, n13, c14, rl15⟩) (k := 0) (H.slOwn (i := 0) rfl) ah20 rfl ct5 (by (try simp only []); omega)) ?_)
  refine l_yes rfl rfl rfl (o_val (r_bin (a := (((rl15).getD 0 0).toNat : Int)) (b := 7) rfl rfl (fun _ => b_eqlB true (decide_eq_true (by rw [hr0]; rfl)))) ?_)
  refine l_op (o_val (r_pick rfl) ?_)
  refine l_op (o_val (r_mv) ?_)
  refine l_yes rfl rfl rfl (o_callR Try.func28 rfl rfl rfl (dnew_no _ 31 (by omega)) ?_)
  rintro _ w ⟨rfl, Hc⟩
  replace H : Hp _ w _ (Ch.own a12 n13 c14 ((rl15).map V8) 5 1 :: Ch.own (some fb7) 512 512 ((wh ([(7 : UInt8)])).map V8) 5 1 :: Ch.own (some b6) 1 1 (([(7 : UInt8)]).map V8) 5 1 :: Ch.blk db1 ([.slice (hd (some y8.a1)) y8.ls.length y8.c1, .map (some y8.mb), .bool y8.off, VI y8.armed, VI y8.part, VI y8.way, .slice (hd y8.fa) y8.fl.length y8.fc, VI y8.writes, VI y8.lives]) 86 :: Ch.own (some y8.a1) y8.ls.length y8.c1 ((y8.ls).flatMap slE) 57 1 :: Ch.obj y8.mb (mobj kI y8.M y8.mc) :: Ch.own y8.fa y8.fl.length y8.fc ((y8.fl).map V8) 5 1 :: y8.T) := H.keep1 Hc
  clear Hc
  refine l_yes rfl rfl rfl (o_val (r_nilpp Try.underlying55 (by kernel_rfl) rfl rfl) ?_)
  refine l_op (o_val (r_pick rfl) ?_)
  refine l_op (o_val (r_mv) ?_)
  refine l_yes rfl rfl rfl (o_val (r_mv) ?_)
  refine l_yes rfl rfl rfl (o_callR Try.func46 rfl rfl rfl (dwrites_ret _ _ y8.ls.length y8.c1 y8.fl.length y8.fc (hd (some y8.a1)) (hd y8.fa) (some y8.mb) y8.off y8.armed y8.part y8.way y8.writes y8.lives (H.has _ (List.mem_of_getElem? (i := 3) rfl))) ?_)
  rintro _ w ⟨rfl, Hc⟩
  replace H := (H.callA (i := 3) rfl rfl rfl Hc)
  clear Hc
  replace H : Hp _ w _ (Ch.own a12 n13 c14 ((rl15).map V8) 5 1 :: Ch.own (some fb7) 512 512 ((wh ([(7 : UInt8)])).map V8) 5 1 :: Ch.own (some b6) 1 1 (([(7 : UInt8)]).map V8) 5 1 :: Ch.blk db1 ([.slice (hd (some y8.a1)) y8.ls.length y8.c1, .map (some y8.mb), .bool y8.off, VI y8.armed, VI y8.part, VI y8.way, .slice (hd y8.fa) y8.fl.length y8.fc, VI y8.writes, VI y8.lives]) 86 :: Ch.own (some y8.a1) y8.ls.length y8.c1 ((y8.ls).flatMap slE) 57 1 :: Ch.obj y8.mb (mobj kI y8.M y8.mc) :: Ch.own y8.fa y8.fl.length y8.fc ((y8.fl).map V8) 5 1 :: y8.T) := H
  refine l_yes rfl rfl rfl (o_val (r_bin (a := y8.writes) (b := 1) rfl rfl (fun _ => b_eqlB true (decide_eq_true ((congrArg DD.writes hya9).trans b5n)))) ?_)
  refine l_op (o_val (r_pick rfl) ?_)
  refine l_op (o_val (r_as) ?_)
  first | refine l_end ?_ | refine l_nil ?_
  refine c_ret ?_
  try dsimp only [Exit.then, Exit.inBlock]
  refine e_ret1 (v := .bool true) Try.results27 rfl ?_
  refine ⟨_, rfl, ?_⟩
  exact ⟨rfl, H.sub (List.nil_sublist _)⟩
end Go.Proofs.Ytncmcgcilijfkaa
namespace Go.Proofs.Ytncmcgcilijfkaa
open Go
set_option maxRecDepth 100000
theorem dNew_len {z : DW} {n : Nat} (h : z.abs = dNew n) : z.ls.length = n := by
  rw [← z.alen, h]; simp [dNew]
theorem dNew_may (n : Nat) (i : Int) : dMay (dNew n) i = if i < 0 ∨ (n : Int) ≤ i then 1 else 0 := by simp [dMay, dNew]
theorem dNew_read {n : Nat} {i : Int} (h0 : 0 ≤ i) (h1 : i < (n : Int)) : dRead (dNew n) i = wh [] := by
  rw [wh_nil, dRead]
  show (List.replicate n (List.replicate 512 0)).getD i.toNat [] = _
  rw [List.getD_eq_getElem?_getD, List.getElem?_replicate, if_pos (by omega)]; rfl
theorem dNew_wait (n : Nat) : dWaiting (dNew n) = [] := by simp [dWaiting, dNew]
theorem dNew_off {z : DW} {n : Nat} (h : z.abs = dNew n) : z.off = false := congrArg DD.off h
theorem diskSizes_ret (w0 : World) (n : Int) (hn : -9223372036854775808 ≤ n ∧ n ≤ 9223372036854775807) :
    Ret Try.prog 7 [VI n] w0 fun v w' => v = .bool true ∧ Hp w0 w' [] [] := by
  refine ret_mk Try.func7 rfl Try.ntmps7 (by simp) ?_
  have H := Hp.refl w0 []
  repeat refine c_seq ?_
  refine c_region ?_
  refine l_op (o_val (r_as) ?_)
  first | refine l_end ?_ | refine l_nil ?_
  repeat refine c_seq ?_
  refine c_region ?_
  refine l_op (o_callR Try.func27 rfl rfl rfl (begun5_ret _) ?_)
  rintro _ w ⟨rfl, Hc⟩
  replace H : Hp _ w _ ([]) := H.call Hc
  clear Hc
  refine l_op (o_val (r_not rfl) ?_)
  first | refine l_end ?_ | refine l_nil ?_
  repeat refine c_seq ?_
  refine c_no rfl ?_
  refine c_skip ?_
  repeat refine c_seq ?_
  refine c_region ?_
  refine l_op (o_val (r_mv) ?_)
  by_cases hc1 : n < 32 ∨ 4096 < n
  ·
   refine l_op (o_callR Try.func28 rfl rfl rfl (dnew_no _ n (by omega)) ?_)
   rintro _ w ⟨rfl, Hc⟩
   replace H : Hp _ w _ ([]) := H.call Hc
   clear Hc
   refine l_op (o_val (r_as) ?_)
   first | refine l_end ?_ | refine l_nil ?_
   repeat refine c_seq ?_
   refine c_region ?_
   refine l_op (o_val (r_mv) ?_)
   refine l_op (o_val (r_bin (a := n) (b := 32) rfl rfl (fun _ => b_lss)) ?_)
   refine l_op (o_val (r_mv) ?_)
   by_cases hc2 : n < 32
   ·
    refine l_no rfl rfl (by exact congrArg Value.bool (decide_eq_true hc2)) rfl ?_
    refine l_no rfl rfl (by exact congrArg Value.bool (decide_eq_true hc2)) rfl ?_
    refine l_op (o_val (r_pick (b := true) (congrArg Value.bool (decide_eq_true hc2))) ?_)
    first | refine l_end ?_ | refine l_nil ?_
    repeat refine c_seq ?_
    refine c_yes rfl ?_
    repeat refine c_seq ?_
    refine c_region ?_
    refine l_op (o_val (r_mv) ?_)
    refine l_op (o_val (r_nilpp Try.underlying55 (by kernel_rfl) rfl rfl) ?_)
    refine l_op (o_val (r_as) ?_)
    first | refine l_end ?_ | refine l_nil ?_
    refine c_ret ?_
    try dsimp only [Exit.then, Exit.inBlock]
    refine e_ret1 (v := .bool true) Try.results7 rfl ?_
    refine ⟨_, rfl, ?_⟩
    exact ⟨rfl, H.sub (List.nil_sublist _)⟩
   ·
    refine l_yes rfl rfl (by exact congrArg Value.bool (decide_eq_false hc2)) (o_val (r_mv) ?_)
    refine l_yes rfl rfl (by exact congrArg Value.bool (decide_eq_false hc2)) (o_val (r_bin (a := n) (b := 4096) rfl rfl (fun _ => b_gtrB true (decide_eq_true (by omega)))) ?_)
    refine l_op (o_val (r_pick (b := false) (congrArg Value.bool (decide_eq_false hc2))) ?_)
    first | refine l_end ?_ | refine l_nil ?_
    repeat refine c_seq ?_
    refine c_yes rfl ?_
    repeat refine c_seq ?_
    refine c_region ?_
    refine l_op (o_val (r_mv) ?_)
    refine l_op (o_val (r_nilpp Try.underlying55 (by kernel_rfl) rfl rfl) ?_)
    refine l_op (o_val (r_as) ?_)
    first | refine l_end ?_ | refine l_nil ?_
    refine c_ret ?_
    try dsimp only [Exit.then, Exit.inBlock]
    refine e_ret1 (v := .bool true) Try.results7 rfl ?_
    refine ⟨_, rfl, ?_⟩
    exact ⟨rfl, H.sub (List.nil_sublist _)⟩
  ·
   refine l_op (o_callR Try.func28 rfl rfl rfl (dnewI_ret _ n (by omega)) ?_)
   rintro _ w ⟨db3, z4, rfl, hza5, hzo6, hzt7, Hc⟩
   replace H : Hp _ w _ (Ch.blk db3 ([.slice (hd (some z4.a1)) z4.ls.length z4.c1, .map (some z4.mb), .bool z4.off, VI z4.armed, VI z4.part, VI z4.way, .slice (hd z4.fa) z4.fl.length z4.fc, VI z4.writes, VI z4.lives]) 86 :: Ch.own (some z4.a1) z4.ls.length z4.c1 ((z4.ls).flatMap slE) 57 1 :: Ch.obj z4.mb (mobj kI z4.M z4.mc) :: Ch.own z4.fa z4.fl.length z4.fc ((z4.fl).map V8) 5 1 :: z4.T) := H.call Hc
   clear Hc
   refine l_op (o_val (r_as) ?_)
   first | refine l_end ?_ | refine l_nil ?_
   repeat refine c_seq ?_
   refine c_region ?_
   refine l_op (o_val (r_mv) ?_)
   refine l_op (o_val (r_bin (a := n) (b := 32) rfl rfl (fun _ => b_lssB false (decide_eq_false (by omega)))) ?_)
   refine l_op (o_val (r_mv) ?_)
   refine l_yes rfl rfl rfl (o_val (r_mv) ?_)
   refine l_yes rfl rfl rfl (o_val (r_bin (a := n) (b := 4096) rfl rfl (fun _ => b_gtrB false (decide_eq_false (by omega)))) ?_)
   refine l_op (o_val (r_pick rfl) ?_)
   first | refine l_end ?_ | refine l_nil ?_
   repeat refine c_seq ?_
   refine c_no rfl ?_
   refine c_skip ?_
   have hln := dNew_len hza5
   have hof := dNew_off hza5
   have hm1 : dMay z4.abs (n - 1) = 0 := by rw [hza5, dNew_may, if_neg (by omega)]
   have hm2 : dMay z4.abs n = 1 := by rw [hza5, dNew_may, if_pos (by omega)]
   have hr1 : dRead z4.abs (n - 1) = wh [] := by rw [hza5]; exact dNew_read (by omega) (by omega)
   have hwt : dWaiting z4.abs = [] := by rw [hza5]; exact dNew_wait _
   repeat refine c_seq ?_
   refine c_region ?_
   refine l_op (o_val (r_mv) ?_)
   refine l_op (o_val (r_mv) ?_)
   refine l_op (o_val (r_bin (a := n) (b := 1) rfl rfl (fun _ => b_sub (by omega) (by omega))) ?_)
   refine l_op (o_callR Try.func29 rfl rfl rfl (dread_ret _ db3 z4 (H.ownT (L := [.blk db3 ([.slice (hd (some z4.a1)) z4.ls.length z4.c1, .map (some z4.mb), .bool z4.off, VI z4.armed, VI z4.part, VI z4.way, .slice (hd z4.fa) z4.fl.length z4.fc, VI z4.writes, VI z4.lives]) 86, .own (some z4.a1) z4.ls.length z4.c1 ((z4.ls).flatMap slE) 57 1, .obj z4.mb (mobj kI z4.M z4.mc), .own z4.fa z4.fl.length z4.fc ((z4.fl).map V8) 5 1]) (L1 := [.blk db3 ([.slice (hd (some z4.a1)) z4.ls.length z4.c1, .map (some z4.mb), .bool z4.off, VI z4.armed, VI z4.part, VI z4.way, .slice (hd z4.fa) z4.fl.length z4.fc, VI z4.writes, VI z4.lives]) 86, .own (some z4.a1) z4.ls.length z4.c1 ((z4.ls).flatMap slE) 57 1, .obj z4.mb (mobj kI z4.M z4.mc), .own z4.fa z4.fl.length z4.fc ((z4.fl).map V8) 5 1]) (Lr := ([] : List Ch)) (T := z4.T) (.refl _)) hzo6 (n - 1)) ?_)
   rintro _ w ⟨a8, n9, c10, rl11, rfl, hrn12, hr013, hr114, Hc⟩
   replace H := H.callT (L1' := [.own a8 n9 c10 ((rl11).map V8) 5 1, .blk db3 ([.slice (hd (some z4.a1)) z4.ls.length z4.c1, .map (some z4.mb), .bool z4.off, VI z4.armed, VI z4.part, VI z4.way, .slice (hd z4.fa) z4.fl.length z4.fc, VI z4.writes, VI z4.lives]) 86, .own (some z4.a1) z4.ls.length z4.c1 ((z4.ls).flatMap slE) 57 1, .obj z4.mb (mobj kI z4.M z4.mc), .own z4.fa z4.fl.length z4.fc ((z4.fl).map V8) 5 1]) (T' := z4.T) (L := [.blk db3 ([.slice (hd (some z4.a1)) z4.ls.length z4.c1, .map (some z4.mb), .bool z4.off, VI z4.armed, VI z4.part, VI z4.way, .slice (hd z4.fa) z4.fl.length z4.fc, VI z4.writes, VI z4.lives]) 86, .own (some z4.a1) z4.ls.length z4.c1 ((z4.ls).flatMap slE) 57 1, .obj z4.mb (mobj kI z4.M z4.mc), .own z4.fa z4.fl.length z4.fc ((z4.fl).map V8) 5 1]) (L1 := [.blk db3 ([.slice (hd (some z4.a1)) z4.ls.length z4.c1, .map (some z4.mb), .bool z4.off, VI z4.armed, VI z4.part, VI z4.way, .slice (hd z4.fa) z4.fl.length z4.fc, VI z4.writes, VI z4.lives]) 86, .own (some z4.a1) z4.ls.length z4.c1 ((z4.ls).flatMap slE) 57 1, .obj z4.mb (mobj kI z4.M z4.mc), .own z4.fa z4.fl.length z4.fc ((z4.fl).map V8) 5 1]) (Lr := ([] : List Ch)) (T := z4.T) (.refl _) Hc (.refl _)
   clear Hc
   replace H : Hp _ w _ (Ch.own a8 n9 c10 ((rl11).map V8) 5 1 :: Ch.blk db3 ([.slice (hd (some z4.a1)) z4.ls.length z4.c1, .map (some z4.mb), .bool z4.off, VI z4.armed, VI z4.part, VI z4.way, .slice (hd z4.fa) z4.fl.length z4.fc, VI z4.writes, VI z4.lives]) 86 :: Ch.own (some z4.a1) z4.ls.length z4.c1 ((z4.ls).flatMap slE) 57 1 :: Ch.obj z4.mb (mobj kI z4.M z4.mc) :: Ch.own z4.fa z4.fl.length z4.fc ((z4.fl).map V8) 5 1 :: z4.T) := H
   refine l_op (o_val (r_mv) ?_)
   refine l_op (o_val (r_ext rfl rfl) ?_)
   refine l_op (o_val (r_ext rfl rfl) ?_)
   refine l_op (o_val (r_as) ?_)
   refine l_op (o_val (r_as) ?_)
   first | refine l_end ?_ | refine l_nil ?_
   repeat refine c_seq ?_
   refine c_region ?_
   refine l_op (o_val (r_mv) ?_)
   refine l_op (o_val (r_mv) ?_)
   refine l_op (o_callR Try.func29 rfl rfl rfl (dread_ret _ db3 z4 (H.ownT (L := [.own a8 n9 c10 ((rl11).map V8) 5 1, .blk db3 ([.slice (hd (some z4.a1)) z4.ls.length z4.c1, .map (some z4.mb), .bool z4.off, VI z4.armed, VI z4.part, VI z4.way, .slice (hd z4.fa) z4.fl.length z4.fc, VI z4.writes, VI z4.lives]) 86, .own (some z4.a1) z4.ls.length z4.c1 ((z4.ls).flatMap slE) 57 1, .obj z4.mb (mobj kI z4.M z4.mc), .own z4.fa z4.fl.length z4.fc ((z4.fl).map V8) 5 1]) (L1 := [.blk db3 ([.slice (hd (some z4.a1)) z4.ls.length z4.c1, .map (some z4.mb), .bool z4.off, VI z4.armed, VI z4.part, VI z4.way, .slice (hd z4.fa) z4.fl.length z4.fc, VI z4.writes, VI z4.lives]) 86, .own (some z4.a1) z4.ls.length z4.c1 ((z4.ls).flatMap slE) 57 1, .obj z4.mb (mobj kI z4.M z4.mc), .own z4.fa z4.fl.length z4.fc ((z4.fl).map V8) 5 1]) (Lr := ([.own a8 n9 c10 ((rl11).map V8) 5 1] : List Ch)) (T := z4.T) ((perm_front (j := 1) rfl).trans (.cons _ ((perm_front (j := 1) rfl).trans (.cons _ ((perm_front (j := 1) rfl).trans (.cons _ ((perm_front (j := 1) rfl).trans (.cons _ (.refl _)))))))))) hzo6 n) ?_)
   rintro _ w ⟨a15, n16, c17, rl18, rfl, hrn19, hr020, hr121, Hc⟩
   replace H := H.callT (L1' := [.own a15 n16 c17 ((rl18).map V8) 5 1, .blk db3 ([.slice (hd (some z4.a1)) z4.ls.length z4.c1, .map (some z4.mb), .bool z4.off, VI z4.armed, VI z4.part, VI z4.way, .slice (hd z4.fa) z4.fl.length z4.fc, VI z4.writes, VI z4.lives]) 86, .own (some z4.a1) z4.ls.length z4.c1 ((z4.ls).flatMap slE) 57 1, .obj z4.mb (mobj kI z4.M z4.mc), .own z4.fa z4.fl.length z4.fc ((z4.fl).map V8) 5 1]) (T' := z4.T) (L := [.own a8 n9 c10 ((rl11).map V8) 5 1, .blk db3 ([.slice (hd (some z4.a1)) z4.ls.length z4.c1, .map (some z4.mb), .bool z4.off, VI z4.armed, VI z4.part, VI z4.way, .slice (hd z4.fa) z4.fl.length z4.fc, VI z4.writes, VI z4.lives]) 86, .own (some z4.a1) z4.ls.length z4.c1 ((z4.ls).flatMap slE) 57 1, .obj z4.mb (mobj kI z4.M z4.mc), .own z4.fa z4.fl.length z4.fc ((z4.fl).map V8) 5 1]) (L1 := [.blk db3 ([.slice (hd (some z4.a1)) z4.ls.length z4.c1, .map (some z4.mb), .bool z4.off, VI z4.armed, VI z4.part, VI z4.way, .slice (hd z4.fa) z4.fl.length z4.fc, VI z4.writes, VI z4.lives]) 86, .own (some z4.a1) z4.ls.length z4.c1 ((z4.ls).flatMap slE) 57 1, .obj z4.mb (mobj kI z4.M z4.mc), .own z4.fa z4.fl.length z4.fc ((z4.fl).map V8) 5 1]) (Lr := ([.own a8 n9 c10 ((rl11).map V8) 5 1] : List Ch)) (T := z4.T) ((perm_front (j := 1) rfl).trans (.cons _ ((perm_front (j := 1) rfl).trans (.cons _ ((perm_front (j := 1) rfl).trans (.cons _ ((perm_front (j := 1) rfl).trans (.cons _ (.refl _))))))))) Hc ((perm_front (j := 1) rfl).trans (.cons _ (.refl _)))
   clear Hc
   replace H : Hp _ w _ (Ch.own a15 n16 c17 ((rl18).map V8) 5 1 :: Ch.own a8 n9 c10 ((rl11).map V8) 5 1 :: Ch.blk db3 ([.slice (hd (some z4.a1)) z4.ls.length z4.c1, .map (some z4.mb), .bool z4.off, VI z4.armed, VI z4.part, VI z4.way, .slice (hd z4.fa) z4.fl.length z4.fc, VI z4.writes, VI z4.lives]) 86 :: Ch.own (some z4.a1) z4.ls.length z4.c1 ((z4.ls).flatMap slE) 57 1 :: Ch.obj z4.mb (mobj kI z4.M z4.mc) :: Ch.own z4.fa z4.fl.length z4.fc ((z4.fl).map V8) 5 1 :: z4.T) := H
   refine l_op (o_val (r_mv) ?_)
   refine l_op (o_val (r_ext rfl rfl) ?_)
   refine l_op (o_val (r_ext rfl rfl) ?_)
   refine l_op (o_val (r_as) ?_)
   refine l_op (o_val (r_as) ?_)
   first | refine l_end ?_ | refine l_nil ?_
   repeat refine c_seq ?_
   refine wp_held (fun w => Hp w0 w [] [.own a15 n16 c17 ((rl18).map V8) 5 1, .own a8 n9 c10 ((rl11).map V8) 5 1, .blk db3 ([.slice (hd (some z4.a1)) z4.ls.length z4.c1, .map (some z4.mb), .bool z4.off, VI z4.armed, VI z4.part, VI z4.way, .slice (hd z4.fa) z4.fl.length z4.fc, VI z4.writes, VI z4.lives]) 86, .own (some z4.a1) z4.ls.length z4.c1 ((z4.ls).flatMap slE) 57 1, .obj z4.mb (mobj kI z4.M z4.mc), .own z4.fa z4.fl.length z4.fc ((z4.fl).map V8) 5 1]) mixed ?_
   replace H := H.drew
   have HS := H.sub (.cons_cons _ (.cons_cons _ (.cons_cons _ (.cons_cons _ (.cons_cons _ (.cons_cons _ (List.nil_sublist _)))))))
   refine t_take 0 rfl (by kernel_rfl) (by kernel_rfl) (by kernel_rfl) (fun _ _ _ h => h) (fun w HS => r_mv) HS ?_
   refine t_take 2 rfl (by kernel_rfl) (by kernel_rfl) (by kernel_rfl) (fun _ _ _ h => h) (fun w HS => r_mv) HS ?_
   refine t_step 1 rfl (by kernel_rfl) (o_callR Try.func30 rfl rfl rfl (dlen_ret _ _ z4.ls.length z4.c1 z4.fl.length z4.fc (hd (some z4.a1)) (hd z4.fa) (some z4.mb) z4.off z4.armed z4.part z4.way z4.writes z4.lives (H.has _ (List.mem_of_getElem? (i := 2) rfl))) ?_)
   rintro _ w ⟨rfl, Hc⟩
   replace H := (H.callA (i := 2) rfl rfl rfl Hc)
   clear Hc
   replace H : Hp _ w _ (Ch.own a15 n16 c17 ((rl18).map V8) 5 1 :: Ch.own a8 n9 c10 ((rl11).map V8) 5 1 :: Ch.blk db3 ([.slice (hd (some z4.a1)) z4.ls.length z4.c1, .map (some z4.mb), .bool z4.off, VI z4.armed, VI z4.part, VI z4.way, .slice (hd z4.fa) z4.fl.length z4.fc, VI z4.writes, VI z4.lives]) 86 :: Ch.own (some z4.a1) z4.ls.length z4.c1 ((z4.ls).flatMap slE) 57 1 :: Ch.obj z4.mb (mobj kI z4.M z4.mc) :: Ch.own z4.fa z4.fl.length z4.fc ((z4.fl).map V8) 5 1 :: z4.T) := H
   refine ⟨H.sub (.cons_cons _ (.cons_cons _ (.cons_cons _ (.cons_cons _ (.cons_cons _ (.cons_cons _ (List.nil_sublist _))))))), ?_⟩
   replace HS := H.sub (.cons_cons _ (.cons_cons _ (.cons_cons _ (.cons_cons _ (.cons_cons _ (.cons_cons _ (List.nil_sublist _)))))))
   refine t_take 3 rfl (by kernel_rfl) (by kernel_rfl) (by kernel_rfl) (fun _ _ _ h => h) (fun w HS => r_bin (a := (z4.ls.length : Int)) (b := n) rfl rfl (fun _ => b_eqlB true (decide_eq_true (by omega)))) HS ?_
   refine t_take 4 rfl (by kernel_rfl) (by kernel_rfl) (by kernel_rfl) (fun _ _ _ h => h) (fun w HS => r_mv) HS ?_
   refine t_takeg 5 rfl (by kernel_rfl) (by kernel_rfl) (by kernel_rfl) (fun _ _ _ h => h) (yielded_mk _ _ _ rfl _ rfl rfl) (fun w HS => r_mv) HS ?_
   refine t_takeg 6 rfl (by kernel_rfl) (by kernel_rfl) (by kernel_rfl) (fun _ _ _ h => h) (yielded_mk _ _ _ rfl _ rfl rfl) (fun w HS => r_bin (a := dMay z4.abs (n - 1)) (b := 0) rfl rfl (fun _ => b_eqlB true (decide_eq_true hm1))) HS ?_
   refine t_take 7 rfl (by kernel_rfl) (by kernel_rfl) (by kernel_rfl) (fun _ _ _ h => h) (fun w HS => r_pick rfl) HS ?_
   refine t_take 8 rfl (by kernel_rfl) (by kernel_rfl) (by kernel_rfl) (fun _ _ _ h => h) (fun w HS => r_mv) HS ?_
   refine t_takeg 9 rfl (by kernel_rfl) (by kernel_rfl) (by kernel_rfl) (fun _ _ _ h => h) (yielded_mk _ _ _ rfl _ rfl rfl) (fun w HS => r_mv) HS ?_
   refine t_takeg 10 rfl (by kernel_rfl) (by kernel_rfl) (by kernel_rfl) (fun _ _ _ h => h) (yielded_mk _ _ _ rfl _ rfl rfl) (fun w HS => r_b2S (s := ⟨hd a8, n9, c10, rl11⟩) Try.underlying57 Try.underlying5 Try.underlying9 rfl (HS.slOwn (i := 1) rfl)) HS ?_
   refine t_stepg 11 rfl (by kernel_rfl) (yielded_mk _ _ _ rfl _ rfl rfl) (o_callR Try.func31 rfl rfl rfl (full_ret _ ⟨none, 0, 0, []⟩ (Sl.ok_nil _)) ?_)
   rintro _ w ⟨fb22, rfl, Hc⟩
   replace H : Hp _ w _ (Ch.own (some fb22) 512 512 ((wh ([] : List UInt8)).map V8) 5 1 :: Ch.own a15 n16 c17 ((rl18).map V8) 5 1 :: Ch.own a8 n9 c10 ((rl11).map V8) 5 1 :: Ch.blk db3 ([.slice (hd (some z4.a1)) z4.ls.length z4.c1, .map (some z4.mb), .bool z4.off, VI z4.armed, VI z4.part, VI z4.way, .slice (hd z4.fa) z4.fl.length z4.fc, VI z4.writes, VI z4.lives]) 86 :: Ch.own (some z4.a1) z4.ls.length z4.c1 ((z4.ls).flatMap slE) 57 1 :: Ch.obj z4.mb (mobj kI z4.M z4.mc) :: Ch.own z4.fa z4.fl.length z4.fc ((z4.fl).map V8) 5 1 :: z4.T) := (H.call Hc).rot
   clear Hc
   refine ⟨H.sub (.cons _ (.cons_cons _ (.cons_cons _ (.cons_cons _ (.cons_cons _ (.cons_cons _ (.cons_cons _ (List.nil_sublist _)))))))), ?_⟩
   replace HS := H.sub (.cons _ (.cons_cons _ (.cons_cons _ (.cons_cons _ (.cons_cons _ (.cons_cons _ (.cons_cons _ (List.nil_sublist _))))))))
   refine t_stepg 12 rfl (by kernel_rfl) (yielded_mk _ _ _ rfl _ rfl rfl) (o_val (r_b2S (s := ⟨hd (some fb22), 512, 512, wh ([] : List UInt8)⟩) Try.underlying57 Try.underlying5 Try.underlying9 rfl (H.slOwn (i := 0) rfl)) ?_)
   refine ⟨H.sub (.cons _ (.cons_cons _ (.cons_cons _ (.cons_cons _ (.cons_cons _ (.cons_cons _ (.cons_cons _ (List.nil_sublist _)))))))), ?_⟩
   replace HS := H.sub (.cons _ (.cons_cons _ (.cons_cons _ (.cons_cons _ (.cons_cons _ (.cons_cons _ (.cons_cons _ (List.nil_sublist _))))))))
   refine t_takeg 13 rfl (by kernel_rfl) (by kernel_rfl) (by kernel_rfl) (fun _ _ _ h => h) (yielded_mk _ _ _ rfl _ rfl rfl) (fun w HS => r_streq (a := rl11) (b := wh ([] : List UInt8)) rfl rfl) HS ?_
   have hk23 : (decide (rl11 = wh ([] : List UInt8))) = true := decide_eq_true (by rw [hr013 hm1, hr1])
   refine t_take 14 rfl (by kernel_rfl) (by kernel_rfl) (by kernel_rfl) (fun _ _ _ h => h) (fun w HS => r_pick rfl) HS ?_
   refine t_take 15 rfl (by kernel_rfl) (by kernel_rfl) (by kernel_rfl) (fun _ _ _ h => h) (fun w HS => r_mv) HS ?_
   refine t_takeg 16 rfl (by kernel_rfl) (by kernel_rfl) (by kernel_rfl) (fun _ _ _ h => h) (yielded_mk _ _ _ rfl _ rfl (by exact congrArg Value.bool hk23)) (fun w HS => r_mv) HS ?_
   refine t_takeg 17 rfl (by kernel_rfl) (by kernel_rfl) (by kernel_rfl) (fun _ _ _ h => h) (yielded_mk _ _ _ rfl _ rfl (by exact congrArg Value.bool hk23)) (fun w HS => r_bin (a := dMay z4.abs n) (b := 1) rfl rfl (fun _ => b_eqlB true (decide_eq_true hm2))) HS ?_
   refine t_take 18 rfl (by kernel_rfl) (by kernel_rfl) (by kernel_rfl) (fun _ _ _ h => h) (fun w HS => r_pick (b := true) (congrArg Value.bool hk23)) HS ?_
   refine t_take 19 rfl (by kernel_rfl) (by kernel_rfl) (by kernel_rfl) (fun _ _ _ h => h) (fun w HS => r_mv) HS ?_
   refine t_takeg 20 rfl (by kernel_rfl) (by kernel_rfl) (by kernel_rfl) (fun _ _ _ h => h) (yielded_mk _ _ _ rfl _ rfl rfl) (fun w HS => r_mv) HS ?_
   refine t_stepg 21 rfl (by kernel_rfl) (yielded_mk _ _ _ rfl _ rfl rfl) (o_callR Try.func32 rfl rfl rfl (ddead_ret _ _ z4.ls.length z4.c1 z4.fl.length z4.fc (hd (some z4.a1)) (hd z4.fa) (some z4.mb) z4.off z4.armed z4.part z4.way z4.writes z4.lives (by omega) (H.has _ (List.mem_of_getElem? (i := 3) rfl))) ?_)
   rintro _ w ⟨rfl, Hc⟩
   replace H := (H.callA (i := 3) rfl rfl rfl Hc)
   clear Hc
   replace H : Hp _ w _ (Ch.own (some fb22) 512 512 ((wh ([] : List UInt8)).map V8) 5 1 :: Ch.own a15 n16 c17 ((rl18).map V8) 5 1 :: Ch.own a8 n9 c10 ((rl11).map V8) 5 1 :: Ch.blk db3 ([.slice (hd (some z4.a1)) z4.ls.length z4.c1, .map (some z4.mb), .bool z4.off, VI z4.armed, VI z4.part, VI z4.way, .slice (hd z4.fa) z4.fl.length z4.fc, VI z4.writes, VI z4.lives]) 86 :: Ch.own (some z4.a1) z4.ls.length z4.c1 ((z4.ls).flatMap slE) 57 1 :: Ch.obj z4.mb (mobj kI z4.M z4.mc) :: Ch.own z4.fa z4.fl.length z4.fc ((z4.fl).map V8) 5 1 :: z4.T) := H
   refine ⟨H.sub (.cons _ (.cons_cons _ (.cons_cons _ (.cons_cons _ (.cons_cons _ (.cons_cons _ (.cons_cons _ (List.nil_sublist _)))))))), ?_⟩
   replace HS := H.sub (.cons _ (.cons_cons _ (.cons_cons _ (.cons_cons _ (.cons_cons _ (.cons_cons _ (.cons_cons _ (List.nil_sublist _))))))))
   refine t_takeg 22 rfl (by kernel_rfl) (by kernel_rfl) (by kernel_rfl) (fun _ _ _ h => h) (yielded_mk _ _ _ rfl _ rfl rfl) (fun w HS => r_not rfl) HS ?_
   have hk24 : (!z4.off) = true := (by rw [hof]; rfl)
   refine t_take 23 rfl (by kernel_rfl) (by kernel_rfl) (by kernel_rfl) (fun _ _ _ h => h) (fun w HS => r_pick rfl) HS ?_
   refine t_take 24 rfl (by kernel_rfl) (by kernel_rfl) (by kernel_rfl) (fun _ _ _ h => h) (fun w HS => r_mv) HS ?_
   refine t_takeg 25 rfl (by kernel_rfl) (by kernel_rfl) (by kernel_rfl) (fun _ _ _ h => h) (yielded_mk _ _ _ rfl _ rfl (by exact congrArg Value.bool hk24)) (fun w HS => r_mv) HS ?_
   refine t_stepg 26 rfl (by kernel_rfl) (yielded_mk _ _ _ rfl _ rfl (by exact congrArg Value.bool hk24)) (o_callR Try.func33 rfl rfl rfl (dwaiting_ret _ db3 z4 (H.ownT (L := [.own (some fb22) 512 512 ((wh ([] : List UInt8)).map V8) 5 1, .own a15 n16 c17 ((rl18).map V8) 5 1, .own a8 n9 c10 ((rl11).map V8) 5 1, .blk db3 ([.slice (hd (some z4.a1)) z4.ls.length z4.c1, .map (some z4.mb), .bool z4.off, VI z4.armed, VI z4.part, VI z4.way, .slice (hd z4.fa) z4.fl.length z4.fc, VI z4.writes, VI z4.lives]) 86, .own (some z4.a1) z4.ls.length z4.c1 ((z4.ls).flatMap slE) 57 1, .obj z4.mb (mobj kI z4.M z4.mc), .own z4.fa z4.fl.length z4.fc ((z4.fl).map V8) 5 1]) (L1 := [.blk db3 ([.slice (hd (some z4.a1)) z4.ls.length z4.c1, .map (some z4.mb), .bool z4.off, VI z4.armed, VI z4.part, VI z4.way, .slice (hd z4.fa) z4.fl.length z4.fc, VI z4.writes, VI z4.lives]) 86, .own (some z4.a1) z4.ls.length z4.c1 ((z4.ls).flatMap slE) 57 1, .obj z4.mb (mobj kI z4.M z4.mc), .own z4.fa z4.fl.length z4.fc ((z4.fl).map V8) 5 1]) (Lr := ([.own (some fb22) 512 512 ((wh ([] : List UInt8)).map V8) 5 1, .own a15 n16 c17 ((rl18).map V8) 5 1, .own a8 n9 c10 ((rl11).map V8) 5 1] : List Ch)) (T := z4.T) ((perm_front (j := 3) rfl).trans (.cons _ ((perm_front (j := 3) rfl).trans (.cons _ ((perm_front (j := 3) rfl).trans (.cons _ ((perm_front (j := 3) rfl).trans (.cons _ (.refl _)))))))))) hzo6) ?_)
   rintro _ w ⟨a25, c26, rfl, Hc⟩
   replace H := H.callT (L1' := [.own a25 ((dWaiting z4.abs).length) c26 ((dWaiting z4.abs).flatMap intE) 3 1, .blk db3 ([.slice (hd (some z4.a1)) z4.ls.length z4.c1, .map (some z4.mb), .bool z4.off, VI z4.armed, VI z4.part, VI z4.way, .slice (hd z4.fa) z4.fl.length z4.fc, VI z4.writes, VI z4.lives]) 86, .own (some z4.a1) z4.ls.length z4.c1 ((z4.ls).flatMap slE) 57 1, .obj z4.mb (mobj kI z4.M z4.mc), .own z4.fa z4.fl.length z4.fc ((z4.fl).map V8) 5 1]) (T' := z4.T) (L := [.own (some fb22) 512 512 ((wh ([] : List UInt8)).map V8) 5 1, .own a15 n16 c17 ((rl18).map V8) 5 1, .own a8 n9 c10 ((rl11).map V8) 5 1, .blk db3 ([.slice (hd (some z4.a1)) z4.ls.length z4.c1, .map (some z4.mb), .bool z4.off, VI z4.armed, VI z4.part, VI z4.way, .slice (hd z4.fa) z4.fl.length z4.fc, VI z4.writes, VI z4.lives]) 86, .own (some z4.a1) z4.ls.length z4.c1 ((z4.ls).flatMap slE) 57 1, .obj z4.mb (mobj kI z4.M z4.mc), .own z4.fa z4.fl.length z4.fc ((z4.fl).map V8) 5 1]) (L1 := [.blk db3 ([.slice (hd (some z4.a1)) z4.ls.length z4.c1, .map (some z4.mb), .bool z4.off, VI z4.armed, VI z4.part, VI z4.way, .slice (hd z4.fa) z4.fl.length z4.fc, VI z4.writes, VI z4.lives]) 86, .own (some z4.a1) z4.ls.length z4.c1 ((z4.ls).flatMap slE) 57 1, .obj z4.mb (mobj kI z4.M z4.mc), .own z4.fa z4.fl.length z4.fc ((z4.fl).map V8) 5 1]) (Lr := ([.own (some fb22) 512 512 ((wh ([] : List UInt8)).map V8) 5 1, .own a15 n16 c17 ((rl18).map V8) 5 1, .own a8 n9 c10 ((rl11).map V8) 5 1] : List Ch)) (T := z4.T) ((perm_front (j := 3) rfl).trans (.cons _ ((perm_front (j := 3) rfl).trans (.cons _ ((perm_front (j := 3) rfl).trans (.cons _ ((perm_front (j := 3) rfl).trans (.cons _ (.refl _))))))))) Hc ((perm_front (j := 3) rfl).trans (.cons _ (.refl _)))
   clear Hc
   replace H : Hp _ w _ (Ch.own a25 ((dWaiting z4.abs).length) c26 ((dWaiting z4.abs).flatMap intE) 3 1 :: Ch.own (some fb22) 512 512 ((wh ([] : List UInt8)).map V8) 5 1 :: Ch.own a15 n16 c17 ((rl18).map V8) 5 1 :: Ch.own a8 n9 c10 ((rl11).map V8) 5 1 :: Ch.blk db3 ([.slice (hd (some z4.a1)) z4.ls.length z4.c1, .map (some z4.mb), .bool z4.off, VI z4.armed, VI z4.part, VI z4.way, .slice (hd z4.fa) z4.fl.length z4.fc, VI z4.writes, VI z4.lives]) 86 :: Ch.own (some z4.a1) z4.ls.length z4.c1 ((z4.ls).flatMap slE) 57 1 :: Ch.obj z4.mb (mobj kI z4.M z4.mc) :: Ch.own z4.fa z4.fl.length z4.fc ((z4.fl).map V8) 5 1 :: z4.T) := H
   refine ⟨H.sub (.cons _ (.cons _ (.cons_cons _ (.cons_cons _ (.cons_cons _ (.cons_cons _ (.cons_cons _ (.cons_cons _ (List.nil_sublist _))))))))), ?_⟩
   replace HS := H.sub (.cons _ (.cons _ (.cons_cons _ (.cons_cons _ (.cons_cons _ (.cons_cons _ (.cons_cons _ (.cons_cons _ (List.nil_sublist _)))))))))
   refine t_takeg 27 rfl (by kernel_rfl) (by kernel_rfl) (by kernel_rfl) (fun _ _ _ h => h) (yielded_mk _ _ _ rfl _ rfl (by exact congrArg Value.bool hk24)) (fun w HS => r_lens el62 rfl) HS ?_
   refine t_takeg 28 rfl (by kernel_rfl) (by kernel_rfl) (by kernel_rfl) (fun _ _ _ h => h) (yielded_mk _ _ _ rfl _ rfl (by exact congrArg Value.bool hk24)) (fun w HS => r_bin (a := (((dWaiting z4.abs).length : Nat) : Int)) (b := 0) rfl rfl (fun _ => b_eqlB true (decide_eq_true (by rw [hwt]; rfl)))) HS ?_
   refine t_take 29 rfl (by kernel_rfl) (by kernel_rfl) (by kernel_rfl) (fun _ _ _ h => h) (fun w HS => r_pick (b := true) (congrArg Value.bool hk24)) HS ?_
   refine t_take 30 rfl (by kernel_rfl) (by kernel_rfl) (by kernel_rfl) (fun _ _ _ h => h) (fun w HS => r_as) HS ?_
   refine t_done (by kernel_rfl) ?_
   clear HS
   refine c_ret ?_
   try dsimp only [Exit.then, Exit.inBlock]
   refine e_ret1 (v := .bool true) Try.results7 rfl ?_
   refine ⟨_, rfl, ?_⟩
   exact ⟨rfl, H.sub (List.nil_sublist _)⟩
end Go.Proofs.Ytncmcgcilijfkaa
