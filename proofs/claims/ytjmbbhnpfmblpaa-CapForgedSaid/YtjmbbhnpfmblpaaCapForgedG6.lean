/- Lemmas for the statement CapForged, part 6: rules of operations, walks through functions, plain laws. -/
import Derived.Test.YtjmbbhnpfmblpaaCapForgedG5
namespace Go.Proofs.Ytjmbbhnpfmblpaa
open Go
set_option maxRecDepth 100000
theorem effect14_ret (w0 : World) (t : Tok) (hc : t.cs.ok cavE 2 w0) (_htag : t.tag.length = 32) :
    Ret Try.prog 73 [.agg ([V64 t.serial, .string ⟨(t.tenant).toArray⟩, V8 t.rights, VI t.from_, VI t.until_, t.cs.v] ++ (t.tag).map V8).toArray] w0 fun v w' => v = .tuple #[V8 (effF t.rights t.until_ t.cs.l).1, VI (effF t.rights t.until_ t.cs.l).2] ∧ Hp w0 w' [] [] := by
  refine ret_mk Try.func73 rfl Try.ntmps73 (by simp) ?_
  have H := Hp.refl w0 []
  have hxl := hc.le
  have hxm := hc.mx
  have hmL : maxLen = 9223372036854775807 := rfl
  repeat refine c_seq ?_
  refine c_region ?_
  refine l_op (o_box (v := .agg ([V64 t.serial, .string ⟨(t.tenant).toArray⟩, V8 t.rights, VI t.from_, VI t.until_, t.cs.v] ++ (t.tag).map V8).toArray) H rfl (fun b1 w H hb1 => ?_))
  replace H : Hp _ w _ ([.blk b1 ([V64 t.serial, .string ⟨(t.tenant).toArray⟩, V8 t.rights, VI t.from_, VI t.until_, t.cs.v] ++ (t.tag).map V8) 76]) := H
  refine l_op (o_val (r_asV (c8 0 (by decide))) ?_)
  refine l_op (o_val (r_as) ?_)
  first | refine l_end ?_ | refine l_nil ?_
  repeat refine c_seq ?_
  refine c_still mixed (by kernel_rfl) ?_
  replace H := H.drew
  refine s_op (r_fa rfl fo76_2) ?_
  refine s_op (r_ld (v := V8 t.rights) H (i := 0) rfl rfl ct73 rfl) ?_
  refine s_op (r_fa rfl fo76_4) ?_
  refine s_op (r_ld (v := VI t.until_) H (i := 0) rfl rfl ct2 rfl) ?_
  refine s_op (r_as) ?_
  refine s_op (r_as) ?_
  refine s_nil ?_
  repeat refine c_seq ?_
  refine c_region ?_
  refine l_op (o_val (r_as) ?_)
  first | refine l_end ?_ | refine l_nil ?_
  repeat refine c_seq ?_
  refine c_block ?_
  repeat refine c_seq ?_
  refine c_loop (fun (i : Nat) => [(1, .pointer (some ⟨b1, 0, none⟩)), (4, V8 ((effF t.rights t.until_ (t.cs.l.take i)).1)), (5, VI ((effF t.rights t.until_ (t.cs.l.take i)).2)), (6, VI (i : Int))])
    (fun (i : Nat) w => (i ≤ t.cs.len) ∧ Hp w0 w [] ([.blk b1 ([V64 t.serial, .string ⟨(t.tenant).toArray⟩, V8 t.rights, VI t.from_, VI t.until_, t.cs.v] ++ (t.tag).map V8) 76]))
    (fun (i : Nat) => t.cs.len - i) 0 ⟨rfl, rfl, rfl, rfl, trivial⟩ ⟨Nat.zero_le _, H⟩ ?_
  clear H
  rintro i τ w ⟨hi, H⟩
  repeat refine c_seq ?_
  refine c_region ?_
  refine l_op (o_val (r_mv) ?_)
  refine l_op (o_val (r_fa rfl fo76_5) ?_)
  refine l_op (o_val (r_ld (v := t.cs.v) H (i := 0) rfl rfl ct74 rfl) ?_)
  refine l_op (o_val (r_lens el74 rfl) ?_)
  refine l_op (o_val (r_bin (a := (i : Int)) (b := (t.cs.len : Int)) rfl rfl (fun _ => b_lss)) ?_)
  first | refine l_end ?_ | refine l_nil ?_
  by_cases hc2 : (i : Int) < (t.cs.len : Int)
  ·
   repeat refine c_seq ?_
   refine c_yes (by exact congrArg Value.bool (decide_eq_true hc2)) ?_
   refine c_skip ?_
   repeat refine c_seq ?_
   refine c_block ?_
   repeat refine c_seq ?_
   refine c_region ?_
   refine l_op (o_val (r_mv) ?_)
   refine l_op (o_val (r_fa rfl fo76_5) ?_)
   refine l_op (o_val (r_ld (v := t.cs.v) H (i := 0) rfl rfl ct74 rfl) ?_)
   refine l_op (o_val (r_mv) ?_)
   have ah5 := ((hc.up H)).addr (by decide) (by first | omega | (dsimp only; omega))
   obtain ⟨ab3, ao4, ah5⟩ := ah5
   refine l_op (o_val (r_isN i rfl rfl el74 ah5 (by omega) (by (try simp only [Sl.cut]); omega)) ?_)
   refine l_op (o_val (r_fa rfl fo78_0) ?_)
   have he7 : ∃ c, t.cs.l[i]? = some c := ⟨_, List.getElem?_eq_getElem (by have := ((hc.up H)).ln; (try dsimp only at this ⊢); omega)⟩
   obtain ⟨e6, he7⟩ := he7
   have hez8 := ((hc.up H)).sz e6 (List.mem_of_getElem? he7)
   refine l_op (o_val (r_ldFld (v := V8 e6.1) (s := t.cs) (k := i) (off := 0) (hc.up H) ah5 rfl ct73 he7 (by decide) rfl) ?_)
   refine l_op (o_callR Try.func122 rfl rfl rfl (meet13_ret _ ((effF t.rights t.until_ (t.cs.l.take i)).1) (e6.1)) ?_)
   rintro _ w ⟨rfl, Hc⟩
   replace H : Hp _ w _ ([_]) := H.call Hc
   clear Hc
   refine l_op (o_val (r_as) ?_)
   first | refine l_end ?_ | refine l_nil ?_
   repeat refine c_seq ?_
   refine c_region ?_
   refine l_op (o_val (r_mv) ?_)
   refine l_op (o_val (r_fa rfl fo76_5) ?_)
   refine l_op (o_val (r_ld (v := t.cs.v) H (i := 0) rfl rfl ct74 rfl) ?_)
   refine l_op (o_val (r_mv) ?_)
   refine l_op (o_val (r_isN i rfl rfl el74 ah5 (by omega) (by (try simp only [Sl.cut]); omega)) ?_)
   refine l_op (o_val (r_fa rfl fo78_1) ?_)
   refine l_op (o_val (r_ldFld (v := VI e6.2) (s := t.cs) (k := i) (off := 1) (hc.up H) ah5 rfl ct2 he7 (by decide) rfl) ?_)
   refine l_op (o_val (r_min rfl rfl) ?_)
   refine l_op (o_val (r_as) ?_)
   first | refine l_end ?_ | refine l_nil ?_
   repeat refine c_seq ?_
   refine c_region ?_
   refine l_op (o_val (r_mv) ?_)
   refine l_op (o_val (r_bin (a := (i : Int)) (b := 1) rfl rfl (fun _ => b_add (by omega) (by omega))) ?_)
   refine l_op (o_val (r_as) ?_)
   first | refine l_end ?_ | refine l_nil ?_
   have es := effF_succ t.rights t.until_ t.cs.l i e6 he7
   refine round_end (i + 1) ?_ ?_ ?_
   · exact ⟨rfl, show V8 (((effF t.rights t.until_ (t.cs.l.take i)).1) &&& e6.1) = V8 ((effF t.rights t.until_ (t.cs.l.take (i + 1 : Nat))).1) from congrArg V8 (by rw [es]), show VI (if e6.2 < (effF t.rights t.until_ (t.cs.l.take i)).2 then e6.2 else (effF t.rights t.until_ (t.cs.l.take i)).2) = VI ((effF t.rights t.until_ (t.cs.l.take (i + 1 : Nat))).2) from congrArg VI (by rw [es]), show VI ((i : Int) + 1) = VI ((i + 1 : Nat) : Int) from congrArg VI (by omega), trivial⟩
   · refine ⟨?_, ?_⟩
     · try dsimp only
       exact by omega
     · exact H
   · show t.cs.len - (i + 1 : Nat) < t.cs.len - i; omega
  ·
   repeat refine c_seq ?_
   refine c_no (by exact congrArg Value.bool (decide_eq_false hc2)) ?_
   refine c_exit ?_
   repeat refine c_seq ?_
   refine c_region ?_
   refine l_op (o_val (r_mv) ?_)
   refine l_op (o_val (r_mv) ?_)
   refine l_op (o_val (r_as) ?_)
   refine l_op (o_val (r_as) ?_)
   first | refine l_end ?_ | refine l_nil ?_
   refine c_ret ?_
   try dsimp only [Exit.then, Exit.inBlock]
   refine e_retN (vs := [V8 ((effF t.rights t.until_ (t.cs.l.take i)).1), VI ((effF t.rights t.until_ (t.cs.l.take i)).2)]) _ Try.results73 rfl (resT (v := V8 ((effF t.rights t.until_ (t.cs.l.take i)).1)) rfl (resT (v := VI ((effF t.rights t.until_ (t.cs.l.take i)).2)) rfl (resZ))) ?_
   refine ⟨_, rfl, ?_⟩
   rw [List.take_of_length_le (by have := hc.ln; omega)]
   exact ⟨rfl, H.sub (List.nil_sublist _)⟩
theorem check14r_ret (w0 : World) (key : List UInt8) (hk : key.length = 32) (t : Tok) (hc : t.cs.ok cavE 2 w0) (htag : t.tag.length = 32) (hn : t.tenant.length ≤ 65536) (hb : t.bd) (now : Int) :
    Ret Try.prog 78 [.agg ((key).map V8).toArray, .agg ([V64 t.serial, .string ⟨(t.tenant).toArray⟩, V8 t.rights, VI t.from_, VI t.until_, t.cs.v] ++ (t.tag).map V8).toArray, VI now] w0 fun v w' => v = VI (checkT key t now) ∧ Hp w0 w' [] [] := by
  refine ret_mk Try.func78 rfl Try.ntmps78 (by simp) ?_
  have H := Hp.refl w0 []
  repeat refine c_seq ?_
  refine c_region ?_
  refine l_op (o_box (v := .agg ((key).map V8).toArray) H rfl (fun b1 w H hb1 => ?_))
  replace H : Hp _ w _ ([.blk b1 ((key).map V8) 31]) := H
  refine l_op (o_box (v := .agg ([V64 t.serial, .string ⟨(t.tenant).toArray⟩, V8 t.rights, VI t.from_, VI t.until_, t.cs.v] ++ (t.tag).map V8).toArray) H rfl (fun b2 w H hb2 => ?_))
  replace H : Hp _ w _ ([_, .blk b2 ([V64 t.serial, .string ⟨(t.tenant).toArray⟩, V8 t.rights, VI t.from_, VI t.until_, t.cs.v] ++ (t.tag).map V8) 76]) := H
  refine l_op (o_val (r_as) ?_)
  first | refine l_end ?_ | refine l_nil ?_
  repeat refine c_seq ?_
  refine c_region ?_
  refine l_op (o_val (r_ldA (C := [V64 t.serial, .string ⟨(t.tenant).toArray⟩, V8 t.rights, VI t.from_, VI t.until_, t.cs.v] ++ (t.tag).map V8) H (i := 1) rfl rfl rt76 (by rw [List.length_append, List.length_map, (show (t.tag).length = 32 from htag)]; rfl)) ?_)
  refine l_op (o_callR Try.func76 rfl rfl rfl (may14_ret _ t (hc.up H) (show (t.tag).length = 32 from htag) (by first | omega | (dsimp only; omega) | simp)) ?_)
  rintro _ w ⟨rfl, Hc⟩
  replace H : Hp _ w _ ([_, _]) := H.call Hc
  clear Hc
  refine l_op (o_val (r_not rfl) ?_)
  first | refine l_end ?_ | refine l_nil ?_
  rcases Bool.eq_false_or_eq_true (mayT t) with hc3 | hc3
  ·
   repeat refine c_seq ?_
   refine c_no (by exact congrArg Value.bool (congrArg not hc3)) ?_
   refine c_skip ?_
   repeat refine c_seq ?_
   refine wp_held (fun w => Hp w0 w [] [.blk b1 ((key).map V8) 31, .blk b2 ([V64 t.serial, .string ⟨(t.tenant).toArray⟩, V8 t.rights, VI t.from_, VI t.until_, t.cs.v] ++ (t.tag).map V8) 76]) mixed ?_
   replace H := H.drew
   have HS := H
   refine t_take 0 rfl (by kernel_rfl) (by kernel_rfl) (by kernel_rfl) (fun _ _ _ h => h) (fun w HS => r_ldAA (l := key) HS (i := 0) rfl rfl rt31 (show (key).length = 32 from hk)) HS ?_
   refine t_take 1 rfl (by kernel_rfl) (by kernel_rfl) (by kernel_rfl) (fun _ _ _ h => h) (fun w HS => r_ldA (C := [V64 t.serial, .string ⟨(t.tenant).toArray⟩, V8 t.rights, VI t.from_, VI t.until_, t.cs.v] ++ (t.tag).map V8) HS (i := 1) rfl rfl rt76 (by rw [List.length_append, List.length_map, (show (t.tag).length = 32 from htag)]; rfl)) HS ?_
   refine t_take 3 rfl (by kernel_rfl) (by kernel_rfl) (by kernel_rfl) (fun _ _ _ h => h) (fun w HS => r_fa rfl fo76_6) HS ?_
   refine t_take 4 rfl (by kernel_rfl) (by kernel_rfl) (by kernel_rfl) (fun _ _ _ h => h) (fun w HS => r_ldT (pre := [V64 t.serial, .string ⟨(t.tenant).toArray⟩, V8 t.rights, VI t.from_, VI t.until_, t.cs.v]) (l := t.tag) HS (i := 1) rfl rfl rt31 rfl (show (t.tag).length = 32 from htag)) HS ?_
   refine t_step 2 rfl (by kernel_rfl) (o_callR Try.func116 rfl rfl rfl (tag14_ret _ (key) (show (key).length = 32 from hk) t (hc.up H) (show (t.tag).length = 32 from htag) (by first | omega | (dsimp only; omega) | simp) hb) ?_)
   rintro _ w ⟨rfl, Hc⟩
   replace H : Hp _ w _ ([_, _]) := H.call Hc
   clear Hc
   refine ⟨H, ?_⟩
   replace HS := H
   refine t_take 5 rfl (by kernel_rfl) (by kernel_rfl) (by kernel_rfl) (fun _ _ _ h => h) (fun w HS => r_nea (a := onF (hmac (key) (framed [t.head])) t.cs.l) (b := t.tag) Try.underlying31 Try.underlying5 cs5 rfl rfl (show (onF (hmac (key) (framed [t.head])) t.cs.l).length = 32 from onF_len _ (hmac_len _ _) _) (show (t.tag).length = 32 from htag)) HS ?_
   refine t_done (by kernel_rfl) ?_
   clear HS
   by_cases hc4 : onF (hmac (key) (framed [t.head])) t.cs.l = t.tag
   ·
    repeat refine c_seq ?_
    refine c_no (by exact congrArg Value.bool (congrArg not (decide_eq_true hc4))) ?_
    refine c_skip ?_
    repeat refine c_seq ?_
    refine c_region ?_
    refine l_op (o_val (r_ldA (C := [V64 t.serial, .string ⟨(t.tenant).toArray⟩, V8 t.rights, VI t.from_, VI t.until_, t.cs.v] ++ (t.tag).map V8) H (i := 1) rfl rfl rt76 (by rw [List.length_append, List.length_map, (show (t.tag).length = 32 from htag)]; rfl)) ?_)
    refine l_op (o_callR Try.func73 rfl rfl rfl (effect14_ret _ t (hc.up H) (show (t.tag).length = 32 from htag)) ?_)
    rintro _ w ⟨rfl, Hc⟩
    replace H : Hp _ w _ ([_, _]) := H.call Hc
    clear Hc
    refine l_op (o_val (r_mv) ?_)
    refine l_op (o_val (r_ext rfl rfl) ?_)
    refine l_op (o_val (r_ext rfl rfl) ?_)
    refine l_op (o_val (r_as) ?_)
    refine l_op (o_val (r_as) ?_)
    first | refine l_end ?_ | refine l_nil ?_
    repeat refine c_seq ?_
    refine c_region ?_
    refine l_op (o_val (r_mv) ?_)
    refine l_op (o_val (r_fa rfl fo76_3) ?_)
    refine l_op (o_val (r_ld (v := VI t.from_) H (i := 1) rfl rfl ct2 rfl) ?_)
    refine l_op (o_val (r_bin (a := now) (b := t.from_) rfl rfl (fun _ => b_lss)) ?_)
    refine l_op (o_val (r_mv) ?_)
    by_cases hc5 : now < t.from_
    ·
     refine l_no rfl rfl (by exact congrArg Value.bool (decide_eq_true hc5)) rfl ?_
     refine l_no rfl rfl (by exact congrArg Value.bool (decide_eq_true hc5)) rfl ?_
     refine l_no rfl rfl (by exact congrArg Value.bool (decide_eq_true hc5)) rfl ?_
     refine l_op (o_val (r_pick (b := true) (congrArg Value.bool (decide_eq_true hc5))) ?_)
     first | refine l_end ?_ | refine l_nil ?_
     repeat refine c_seq ?_
     refine c_yes rfl ?_
     repeat refine c_seq ?_
     refine c_region ?_
     refine l_op (o_val (r_as) ?_)
     first | refine l_end ?_ | refine l_nil ?_
     refine c_ret ?_
     try dsimp only [Exit.then, Exit.inBlock]
     refine e_ret1 (v := VI 14) Try.results78 rfl ?_
     refine ⟨_, rfl, ?_⟩
     refine ⟨?_, H.sub (List.nil_sublist _)⟩
     rw [checkT, if_neg (by rw [hc3]; decide), if_neg (not_not_intro hc4), if_pos (by omega)]
    ·
     refine l_yes rfl rfl (by exact congrArg Value.bool (decide_eq_false hc5)) (o_val (r_mv) ?_)
     refine l_yes rfl rfl (by exact congrArg Value.bool (decide_eq_false hc5)) (o_val (r_mv) ?_)
     refine l_yes rfl rfl (by exact congrArg Value.bool (decide_eq_false hc5)) (o_val (r_bin (a := now) (b := (effF (t.rights) (t.until_) t.cs.l).2) rfl rfl (fun _ => b_geq)) ?_)
     refine l_op (o_val (r_pick (b := false) (congrArg Value.bool (decide_eq_false hc5))) ?_)
     first | refine l_end ?_ | refine l_nil ?_
     by_cases hc6 : (effF (t.rights) (t.until_) t.cs.l).2 ≤ now
     ·
      repeat refine c_seq ?_
      refine c_yes (by exact congrArg Value.bool (decide_eq_true hc6)) ?_
      repeat refine c_seq ?_
      refine c_region ?_
      refine l_op (o_val (r_as) ?_)
      first | refine l_end ?_ | refine l_nil ?_
      refine c_ret ?_
      try dsimp only [Exit.then, Exit.inBlock]
      refine e_ret1 (v := VI 14) Try.results78 rfl ?_
      refine ⟨_, rfl, ?_⟩
      refine ⟨?_, H.sub (List.nil_sublist _)⟩
      rw [checkT, if_neg (by rw [hc3]; decide), if_neg (not_not_intro hc4), if_pos (by omega)]
     ·
      repeat refine c_seq ?_
      refine c_no (by exact congrArg Value.bool (decide_eq_false hc6)) ?_
      refine c_skip ?_
      repeat refine c_seq ?_
      refine c_region ?_
      refine l_op (o_val (r_as) ?_)
      first | refine l_end ?_ | refine l_nil ?_
      refine c_ret ?_
      try dsimp only [Exit.then, Exit.inBlock]
      refine e_ret1 (v := VI 0) Try.results78 rfl ?_
      refine ⟨_, rfl, ?_⟩
      refine ⟨?_, H.sub (List.nil_sublist _)⟩
      rw [checkT, if_neg (by rw [hc3]; decide), if_neg (not_not_intro hc4), if_neg (by omega)]
   ·
    repeat refine c_seq ?_
    refine c_yes (by exact congrArg Value.bool (congrArg not (decide_eq_false hc4))) ?_
    repeat refine c_seq ?_
    refine c_region ?_
    refine l_op (o_val (r_as) ?_)
    first | refine l_end ?_ | refine l_nil ?_
    refine c_ret ?_
    try dsimp only [Exit.then, Exit.inBlock]
    refine e_ret1 (v := VI 13) Try.results78 rfl ?_
    refine ⟨_, rfl, ?_⟩
    refine ⟨?_, H.sub (List.nil_sublist _)⟩
    rw [checkT, if_neg (by rw [hc3]; decide), if_pos hc4]
  ·
   repeat refine c_seq ?_
   refine c_yes (by exact congrArg Value.bool (congrArg not hc3)) ?_
   repeat refine c_seq ?_
   refine c_region ?_
   refine l_op (o_val (r_as) ?_)
   first | refine l_end ?_ | refine l_nil ?_
   refine c_ret ?_
   try dsimp only [Exit.then, Exit.inBlock]
   refine e_ret1 (v := VI 1) Try.results78 rfl ?_
   refine ⟨_, rfl, ?_⟩
   refine ⟨?_, H.sub (List.nil_sublist _)⟩
   rw [checkT, if_pos hc3]
end Go.Proofs.Ytjmbbhnpfmblpaa
namespace Go.Proofs.Ytjmbbhnpfmblpaa
open Go
set_option maxRecDepth 100000
theorem eqCav {w : World} (c e : Cav) : (Op.equal 78 (.agg (cavE c).toArray) (.agg (cavE e).toArray)).run Try.prog w = .ok (decide (c = e)) w := by
  refine eqS_of Try.underlying78 (by kernel_rfl) ?_
  have hb : (decide ((c.1.toNat : Int) = (e.1.toNat : Int)) && (decide (c.2 = e.2) && true)) = decide (c = e) := by
    rw [Bool.eq_iff_iff]
    simp only [Bool.and_eq_true, decide_eq_true_eq, and_true]
    constructor
    · rintro ⟨h1, h2⟩
      exact Prod.ext (UInt8.toNat_inj.1 (by omega)) h2
    · rintro rfl; exact ⟨rfl, rfl⟩
  rw [← hb]
  exact eqF_cons (by decide) (part_cell (by kernel_rfl) rfl) (part_cell (by kernel_rfl) rfl) (eqI_int (by kernel_rfl) 9998 _ _)
    (eqF_cons (by decide) (part_cell (by kernel_rfl) rfl) (part_cell (by kernel_rfl) rfl) (eqI_int (by kernel_rfl) 9998 _ _) (eqF_nil _ _ _))
theorem egCav : Try.prog.eqGuardType Try.prog.depth 78 = false := by kernel_rfl
def sameT (t u : Tok) : Bool := decide (t.tv = u.tv)
theorem tv_ext {t u : Tok} (h0 : (t.serial.toNat : Int) = u.serial.toNat) (h1 : t.tenant = u.tenant) (h2 : (t.rights.toNat : Int) = u.rights.toNat) (h3 : t.from_ = u.from_) (h4 : t.until_ = u.until_) (h6 : t.tag = u.tag) (h5 : t.cs.l = u.cs.l) : t.tv = u.tv := by
  simp only [Tok.tv, TV.mk.injEq]
  exact ⟨UInt64.toNat_inj.1 (by omega), h1, UInt8.toNat_inj.1 (by omega), h3, h4, h5, h6⟩
theorem tv_eqs {t u : Tok} (e : t.tv = u.tv) : t.serial.toNat = u.serial.toNat ∧ t.tenant = u.tenant ∧ t.rights.toNat = u.rights.toNat ∧ t.from_ = u.from_ ∧ t.until_ = u.until_ ∧ t.tag = u.tag ∧ t.cs.l = u.cs.l ∧ t.cs.l.length = u.cs.l.length := by
  simp only [Tok.tv, TV.mk.injEq] at e
  obtain ⟨h0, h1, h2, h3, h4, h5, h6⟩ := e
  exact ⟨by rw [h0], h1, by rw [h2], h3, h4, h6, h5, by rw [h5]⟩
theorem same14_ret (w0 : World) (t u : Tok) (hc : t.cs.ok cavE 2 w0) (htag : t.tag.length = 32) (hcu : u.cs.ok cavE 2 w0) (hutag : u.tag.length = 32) :
    Ret Try.prog 74 [.agg ([V64 t.serial, .string ⟨(t.tenant).toArray⟩, V8 t.rights, VI t.from_, VI t.until_, t.cs.v] ++ (t.tag).map V8).toArray, .agg ([V64 u.serial, .string ⟨(u.tenant).toArray⟩, V8 u.rights, VI u.from_, VI u.until_, u.cs.v] ++ (u.tag).map V8).toArray] w0 fun v w' => v = .bool (sameT t u) ∧ Hp w0 w' [] [] := by
  refine ret_mk Try.func74 rfl Try.ntmps74 (by simp) ?_
  have H := Hp.refl w0 []
  have hcl := hc.ln
  have hul := hcu.ln
  have hxl := hc.le
  have hxm := hc.mx
  have hmL : maxLen = 9223372036854775807 := rfl
  repeat refine c_seq ?_
  refine c_region ?_
  refine l_op (o_box (v := .agg ([V64 t.serial, .string ⟨(t.tenant).toArray⟩, V8 t.rights, VI t.from_, VI t.until_, t.cs.v] ++ (t.tag).map V8).toArray) H rfl (fun b1 w H hb1 => ?_))
  replace H : Hp _ w _ ([.blk b1 ([V64 t.serial, .string ⟨(t.tenant).toArray⟩, V8 t.rights, VI t.from_, VI t.until_, t.cs.v] ++ (t.tag).map V8) 76]) := H
  refine l_op (o_box (v := .agg ([V64 u.serial, .string ⟨(u.tenant).toArray⟩, V8 u.rights, VI u.from_, VI u.until_, u.cs.v] ++ (u.tag).map V8).toArray) H rfl (fun b2 w H hb2 => ?_))
  replace H : Hp _ w _ ([_, .blk b2 ([V64 u.serial, .string ⟨(u.tenant).toArray⟩, V8 u.rights, VI u.from_, VI u.until_, u.cs.v] ++ (u.tag).map V8) 76]) := H
  refine l_op (o_val (r_as) ?_)
  first | refine l_end ?_ | refine l_nil ?_
  repeat refine c_seq ?_
  refine c_region ?_
  refine l_op (o_val (r_fa rfl fo76_0) ?_)
  refine l_op (o_val (r_ld (v := V64 t.serial) H (i := 0) rfl rfl ct35 rfl) ?_)
  refine l_op (o_val (r_fa rfl fo76_0) ?_)
  refine l_op (o_val (r_ld (v := V64 u.serial) H (i := 1) rfl rfl ct35 rfl) ?_)
  refine l_op (o_val (r_bin (a := (t.serial.toNat : Int)) (b := (u.serial.toNat : Int)) rfl rfl (fun _ => b_neq)) ?_)
  refine l_op (o_val (r_mv) ?_)
  by_cases hc3 : (t.serial.toNat : Int) ≠ (u.serial.toNat : Int)
  ·
   refine l_no rfl rfl (by exact congrArg Value.bool (decide_eq_true hc3)) rfl ?_
   refine l_no rfl rfl (by exact congrArg Value.bool (decide_eq_true hc3)) rfl ?_
   refine l_no rfl rfl (by exact congrArg Value.bool (decide_eq_true hc3)) rfl ?_
   refine l_no rfl rfl (by exact congrArg Value.bool (decide_eq_true hc3)) rfl ?_
   refine l_no rfl rfl (by exact congrArg Value.bool (decide_eq_true hc3)) rfl ?_
   refine l_op (o_val (r_pick (b := true) (congrArg Value.bool (decide_eq_true hc3))) ?_)
   refine l_op (o_val (r_mv) ?_)
   refine l_no rfl rfl rfl rfl ?_
   refine l_no rfl rfl rfl rfl ?_
   refine l_no rfl rfl rfl rfl ?_
   refine l_no rfl rfl rfl rfl ?_
   refine l_no rfl rfl rfl rfl ?_
   refine l_op (o_val (r_pick rfl) ?_)
   refine l_op (o_val (r_mv) ?_)
   refine l_no rfl rfl rfl rfl ?_
   refine l_no rfl rfl rfl rfl ?_
   refine l_no rfl rfl rfl rfl ?_
   refine l_no rfl rfl rfl rfl ?_
   refine l_no rfl rfl rfl rfl ?_
   refine l_op (o_val (r_pick rfl) ?_)
   refine l_op (o_val (r_mv) ?_)
   refine l_no rfl rfl rfl rfl ?_
   refine l_no rfl rfl rfl rfl ?_
   refine l_no rfl rfl rfl rfl ?_
   refine l_no rfl rfl rfl rfl ?_
   refine l_no rfl rfl rfl rfl ?_
   refine l_op (o_val (r_pick rfl) ?_)
   refine l_op (o_val (r_mv) ?_)
   refine l_no rfl rfl rfl rfl ?_
   refine l_no rfl rfl rfl rfl ?_
   refine l_no rfl rfl rfl rfl ?_
   refine l_no rfl rfl rfl rfl ?_
   refine l_no rfl rfl rfl rfl ?_
   refine l_op (o_val (r_pick rfl) ?_)
   refine l_op (o_val (r_mv) ?_)
   refine l_no rfl rfl rfl rfl ?_
   refine l_no rfl rfl rfl rfl ?_
   refine l_no rfl rfl rfl rfl ?_
   refine l_no rfl rfl rfl rfl ?_
   refine l_no rfl rfl rfl rfl ?_
   refine l_no rfl rfl rfl rfl ?_
   refine l_no rfl rfl rfl rfl ?_
   refine l_op (o_val (r_pick rfl) ?_)
   first | refine l_end ?_ | refine l_nil ?_
   repeat refine c_seq ?_
   refine c_yes rfl ?_
   repeat refine c_seq ?_
   refine c_region ?_
   refine l_op (o_val (r_as) ?_)
   first | refine l_end ?_ | refine l_nil ?_
   refine c_ret ?_
   try dsimp only [Exit.then, Exit.inBlock]
   refine e_ret1 (v := .bool false) Try.results74 rfl ?_
   refine ⟨_, rfl, ?_⟩
   refine ⟨?_, H.sub (List.nil_sublist _)⟩
   have e : sameT t u = false := decide_eq_false fun e => by
     obtain ⟨e0, e1, e2, e3, e4, e5, e6, e7⟩ := tv_eqs e
     first | contradiction | omega
   rw [e]
  ·
   refine l_yes rfl rfl (by exact congrArg Value.bool (decide_eq_false hc3)) (o_val (r_fa rfl fo76_1) ?_)
   refine l_yes rfl rfl (by exact congrArg Value.bool (decide_eq_false hc3)) (o_val (r_ld (v := .string ⟨(t.tenant).toArray⟩) H (i := 0) rfl rfl ct9 rfl) ?_)
   refine l_yes rfl rfl (by exact congrArg Value.bool (decide_eq_false hc3)) (o_val (r_fa rfl fo76_1) ?_)
   refine l_yes rfl rfl (by exact congrArg Value.bool (decide_eq_false hc3)) (o_val (r_ld (v := .string ⟨(u.tenant).toArray⟩) H (i := 1) rfl rfl ct9 rfl) ?_)
   refine l_yes rfl rfl (by exact congrArg Value.bool (decide_eq_false hc3)) (o_val (r_strne (a := t.tenant) (b := u.tenant) rfl rfl) ?_)
   refine l_op (o_val (r_pick (b := false) (congrArg Value.bool (decide_eq_false hc3))) ?_)
   refine l_op (o_val (r_mv) ?_)
   by_cases hc4 : t.tenant = u.tenant
   ·
    refine l_yes rfl rfl (by exact congrArg Value.bool (congrArg not (decide_eq_true hc4))) (o_val (r_fa rfl fo76_2) ?_)
    refine l_yes rfl rfl (by exact congrArg Value.bool (congrArg not (decide_eq_true hc4))) (o_val (r_ld (v := V8 t.rights) H (i := 0) rfl rfl ct73 rfl) ?_)
    refine l_yes rfl rfl (by exact congrArg Value.bool (congrArg not (decide_eq_true hc4))) (o_val (r_fa rfl fo76_2) ?_)
    refine l_yes rfl rfl (by exact congrArg Value.bool (congrArg not (decide_eq_true hc4))) (o_val (r_ld (v := V8 u.rights) H (i := 1) rfl rfl ct73 rfl) ?_)
    refine l_yes rfl rfl (by exact congrArg Value.bool (congrArg not (decide_eq_true hc4))) (o_val (r_bin (a := (t.rights.toNat : Int)) (b := (u.rights.toNat : Int)) rfl rfl (fun _ => b_neq)) ?_)
    refine l_op (o_val (r_pick (b := false) (congrArg Value.bool (congrArg not (decide_eq_true hc4)))) ?_)
    refine l_op (o_val (r_mv) ?_)
    by_cases hc5 : (t.rights.toNat : Int) ≠ (u.rights.toNat : Int)
    ·
     refine l_no rfl rfl (by exact congrArg Value.bool (decide_eq_true hc5)) rfl ?_
     refine l_no rfl rfl (by exact congrArg Value.bool (decide_eq_true hc5)) rfl ?_
     refine l_no rfl rfl (by exact congrArg Value.bool (decide_eq_true hc5)) rfl ?_
     refine l_no rfl rfl (by exact congrArg Value.bool (decide_eq_true hc5)) rfl ?_
     refine l_no rfl rfl (by exact congrArg Value.bool (decide_eq_true hc5)) rfl ?_
     refine l_op (o_val (r_pick (b := true) (congrArg Value.bool (decide_eq_true hc5))) ?_)
     refine l_op (o_val (r_mv) ?_)
     refine l_no rfl rfl rfl rfl ?_
     refine l_no rfl rfl rfl rfl ?_
     refine l_no rfl rfl rfl rfl ?_
     refine l_no rfl rfl rfl rfl ?_
     refine l_no rfl rfl rfl rfl ?_
     refine l_op (o_val (r_pick rfl) ?_)
     refine l_op (o_val (r_mv) ?_)
     refine l_no rfl rfl rfl rfl ?_
     refine l_no rfl rfl rfl rfl ?_
     refine l_no rfl rfl rfl rfl ?_
     refine l_no rfl rfl rfl rfl ?_
     refine l_no rfl rfl rfl rfl ?_
     refine l_op (o_val (r_pick rfl) ?_)
     refine l_op (o_val (r_mv) ?_)
     refine l_no rfl rfl rfl rfl ?_
     refine l_no rfl rfl rfl rfl ?_
     refine l_no rfl rfl rfl rfl ?_
     refine l_no rfl rfl rfl rfl ?_
     refine l_no rfl rfl rfl rfl ?_
     refine l_no rfl rfl rfl rfl ?_
     refine l_no rfl rfl rfl rfl ?_
     refine l_op (o_val (r_pick rfl) ?_)
     first | refine l_end ?_ | refine l_nil ?_
     repeat refine c_seq ?_
     refine c_yes rfl ?_
     repeat refine c_seq ?_
     refine c_region ?_
     refine l_op (o_val (r_as) ?_)
     first | refine l_end ?_ | refine l_nil ?_
     refine c_ret ?_
     try dsimp only [Exit.then, Exit.inBlock]
     refine e_ret1 (v := .bool false) Try.results74 rfl ?_
     refine ⟨_, rfl, ?_⟩
     refine ⟨?_, H.sub (List.nil_sublist _)⟩
     have e : sameT t u = false := decide_eq_false fun e => by
       obtain ⟨e0, e1, e2, e3, e4, e5, e6, e7⟩ := tv_eqs e
       first | contradiction | omega
     rw [e]
    ·
     refine l_yes rfl rfl (by exact congrArg Value.bool (decide_eq_false hc5)) (o_val (r_fa rfl fo76_3) ?_)
     refine l_yes rfl rfl (by exact congrArg Value.bool (decide_eq_false hc5)) (o_val (r_ld (v := VI t.from_) H (i := 0) rfl rfl ct2 rfl) ?_)
     refine l_yes rfl rfl (by exact congrArg Value.bool (decide_eq_false hc5)) (o_val (r_fa rfl fo76_3) ?_)
     refine l_yes rfl rfl (by exact congrArg Value.bool (decide_eq_false hc5)) (o_val (r_ld (v := VI u.from_) H (i := 1) rfl rfl ct2 rfl) ?_)
     refine l_yes rfl rfl (by exact congrArg Value.bool (decide_eq_false hc5)) (o_val (r_bin (a := t.from_) (b := u.from_) rfl rfl (fun _ => b_neq)) ?_)
     refine l_op (o_val (r_pick (b := false) (congrArg Value.bool (decide_eq_false hc5))) ?_)
     refine l_op (o_val (r_mv) ?_)
     by_cases hc6 : t.from_ ≠ u.from_
     ·
      refine l_no rfl rfl (by exact congrArg Value.bool (decide_eq_true hc6)) rfl ?_
      refine l_no rfl rfl (by exact congrArg Value.bool (decide_eq_true hc6)) rfl ?_
      refine l_no rfl rfl (by exact congrArg Value.bool (decide_eq_true hc6)) rfl ?_
      refine l_no rfl rfl (by exact congrArg Value.bool (decide_eq_true hc6)) rfl ?_
      refine l_no rfl rfl (by exact congrArg Value.bool (decide_eq_true hc6)) rfl ?_
      refine l_op (o_val (r_pick (b := true) (congrArg Value.bool (decide_eq_true hc6))) ?_)
      refine l_op (o_val (r_mv) ?_)
      refine l_no rfl rfl rfl rfl ?_
      refine l_no rfl rfl rfl rfl ?_
      refine l_no rfl rfl rfl rfl ?_
      refine l_no rfl rfl rfl rfl ?_
      refine l_no rfl rfl rfl rfl ?_
      refine l_op (o_val (r_pick rfl) ?_)
      refine l_op (o_val (r_mv) ?_)
      refine l_no rfl rfl rfl rfl ?_
      refine l_no rfl rfl rfl rfl ?_
      refine l_no rfl rfl rfl rfl ?_
      refine l_no rfl rfl rfl rfl ?_
      refine l_no rfl rfl rfl rfl ?_
      refine l_no rfl rfl rfl rfl ?_
      refine l_no rfl rfl rfl rfl ?_
      refine l_op (o_val (r_pick rfl) ?_)
      first | refine l_end ?_ | refine l_nil ?_
      repeat refine c_seq ?_
      refine c_yes rfl ?_
      repeat refine c_seq ?_
      refine c_region ?_
      refine l_op (o_val (r_as) ?_)
      first | refine l_end ?_ | refine l_nil ?_
      refine c_ret ?_
      try dsimp only [Exit.then, Exit.inBlock]
      refine e_ret1 (v := .bool false) Try.results74 rfl ?_
      refine ⟨_, rfl, ?_⟩
      refine ⟨?_, H.sub (List.nil_sublist _)⟩
      have e : sameT t u = false := decide_eq_false fun e => by
        obtain ⟨e0, e1, e2, e3, e4, e5, e6, e7⟩ := tv_eqs e
        first | contradiction | omega
      rw [e]
     ·
      refine l_yes rfl rfl (by exact congrArg Value.bool (decide_eq_false hc6)) (o_val (r_fa rfl fo76_4) ?_)
      refine l_yes rfl rfl (by exact congrArg Value.bool (decide_eq_false hc6)) (o_val (r_ld (v := VI t.until_) H (i := 0) rfl rfl ct2 rfl) ?_)
      refine l_yes rfl rfl (by exact congrArg Value.bool (decide_eq_false hc6)) (o_val (r_fa rfl fo76_4) ?_)
      refine l_yes rfl rfl (by exact congrArg Value.bool (decide_eq_false hc6)) (o_val (r_ld (v := VI u.until_) H (i := 1) rfl rfl ct2 rfl) ?_)
      refine l_yes rfl rfl (by exact congrArg Value.bool (decide_eq_false hc6)) (o_val (r_bin (a := t.until_) (b := u.until_) rfl rfl (fun _ => b_neq)) ?_)
      refine l_op (o_val (r_pick (b := false) (congrArg Value.bool (decide_eq_false hc6))) ?_)
      refine l_op (o_val (r_mv) ?_)
      by_cases hc7 : t.until_ ≠ u.until_
      ·
       refine l_no rfl rfl (by exact congrArg Value.bool (decide_eq_true hc7)) rfl ?_
       refine l_no rfl rfl (by exact congrArg Value.bool (decide_eq_true hc7)) rfl ?_
       refine l_no rfl rfl (by exact congrArg Value.bool (decide_eq_true hc7)) rfl ?_
       refine l_no rfl rfl (by exact congrArg Value.bool (decide_eq_true hc7)) rfl ?_
       refine l_no rfl rfl (by exact congrArg Value.bool (decide_eq_true hc7)) rfl ?_
       refine l_op (o_val (r_pick (b := true) (congrArg Value.bool (decide_eq_true hc7))) ?_)
       refine l_op (o_val (r_mv) ?_)
       refine l_no rfl rfl rfl rfl ?_
       refine l_no rfl rfl rfl rfl ?_
       refine l_no rfl rfl rfl rfl ?_
       refine l_no rfl rfl rfl rfl ?_
       refine l_no rfl rfl rfl rfl ?_
       refine l_no rfl rfl rfl rfl ?_
       refine l_no rfl rfl rfl rfl ?_
       refine l_op (o_val (r_pick rfl) ?_)
       first | refine l_end ?_ | refine l_nil ?_
       repeat refine c_seq ?_
       refine c_yes rfl ?_
       repeat refine c_seq ?_
       refine c_region ?_
       refine l_op (o_val (r_as) ?_)
       first | refine l_end ?_ | refine l_nil ?_
       refine c_ret ?_
       try dsimp only [Exit.then, Exit.inBlock]
       refine e_ret1 (v := .bool false) Try.results74 rfl ?_
       refine ⟨_, rfl, ?_⟩
       refine ⟨?_, H.sub (List.nil_sublist _)⟩
       have e : sameT t u = false := decide_eq_false fun e => by
         obtain ⟨e0, e1, e2, e3, e4, e5, e6, e7⟩ := tv_eqs e
         first | contradiction | omega
       rw [e]
      ·
       refine l_yes rfl rfl (by exact congrArg Value.bool (decide_eq_false hc7)) (o_val (r_fa rfl fo76_6) ?_)
       refine l_yes rfl rfl (by exact congrArg Value.bool (decide_eq_false hc7)) (o_val (r_ldT (pre := [V64 t.serial, .string ⟨(t.tenant).toArray⟩, V8 t.rights, VI t.from_, VI t.until_, t.cs.v]) (l := t.tag) H (i := 0) rfl rfl rt31 rfl (show (t.tag).length = 32 from htag)) ?_)
       refine l_yes rfl rfl (by exact congrArg Value.bool (decide_eq_false hc7)) (o_val (r_fa rfl fo76_6) ?_)
       refine l_yes rfl rfl (by exact congrArg Value.bool (decide_eq_false hc7)) (o_val (r_ldT (pre := [V64 u.serial, .string ⟨(u.tenant).toArray⟩, V8 u.rights, VI u.from_, VI u.until_, u.cs.v]) (l := u.tag) H (i := 1) rfl rfl rt31 rfl (show (u.tag).length = 32 from hutag)) ?_)
       refine l_yes rfl rfl (by exact congrArg Value.bool (decide_eq_false hc7)) (o_val (r_nea (a := t.tag) (b := u.tag) Try.underlying31 Try.underlying5 cs5 rfl rfl (show (t.tag).length = 32 from htag) (show (u.tag).length = 32 from hutag)) ?_)
       refine l_op (o_val (r_pick (b := false) (congrArg Value.bool (decide_eq_false hc7))) ?_)
       refine l_op (o_val (r_mv) ?_)
       by_cases hc8 : t.tag = u.tag
       ·
        refine l_yes rfl rfl (by exact congrArg Value.bool (congrArg not (decide_eq_true hc8))) (o_val (r_fa rfl fo76_5) ?_)
        refine l_yes rfl rfl (by exact congrArg Value.bool (congrArg not (decide_eq_true hc8))) (o_val (r_ld (v := t.cs.v) H (i := 0) rfl rfl ct74 rfl) ?_)
        refine l_yes rfl rfl (by exact congrArg Value.bool (congrArg not (decide_eq_true hc8))) (o_val (r_lens el74 rfl) ?_)
        refine l_yes rfl rfl (by exact congrArg Value.bool (congrArg not (decide_eq_true hc8))) (o_val (r_fa rfl fo76_5) ?_)
        refine l_yes rfl rfl (by exact congrArg Value.bool (congrArg not (decide_eq_true hc8))) (o_val (r_ld (v := u.cs.v) H (i := 1) rfl rfl ct74 rfl) ?_)
        refine l_yes rfl rfl (by exact congrArg Value.bool (congrArg not (decide_eq_true hc8))) (o_val (r_lens el74 rfl) ?_)
        refine l_yes rfl rfl (by exact congrArg Value.bool (congrArg not (decide_eq_true hc8))) (o_val (r_bin (a := (t.cs.len : Int)) (b := (u.cs.len : Int)) rfl rfl (fun _ => b_neq)) ?_)
        refine l_op (o_val (r_pick (b := false) (congrArg Value.bool (congrArg not (decide_eq_true hc8)))) ?_)
        first | refine l_end ?_ | refine l_nil ?_
        by_cases hc9 : (t.cs.len : Int) ≠ (u.cs.len : Int)
        ·
         repeat refine c_seq ?_
         refine c_yes (by exact congrArg Value.bool (decide_eq_true hc9)) ?_
         repeat refine c_seq ?_
         refine c_region ?_
         refine l_op (o_val (r_as) ?_)
         first | refine l_end ?_ | refine l_nil ?_
         refine c_ret ?_
         try dsimp only [Exit.then, Exit.inBlock]
         refine e_ret1 (v := .bool false) Try.results74 rfl ?_
         refine ⟨_, rfl, ?_⟩
         refine ⟨?_, H.sub (List.nil_sublist _)⟩
         have e : sameT t u = false := decide_eq_false fun e => by
           obtain ⟨e0, e1, e2, e3, e4, e5, e6, e7⟩ := tv_eqs e
           first | contradiction | omega
         rw [e]
        ·
         repeat refine c_seq ?_
         refine c_no (by exact congrArg Value.bool (decide_eq_false hc9)) ?_
         refine c_skip ?_
         repeat refine c_seq ?_
         refine c_region ?_
         refine l_op (o_val (r_as) ?_)
         first | refine l_end ?_ | refine l_nil ?_
         repeat refine c_seq ?_
         refine c_block ?_
         repeat refine c_seq ?_
         refine c_loop (fun (i : Nat) => [(2, .pointer (some ⟨b1, 0, none⟩)), (3, .pointer (some ⟨b2, 0, none⟩)), (5, VI (i : Int))])
           (fun (i : Nat) w => (i ≤ t.cs.len ∧ ∀ j, j < i → t.cs.l[j]? = u.cs.l[j]?) ∧ Hp w0 w [] ([.blk b1 ([V64 t.serial, .string ⟨(t.tenant).toArray⟩, V8 t.rights, VI t.from_, VI t.until_, t.cs.v] ++ (t.tag).map V8) 76, .blk b2 ([V64 u.serial, .string ⟨(u.tenant).toArray⟩, V8 u.rights, VI u.from_, VI u.until_, u.cs.v] ++ (u.tag).map V8) 76]))
           (fun (i : Nat) => t.cs.len - i) 0 ⟨rfl, rfl, rfl, trivial⟩ ⟨⟨Nat.zero_le _, fun j hj => absurd hj (by omega)⟩, H⟩ ?_
         clear H
         rintro i τ w ⟨⟨hi, hall⟩, H⟩
         repeat refine c_seq ?_
         refine c_region ?_
         refine l_op (o_val (r_mv) ?_)
         refine l_op (o_val (r_fa rfl fo76_5) ?_)
         refine l_op (o_val (r_ld (v := t.cs.v) H (i := 0) rfl rfl ct74 rfl) ?_)
         refine l_op (o_val (r_lens el74 rfl) ?_)
         refine l_op (o_val (r_bin (a := (i : Int)) (b := (t.cs.len : Int)) rfl rfl (fun _ => b_lss)) ?_)
         first | refine l_end ?_ | refine l_nil ?_
         by_cases hc10 : (i : Int) < (t.cs.len : Int)
         ·
          repeat refine c_seq ?_
          refine c_yes (by exact congrArg Value.bool (decide_eq_true hc10)) ?_
          refine c_skip ?_
          repeat refine c_seq ?_
          refine c_block ?_
          repeat refine c_seq ?_
          refine c_still mixed (by kernel_rfl) ?_
          replace H := H.drew
          refine s_op (r_fa rfl fo76_5) ?_
          refine s_op (r_ld (v := t.cs.v) H (i := 0) rfl rfl ct74 rfl) ?_
          refine s_op (r_mv) ?_
          have ah13 := ((hc.up H)).addr (by decide) (by first | omega | (dsimp only; omega))
          obtain ⟨ab11, ao12, ah13⟩ := ah13
          refine s_op (r_isN i rfl rfl el74 ah13 (by omega) (by (try simp only [Sl.cut]); omega)) ?_
          have he15 : ∃ c, t.cs.l[i]? = some c := ⟨_, List.getElem?_eq_getElem (by have := ((hc.up H)).ln; (try dsimp only at this ⊢); omega)⟩
          obtain ⟨e14, he15⟩ := he15
          have hez16 := ((hc.up H)).sz e14 (List.mem_of_getElem? he15)
          refine s_op (r_ldRow (s := t.cs) (k := i) (hc.up H) ah13 rfl rt78 (by decide) he15) ?_
          refine s_op (r_fa rfl fo76_5) ?_
          refine s_op (r_ld (v := u.cs.v) H (i := 1) rfl rfl ct74 rfl) ?_
          refine s_op (r_mv) ?_
          have ah19 := ((hcu.up H)).addr (by decide) (by first | omega | (dsimp only; omega))
          obtain ⟨ab17, ao18, ah19⟩ := ah19
          refine s_op (r_isN i rfl rfl el74 ah19 (by omega) (by (try simp only [Sl.cut]); omega)) ?_
          have he21 : ∃ c, u.cs.l[i]? = some c := ⟨_, List.getElem?_eq_getElem (by have := ((hcu.up H)).ln; (try dsimp only at this ⊢); omega)⟩
          obtain ⟨e20, he21⟩ := he21
          have hez22 := ((hcu.up H)).sz e20 (List.mem_of_getElem? he21)
          refine s_op (r_ldRow (s := u.cs) (k := i) (hcu.up H) ah19 rfl rt78 (by decide) he21) ?_
          refine s_op (r_neS egCav rfl rfl (eqCav e14 e20)) ?_
          refine s_nil ?_
          by_cases hc23 : e14 = e20
          ·
           repeat refine c_seq ?_
           refine c_no (by exact congrArg Value.bool (congrArg not (decide_eq_true hc23))) ?_
           refine c_skip ?_
           repeat refine c_seq ?_
           refine c_region ?_
           refine l_op (o_val (r_mv) ?_)
           refine l_op (o_val (r_bin (a := (i : Int)) (b := 1) rfl rfl (fun _ => b_add (by omega) (by omega))) ?_)
           refine l_op (o_val (r_as) ?_)
           first | refine l_end ?_ | refine l_nil ?_
           refine round_end (i + 1) ?_ ?_ ?_
           · exact ⟨rfl, rfl, show VI ((i : Int) + 1) = VI ((i + 1 : Nat) : Int) from congrArg VI (by omega), trivial⟩
           · refine ⟨?_, ?_⟩
             · try dsimp only
               exact ⟨by omega, fun j hj => by
                 by_cases hji : j < i
                 · exact hall j hji
                 · have e : j = i := by omega
                   rw [e, he15, he21]
                   exact congrArg some (by first | assumption | exact Classical.not_not.1 (by assumption))⟩
             · exact H
           · show t.cs.len - (i + 1 : Nat) < t.cs.len - i; omega
          ·
           repeat refine c_seq ?_
           refine c_yes (by exact congrArg Value.bool (congrArg not (decide_eq_false hc23))) ?_
           repeat refine c_seq ?_
           refine c_region ?_
           refine l_op (o_val (r_as) ?_)
           first | refine l_end ?_ | refine l_nil ?_
           refine c_ret ?_
           try dsimp only [Exit.then, Exit.inBlock]
           refine e_ret1 (v := .bool false) Try.results74 rfl ?_
           refine ⟨_, rfl, ?_⟩
           refine ⟨?_, H.sub (List.nil_sublist _)⟩
           have e : sameT t u = false := decide_eq_false fun e => by
             obtain ⟨e0, e1, e2, e3, e4, e5, e6, e7⟩ := tv_eqs e
             first | contradiction | omega | (rw [e6, he21] at he15; have e9 := Option.some.inj he15; exact absurd e9.symm (by assumption))
           rw [e]
         ·
          repeat refine c_seq ?_
          refine c_no (by exact congrArg Value.bool (decide_eq_false hc10)) ?_
          refine c_exit ?_
          repeat refine c_seq ?_
          refine c_region ?_
          refine l_op (o_val (r_as) ?_)
          first | refine l_end ?_ | refine l_nil ?_
          refine c_ret ?_
          try dsimp only [Exit.then, Exit.inBlock]
          refine e_ret1 (v := .bool true) Try.results74 rfl ?_
          refine ⟨_, rfl, ?_⟩
          refine ⟨?_, H.sub (List.nil_sublist _)⟩
          have e : sameT t u = true := decide_eq_true (tv_ext (by omega) (by first | assumption | exact Classical.not_not.1 (by assumption)) (by omega) (by omega) (by omega) (by first | assumption | exact Classical.not_not.1 (by assumption)) (by
            apply List.ext_getElem?
            intro j
            by_cases hj : j < i
            · exact hall j hj
            · rw [List.getElem?_eq_none (by omega), List.getElem?_eq_none (by omega)]))
          rw [e]
       ·
        refine l_no rfl rfl (by exact congrArg Value.bool (congrArg not (decide_eq_false hc8))) rfl ?_
        refine l_no rfl rfl (by exact congrArg Value.bool (congrArg not (decide_eq_false hc8))) rfl ?_
        refine l_no rfl rfl (by exact congrArg Value.bool (congrArg not (decide_eq_false hc8))) rfl ?_
        refine l_no rfl rfl (by exact congrArg Value.bool (congrArg not (decide_eq_false hc8))) rfl ?_
        refine l_no rfl rfl (by exact congrArg Value.bool (congrArg not (decide_eq_false hc8))) rfl ?_
        refine l_no rfl rfl (by exact congrArg Value.bool (congrArg not (decide_eq_false hc8))) rfl ?_
        refine l_no rfl rfl (by exact congrArg Value.bool (congrArg not (decide_eq_false hc8))) rfl ?_
        refine l_op (o_val (r_pick (b := true) (congrArg Value.bool (congrArg not (decide_eq_false hc8)))) ?_)
        first | refine l_end ?_ | refine l_nil ?_
        repeat refine c_seq ?_
        refine c_yes rfl ?_
        repeat refine c_seq ?_
        refine c_region ?_
        refine l_op (o_val (r_as) ?_)
        first | refine l_end ?_ | refine l_nil ?_
        refine c_ret ?_
        try dsimp only [Exit.then, Exit.inBlock]
        refine e_ret1 (v := .bool false) Try.results74 rfl ?_
        refine ⟨_, rfl, ?_⟩
        refine ⟨?_, H.sub (List.nil_sublist _)⟩
        have e : sameT t u = false := decide_eq_false fun e => by
          obtain ⟨e0, e1, e2, e3, e4, e5, e6, e7⟩ := tv_eqs e
          first | contradiction | omega
        rw [e]
   ·
    refine l_no rfl rfl (by exact congrArg Value.bool (congrArg not (decide_eq_false hc4))) rfl ?_
    refine l_no rfl rfl (by exact congrArg Value.bool (congrArg not (decide_eq_false hc4))) rfl ?_
    refine l_no rfl rfl (by exact congrArg Value.bool (congrArg not (decide_eq_false hc4))) rfl ?_
    refine l_no rfl rfl (by exact congrArg Value.bool (congrArg not (decide_eq_false hc4))) rfl ?_
    refine l_no rfl rfl (by exact congrArg Value.bool (congrArg not (decide_eq_false hc4))) rfl ?_
    refine l_op (o_val (r_pick (b := true) (congrArg Value.bool (congrArg not (decide_eq_false hc4)))) ?_)
    refine l_op (o_val (r_mv) ?_)
    refine l_no rfl rfl rfl rfl ?_
    refine l_no rfl rfl rfl rfl ?_
    refine l_no rfl rfl rfl rfl ?_
    refine l_no rfl rfl rfl rfl ?_
    refine l_no rfl rfl rfl rfl ?_
    refine l_op (o_val (r_pick rfl) ?_)
    refine l_op (o_val (r_mv) ?_)
    refine l_no rfl rfl rfl rfl ?_
    refine l_no rfl rfl rfl rfl ?_
    refine l_no rfl rfl rfl rfl ?_
    refine l_no rfl rfl rfl rfl ?_
    refine l_no rfl rfl rfl rfl ?_
    refine l_op (o_val (r_pick rfl) ?_)
    refine l_op (o_val (r_mv) ?_)
    refine l_no rfl rfl rfl rfl ?_
    refine l_no rfl rfl rfl rfl ?_
    refine l_no rfl rfl rfl rfl ?_
    refine l_no rfl rfl rfl rfl ?_
    refine l_no rfl rfl rfl rfl ?_
    refine l_op (o_val (r_pick rfl) ?_)
    refine l_op (o_val (r_mv) ?_)
    refine l_no rfl rfl rfl rfl ?_
    refine l_no rfl rfl rfl rfl ?_
    refine l_no rfl rfl rfl rfl ?_
    refine l_no rfl rfl rfl rfl ?_
    refine l_no rfl rfl rfl rfl ?_
    refine l_no rfl rfl rfl rfl ?_
    refine l_no rfl rfl rfl rfl ?_
    refine l_op (o_val (r_pick rfl) ?_)
    first | refine l_end ?_ | refine l_nil ?_
    repeat refine c_seq ?_
    refine c_yes rfl ?_
    repeat refine c_seq ?_
    refine c_region ?_
    refine l_op (o_val (r_as) ?_)
    first | refine l_end ?_ | refine l_nil ?_
    refine c_ret ?_
    try dsimp only [Exit.then, Exit.inBlock]
    refine e_ret1 (v := .bool false) Try.results74 rfl ?_
    refine ⟨_, rfl, ?_⟩
    refine ⟨?_, H.sub (List.nil_sublist _)⟩
    have e : sameT t u = false := decide_eq_false fun e => by
      obtain ⟨e0, e1, e2, e3, e4, e5, e6, e7⟩ := tv_eqs e
      first | contradiction | omega
    rw [e]
end Go.Proofs.Ytjmbbhnpfmblpaa
namespace Go.Proofs.Ytjmbbhnpfmblpaa
open Go
section
variable {P : Program} {Q : Exit → Act → World → Prop} {n : Nat} {σ : Nat → Value} {w : World} {ty : TypeId} {pos : String} {aft : Array Edge} {d : Nat}
variable {ops : Array Oper} {S' : World → Prop} {fuel : Nat} {listed : Array Bool} {oo : Op}
theorem t_non (i : Nat) {j e : Nat} {b : Bool} (hi : ops[i]? = some ⟨some d, oo, ty, pos, aft, some (j, b)⟩) (hs : Region.noSelect ops = true) (hf : Region.free .any ops listed i = true) (hr : (Region.ready .any ops listed).contains i = true)
    (hQ : ∀ c a w, Q (.panic c) (a.put (some d) undef) w → Q (.panic c) a w) (he : (ops[j]?).bind (·.dst) = some e) (hb : Nat.blt e n = true) (hv : σ e = undef) (hS : S' w)
    (h : wpAnyH P .any ops Q S' fuel (listed.setIfInBounds i true) (mk n (up σ d undef)) w) : wpAnyH P .any ops Q S' (fuel + 1) listed (mk n σ) w :=
  wpAnyH_take (v := undef) hi hs hf hr hQ (.inr ⟨by simp [Region.wanted, yielded_non ops j e he hb hv], rfl⟩) hS (by show wpAnyH P .any ops Q S' fuel _ ((mk n σ).put (some d) undef) w; rw [mk_put]; exact h)
end
end Go.Proofs.Ytjmbbhnpfmblpaa
namespace Go.Proofs.Ytjmbbhnpfmblpaa
open Go
set_option maxRecDepth 100000
theorem capTake_ok (w0 : World) (s : Sl) (hs : s.ok w0) (hm : s.len ≤ 1048576) (T : TV) (hp : parseT s.l = some T) : Ret Try.prog 102 [s.v] w0 fun v w' => ∃ (a : Option Nat) (k : Nat), v = .tuple #[.agg ([V64 T.serial, .string ⟨T.tenant.toArray⟩, V8 T.rights, VI T.from_, VI T.until_, .slice (hd a) T.cs.length k] ++ T.tag.map V8).toArray, VI 0] ∧ Hp w0 w' [] [.own a T.cs.length k (T.cs.flatMap cavE) 78 2] := by
  refine (capTake_ret w0 s hs hm).mono fun v w' h => ?_
  rcases h with ⟨h, _⟩ | ⟨T', a, k, h, hv, H⟩
  · rw [hp] at h; cases h
  · rw [hp] at h; cases h; exact ⟨a, k, hv, H⟩
theorem capTake_no (w0 : World) (s : Sl) (hs : s.ok w0) (hm : s.len ≤ 1048576) (hp : parseT s.l = none) : Ret Try.prog 102 [s.v] w0 fun v w' => v = .tuple #[.agg (([V64 0, .string ⟨([] : List UInt8).toArray⟩, V8 0, VI 0, VI 0, .slice none 0 0] : List Value) ++ (List.replicate 32 (0 : UInt8)).map V8).toArray, VI 4] ∧ Hp w0 w' [] [] := by
  refine (capTake_ret w0 s hs hm).mono fun v w' h => ?_
  rcases h with ⟨_, h⟩ | ⟨T', a, k, h, hv, H⟩
  · exact h
  · rw [hp] at h; cases h
theorem take14_ok (w0 : World) (s : Sl) (hs : s.ok w0) (hm : s.len ≤ 1048576) (T : TV) (hp : parseT s.l = some T) : Ret Try.prog 103 [s.v] w0 fun v w' => ∃ (a : Option Nat) (k : Nat), v = .tuple #[.agg ([V64 T.serial, .string ⟨T.tenant.toArray⟩, V8 T.rights, VI T.from_, VI T.until_, .slice (hd a) T.cs.length k] ++ T.tag.map V8).toArray, VI 0] ∧ Hp w0 w' [] [.own a T.cs.length k (T.cs.flatMap cavE) 78 2] := by
  refine (take14_ret w0 s hs hm).mono fun v w' h => ?_
  rcases h with ⟨h, _⟩ | ⟨T', a, k, h, hv, H⟩
  · rw [hp] at h; cases h
  · rw [hp] at h; cases h; exact ⟨a, k, hv, H⟩
theorem take14_no (w0 : World) (s : Sl) (hs : s.ok w0) (hm : s.len ≤ 1048576) (hp : parseT s.l = none) : Ret Try.prog 103 [s.v] w0 fun v w' => v = .tuple #[.agg (([V64 0, .string ⟨([] : List UInt8).toArray⟩, V8 0, VI 0, VI 0, .slice none 0 0] : List Value) ++ (List.replicate 32 (0 : UInt8)).map V8).toArray, VI 4] ∧ Hp w0 w' [] [] := by
  refine (take14_ret w0 s hs hm).mono fun v w' h => ?_
  rcases h with ⟨_, h⟩ | ⟨T', a, k, h, hv, H⟩
  · exact h
  · rw [hp] at h; cases h
theorem parse_no {l : List UInt8} (h : (parseT l).isSome = false) : parseT l = none := by
  cases hp : parseT l with
  | none => rfl
  | some T => rw [hp] at h; cases h
theorem parse_tag {l : List UInt8} {T : TV} (h : parseT l = some T) : T.tag.length = 32 := ((parse_iff l T).1 h).2.1.tag
end Go.Proofs.Ytjmbbhnpfmblpaa
namespace Go.Proofs.Ytjmbbhnpfmblpaa
open Go
set_option maxRecDepth 100000
set_option maxHeartbeats 1000000 in
theorem capForged_ret (w0 : World) (key : List UInt8) (t : Tok) (n : Int) (x : UInt8) (now : Int) (hk : key.length = 32) (_hc : t.cs.ok cavE 2 w0) (htag : t.tag.length = 32) :
    Ret Try.prog 30 [.agg ((key).map V8).toArray, .agg ([V64 t.serial, .string ⟨(t.tenant).toArray⟩, V8 t.rights, VI t.from_, VI t.until_, t.cs.v] ++ (t.tag).map V8).toArray, VI n, V8 x, VI now] w0 fun v w' => v = .bool true ∧ Hp w0 w' [] [] := by
  refine ret_mk Try.func30 rfl Try.ntmps30 (by simp) ?_
  have H := Hp.refl w0 []
  have hmL : maxLen = 9223372036854775807 := rfl
  repeat refine c_seq ?_
  refine c_region ?_
  refine l_op (o_box (v := .agg ((key).map V8).toArray) H rfl (fun b1 w H hb1 => ?_))
  replace H : Hp _ w _ ([.blk b1 ((key).map V8) 31]) := H
  refine l_op (o_box (v := .agg ([V64 t.serial, .string ⟨(t.tenant).toArray⟩, V8 t.rights, VI t.from_, VI t.until_, t.cs.v] ++ (t.tag).map V8).toArray) H rfl (fun b2 w H hb2 => ?_))
  replace H : Hp _ w _ ([_, .blk b2 ([V64 t.serial, .string ⟨(t.tenant).toArray⟩, V8 t.rights, VI t.from_, VI t.until_, t.cs.v] ++ (t.tag).map V8) 76]) := H
  refine l_op (o_val (r_as) ?_)
  first | refine l_end ?_ | refine l_nil ?_
  repeat refine c_seq ?_
  refine c_region ?_
  refine l_op (o_callR Try.func65 rfl rfl rfl (begun14_ret _) ?_)
  rintro _ w ⟨rfl, Hc⟩
  replace H : Hp _ w _ ([_, _]) := H.call Hc
  clear Hc
  refine l_op (o_val (r_not rfl) ?_)
  first | refine l_end ?_ | refine l_nil ?_
  repeat refine c_seq ?_
  refine c_no rfl ?_
  refine c_skip ?_
  repeat refine c_seq ?_
  refine c_region ?_
  refine l_op (o_val (r_fa rfl fo76_5) ?_)
  refine l_op (o_st (v := .slice none 0 0) H (i := 1) rfl rfl rfl cs74 rfl (by simp only [List.length_append, List.length_cons, List.length_nil]; omega) (fun w H => ?_))
  replace H : Hp _ w _ ([_, .blk b2 ([V64 t.serial, .string ⟨(t.tenant).toArray⟩, V8 t.rights, VI t.from_, VI t.until_, .slice none 0 0] ++ (t.tag).map V8) 76]) := H
  first | refine l_end ?_ | refine l_nil ?_
  repeat refine c_seq ?_
  refine c_region ?_
  refine l_op (o_val (r_ldA (C := [V64 t.serial, .string ⟨(t.tenant).toArray⟩, V8 t.rights, VI t.from_, VI t.until_, .slice none 0 0] ++ (t.tag).map V8) H (i := 1) rfl rfl rt76 (by rw [List.length_append, List.length_map, (show (t.tag).length = 32 from htag)]; rfl)) ?_)
  refine l_op (o_callR Try.func66 rfl rfl rfl (light14b_ret _ (⟨t.serial, t.tenant, t.rights, t.from_, t.until_, ⟨none, 0, 0, []⟩, t.tag⟩ : Tok) (Gl.ok_nil _) (show (t.tag).length = 32 from htag)) ?_)
  rintro _ w ⟨rfl, Hc⟩
  replace H : Hp _ w _ ([_, _]) := H.call Hc
  clear Hc
  refine l_op (o_val (r_not rfl) ?_)
  refine l_op (o_val (r_mv) ?_)
  by_cases hc3 : t.tenant.length ≤ 1024 ∧ 0 ≤ 64
  ·
   refine l_yes rfl rfl (by exact congrArg Value.bool (congrArg not (decide_eq_true hc3))) (o_val (r_ldA (C := [V64 t.serial, .string ⟨(t.tenant).toArray⟩, V8 t.rights, VI t.from_, VI t.until_, .slice none 0 0] ++ (t.tag).map V8) H (i := 1) rfl rfl rt76 (by rw [List.length_append, List.length_map, (show (t.tag).length = 32 from htag)]; rfl)) ?_)
   refine l_yes rfl rfl (by exact congrArg Value.bool (congrArg not (decide_eq_true hc3))) (o_callR Try.func75 rfl rfl rfl (may_ret _ (⟨t.serial, t.tenant, t.rights, t.from_, t.until_, ⟨none, 0, 0, []⟩, t.tag⟩ : Tok) (Gl.ok_nil _) (show (t.tag).length = 32 from htag) (by first | omega | (dsimp only; omega) | simp)) ?_)
   rintro _ w ⟨rfl, Hc⟩
   replace H : Hp _ w _ ([_, _]) := H.call Hc
   clear Hc
   refine l_yes rfl rfl (by exact congrArg Value.bool (congrArg not (decide_eq_true hc3))) (o_val (r_not rfl) ?_)
   refine l_op (o_val (r_pick (b := false) (congrArg Value.bool (congrArg not (decide_eq_true hc3)))) ?_)
   first | refine l_end ?_ | refine l_nil ?_
   have hc40 := Bool.eq_false_or_eq_true (mayT (⟨t.serial, t.tenant, t.rights, t.from_, t.until_, ⟨none, 0, 0, []⟩, t.tag⟩ : Tok))
   rcases hc40 with hc4 | hc4
   ·
    repeat refine c_seq ?_
    refine c_no (by exact congrArg Value.bool (congrArg not hc4)) ?_
    refine c_skip ?_
    repeat refine c_seq ?_
    refine c_region ?_
    refine l_op (o_val (r_ldAA (l := key) H (i := 0) rfl rfl rt31 (show (key).length = 32 from hk)) ?_)
    refine l_op (o_val (r_ldA (C := [V64 t.serial, .string ⟨(t.tenant).toArray⟩, V8 t.rights, VI t.from_, VI t.until_, .slice none 0 0] ++ (t.tag).map V8) H (i := 1) rfl rfl rt76 (by rw [List.length_append, List.length_map, (show (t.tag).length = 32 from htag)]; rfl)) ?_)
    refine l_op (o_callR Try.func68 rfl rfl rfl (issue_ok _ (key) (show (key).length = 32 from hk) (⟨t.serial, t.tenant, t.rights, t.from_, t.until_, ⟨none, 0, 0, []⟩, t.tag⟩ : Tok) (Gl.ok_nil _) (show (t.tag).length = 32 from htag) (by first | omega | (dsimp only; omega) | simp) hc4 rfl) ?_)
    rintro _ w ⟨rfl, Hc⟩
    replace H : Hp _ w _ ([_, _]) := H.call Hc
    clear Hc
    refine l_op (o_val (r_mv) ?_)
    refine l_op (o_val (r_ext rfl rfl) ?_)
    refine l_op (o_val (r_ext rfl rfl) ?_)
    refine l_op (o_stW (C' := [V64 t.serial, .string ⟨(t.tenant).toArray⟩, V8 t.rights, VI t.from_, VI t.until_, .slice none 0 0] ++ (hmac (key) (framed [headB (t.serial) (t.tenant) (t.rights) (t.from_) (t.until_)])).map V8) H (i := 1) rfl rfl rfl cs76 (by simp [Value.oneCell']) (by rw [List.length_append, List.length_map, (show (t.tag).length = 32 from htag)]; rfl) (by rw [List.length_append, List.length_map, (show (hmac (key) (framed [headB (t.serial) (t.tenant) (t.rights) (t.from_) (t.until_)])).length = 32 from hmac_len _ _)]; rfl) (fun w H => ?_))
    replace H : Hp _ w _ ([_, .blk b2 ([V64 t.serial, .string ⟨(t.tenant).toArray⟩, V8 t.rights, VI t.from_, VI t.until_, .slice none 0 0] ++ (hmac (key) (framed [headB (t.serial) (t.tenant) (t.rights) (t.from_) (t.until_)])).map V8) 76]) := H
    refine l_op (o_val (r_as) ?_)
    first | refine l_end ?_ | refine l_nil ?_
    repeat refine c_seq ?_
    refine c_region ?_
    refine l_op (o_val (r_ldA (C := [V64 t.serial, .string ⟨(t.tenant).toArray⟩, V8 t.rights, VI t.from_, VI t.until_, .slice none 0 0] ++ (hmac (key) (framed [headB (t.serial) (t.tenant) (t.rights) (t.from_) (t.until_)])).map V8) H (i := 1) rfl rfl rt76 (by rw [List.length_append, List.length_map, (show (hmac (key) (framed [headB (t.serial) (t.tenant) (t.rights) (t.from_) (t.until_)])).length = 32 from hmac_len _ _)]; rfl)) ?_)
    have hk5 : (mayT (⟨t.serial, t.tenant, t.rights, t.from_, t.until_, ⟨none, 0, 0, []⟩, hmac (key) (framed [headB (t.serial) (t.tenant) (t.rights) (t.from_) (t.until_)])⟩ : Tok)) = true := hc4
    refine l_op (o_callR Try.func81 rfl rfl rfl (capbytes_ok _ (⟨t.serial, t.tenant, t.rights, t.from_, t.until_, ⟨none, 0, 0, []⟩, hmac (key) (framed [headB (t.serial) (t.tenant) (t.rights) (t.from_) (t.until_)])⟩ : Tok) (Gl.ok_nil _) (show (hmac (key) (framed [headB (t.serial) (t.tenant) (t.rights) (t.from_) (t.until_)])).length = 32 from hmac_len _ _) (by first | omega | (dsimp only; omega) | simp)  hk5) ?_)
    rintro _ w ⟨a6, n7, c8, rfl, hn9, Hc⟩
    replace H : Hp _ w _ ([_, _, .own a6 n7 c8 (((⟨t.serial, t.tenant, t.rights, t.from_, t.until_, ⟨none, 0, 0, []⟩, hmac (key) (framed [headB (t.serial) (t.tenant) (t.rights) (t.from_) (t.until_)])⟩ : Tok).bytes).map V8) 5 1]) := H.call Hc
    clear Hc
    try dsimp only at hn9
    refine l_op (o_val (r_mv) ?_)
    refine l_op (o_val (r_ext rfl rfl) ?_)
    refine l_op (o_val (r_ext rfl rfl) ?_)
    refine l_op (o_val (r_as) ?_)
    refine l_op (o_val (r_as) ?_)
    first | refine l_end ?_ | refine l_nil ?_
    have hbl : ((⟨t.serial, t.tenant, t.rights, t.from_, t.until_, ⟨none, 0, 0, []⟩, hmac (key) (framed [headB (t.serial) (t.tenant) (t.rights) (t.from_) (t.until_)])⟩ : Tok).bytes).length = n7 := by simpa using (H.ownLen (i := 2) rfl).1
    have hb1 : 0 < ((⟨t.serial, t.tenant, t.rights, t.from_, t.until_, ⟨none, 0, 0, []⟩, hmac (key) (framed [headB (t.serial) (t.tenant) (t.rights) (t.from_) (t.until_)])⟩ : Tok).bytes).length := by simp [Tok.bytes]
    repeat refine c_seq ?_
    refine c_region ?_
    refine l_op (o_val (r_mv) ?_)
    refine l_op (o_val (r_bin (a := 0) (b := 0) rfl rfl (fun _ => b_neqB false (decide_eq_false (by decide)))) ?_)
    refine l_op (o_val (r_mv) ?_)
    refine l_yes rfl rfl rfl (o_val (r_mv) ?_)
    refine l_yes rfl rfl rfl (o_val (r_bin (a := 0) (b := 0) rfl rfl (fun _ => b_neqB false (decide_eq_false (by decide)))) ?_)
    refine l_op (o_val (r_pick rfl) ?_)
    refine l_op (o_val (r_mv) ?_)
    refine l_yes rfl rfl rfl (o_val (r_mv) ?_)
    refine l_yes rfl rfl rfl (o_val (r_lens el29 rfl) ?_)
    refine l_yes rfl rfl rfl (o_val (r_bin (a := (n7 : Int)) (b := 0) rfl rfl (fun _ => b_eqlB false (decide_eq_false (by omega)))) ?_)
    refine l_op (o_val (r_pick rfl) ?_)
    first | refine l_end ?_ | refine l_nil ?_
    repeat refine c_seq ?_
    refine c_no rfl ?_
    refine c_skip ?_
    repeat refine c_seq ?_
    refine c_region ?_
    refine l_op (o_val (r_mv) ?_)
    refine l_op (o_val (r_mv) ?_)
    refine l_op (o_val (r_mv) ?_)
    refine l_op (o_val (r_lens el29 rfl) ?_)
    refine l_op (o_callR Try.func44 rfl rfl rfl (place_ret _ n (n7 : Int) (by omega) (by omega)) ?_)
    rintro _ w' ⟨m10, rfl, hm11, hw12⟩
    rw [hw12]; clear hw12 w'
    have ah14 := H.ownAddr (i := 2) rfl (by omega)
    obtain ⟨ab13, ah14⟩ := ah14
    refine l_op (o_val (r_isN m10 rfl rfl el29 ah14 (by omega) (by (try simp only [Sl.cut]); omega)) ?_)
    refine l_op (o_val (r_ldB (s := ⟨hd a6, n7, c8, (⟨t.serial, t.tenant, t.rights, t.from_, t.until_, ⟨none, 0, 0, []⟩, hmac (key) (framed [headB (t.serial) (t.tenant) (t.rights) (t.from_) (t.until_)])⟩ : Tok).bytes⟩) (k := m10) (H.slOwn (i := 2) rfl) ah14 rfl ct5 (by (try simp only []); omega)) ?_)
    refine l_op (o_val (r_mv) ?_)
    refine l_op (o_val (r_bin rfl rfl (fun _ => b_xor_u8)) ?_)
    refine l_op (o_val (r_isN m10 rfl rfl el29 ah14 (by omega) (by (try simp only [Sl.cut]); omega)) ?_)
    refine l_op (o_stB (u := (((⟨t.serial, t.tenant, t.rights, t.from_, t.until_, ⟨none, 0, 0, []⟩, hmac (key) (framed [headB (t.serial) (t.tenant) (t.rights) (t.from_) (t.until_)])⟩ : Tok).bytes).getD m10 0) ^^^ x) (k := m10) H (i := 2) rfl rfl ah14 rfl cs5 (by omega) (fun w H => ?_))
    replace H : Hp _ w _ ([_, _, .own a6 n7 c8 ((((⟨t.serial, t.tenant, t.rights, t.from_, t.until_, ⟨none, 0, 0, []⟩, hmac (key) (framed [headB (t.serial) (t.tenant) (t.rights) (t.from_) (t.until_)])⟩ : Tok).bytes).set m10 ((((⟨t.serial, t.tenant, t.rights, t.from_, t.until_, ⟨none, 0, 0, []⟩, hmac (key) (framed [headB (t.serial) (t.tenant) (t.rights) (t.from_) (t.until_)])⟩ : Tok).bytes).getD m10 0) ^^^ x)).map V8) 5 1]) := H
    first | refine l_end ?_ | refine l_nil ?_
    have hE : ∃ B, (((⟨t.serial, t.tenant, t.rights, t.from_, t.until_, ⟨none, 0, 0, []⟩, hmac (key) (framed [headB (t.serial) (t.tenant) (t.rights) (t.from_) (t.until_)])⟩ : Tok).bytes).set m10 ((((⟨t.serial, t.tenant, t.rights, t.from_, t.until_, ⟨none, 0, 0, []⟩, hmac (key) (framed [headB (t.serial) (t.tenant) (t.rights) (t.from_) (t.until_)])⟩ : Tok).bytes).getD m10 0) ^^^ x)) = B := ⟨_, rfl⟩
    obtain ⟨B, hB⟩ := hE
    rw [hB] at H
    clear hB
    replace H : Hp _ w _ ([_, _, .own a6 n7 c8 ((B).map V8) 5 1]) := H
    repeat refine c_seq ?_
    refine c_region ?_
    refine l_op (o_val (r_mv) ?_)
    have hc150 := Bool.eq_false_or_eq_true ((parseT (B)).isSome)
    rcases hc150 with hc15 | hc15
    ·
     have hT170 := Option.isSome_iff_exists.1 hc15
     obtain ⟨T16, hT17⟩ := hT170
     have hT17n := may_ten T16 ((parse_iff _ _).1 hT17).1
     refine l_op (o_callR Try.func102 rfl rfl rfl (capTake_ok _ ⟨hd a6, n7, c8, B⟩ (H.slOwn (i := 2) rfl) (by (try simp only []); omega) T16 hT17) ?_)
     rintro _ w ⟨a18, c19, rfl, Hc⟩
     replace H : Hp _ w _ ([_, _, _, .own a18 T16.cs.length c19 ((T16.cs).flatMap cavE) 78 2]) := H.call Hc
     clear Hc
     refine l_op (o_val (r_mv) ?_)
     refine l_op (o_val (r_ext rfl rfl) ?_)
     refine l_op (o_val (r_ext rfl rfl) ?_)
     refine l_op (o_alloc H zc76 (fun b20 w H hb20 => ?_))
     replace H : Hp _ w _ ([_, _, _, _, .blk b20 ([V64 (0 : UInt64), .string ⟨(([] : List UInt8)).toArray⟩, V8 (0 : UInt8), VI 0, VI 0, .slice none 0 0] ++ (List.replicate 32 (0 : UInt8)).map V8) 76]) := H
     refine l_op (o_stW (C' := [V64 T16.serial, .string ⟨(T16.tenant).toArray⟩, V8 T16.rights, VI T16.from_, VI T16.until_, .slice (hd a18) T16.cs.length c19] ++ (T16.tag).map V8) H (i := 4) rfl rfl rfl cs76 (by simp [Value.oneCell']) (by rw [List.length_append, List.length_map, (show (List.replicate 32 (0 : UInt8)).length = 32 from (List.length_replicate ..))]; rfl) (by rw [List.length_append, List.length_map, (show (T16.tag).length = 32 from (parse_tag hT17))]; rfl) (fun w H => ?_))
     replace H : Hp _ w _ ([_, _, _, _, .blk b20 ([V64 T16.serial, .string ⟨(T16.tenant).toArray⟩, V8 T16.rights, VI T16.from_, VI T16.until_, .slice (hd a18) T16.cs.length c19] ++ (T16.tag).map V8) 76]) := H
     refine l_op (o_val (r_as) ?_)
     first | refine l_end ?_ | refine l_nil ?_
     repeat refine c_seq ?_
     refine c_region ?_
     refine l_op (o_val (r_mv) ?_)
     refine l_op (o_callR Try.func103 rfl rfl rfl (take14_ok _ ⟨hd a6, n7, c8, B⟩ (H.slOwn (i := 2) rfl) (by (try simp only []); omega) T16 hT17) ?_)
     rintro _ w ⟨a21, c22, rfl, Hc⟩
     replace H : Hp _ w _ ([_, _, _, _, _, .own a21 T16.cs.length c22 ((T16.cs).flatMap cavE) 78 2]) := H.call Hc
     clear Hc
     refine l_op (o_val (r_mv) ?_)
     refine l_op (o_val (r_ext rfl rfl) ?_)
     refine l_op (o_val (r_ext rfl rfl) ?_)
     refine l_op (o_alloc H zc76 (fun b23 w H hb23 => ?_))
     replace H : Hp _ w _ ([_, _, _, _, _, _, .blk b23 ([V64 (0 : UInt64), .string ⟨(([] : List UInt8)).toArray⟩, V8 (0 : UInt8), VI 0, VI 0, .slice none 0 0] ++ (List.replicate 32 (0 : UInt8)).map V8) 76]) := H
     refine l_op (o_stW (C' := [V64 T16.serial, .string ⟨(T16.tenant).toArray⟩, V8 T16.rights, VI T16.from_, VI T16.until_, .slice (hd a21) T16.cs.length c22] ++ (T16.tag).map V8) H (i := 6) rfl rfl rfl cs76 (by simp [Value.oneCell']) (by rw [List.length_append, List.length_map, (show (List.replicate 32 (0 : UInt8)).length = 32 from (List.length_replicate ..))]; rfl) (by rw [List.length_append, List.length_map, (show (T16.tag).length = 32 from (parse_tag hT17))]; rfl) (fun w H => ?_))
     replace H : Hp _ w _ ([_, _, _, _, _, _, .blk b23 ([V64 T16.serial, .string ⟨(T16.tenant).toArray⟩, V8 T16.rights, VI T16.from_, VI T16.until_, .slice (hd a21) T16.cs.length c22] ++ (T16.tag).map V8) 76]) := H
     refine l_op (o_val (r_as) ?_)
     first | refine l_end ?_ | refine l_nil ?_
     repeat refine c_seq ?_
     refine wp_held (fun w => Hp w0 w [] [.blk b1 ((key).map V8) 31, .blk b2 ([V64 t.serial, .string ⟨(t.tenant).toArray⟩, V8 t.rights, VI t.from_, VI t.until_, .slice none 0 0] ++ (hmac (key) (framed [headB (t.serial) (t.tenant) (t.rights) (t.from_) (t.until_)])).map V8) 76, .own a6 n7 c8 ((B).map V8) 5 1, .own a18 T16.cs.length c19 ((T16.cs).flatMap cavE) 78 2, .blk b20 ([V64 T16.serial, .string ⟨(T16.tenant).toArray⟩, V8 T16.rights, VI T16.from_, VI T16.until_, .slice (hd a18) T16.cs.length c19] ++ (T16.tag).map V8) 76, .own a21 T16.cs.length c22 ((T16.cs).flatMap cavE) 78 2, .blk b23 ([V64 T16.serial, .string ⟨(T16.tenant).toArray⟩, V8 T16.rights, VI T16.from_, VI T16.until_, .slice (hd a21) T16.cs.length c22] ++ (T16.tag).map V8) 76]) mixed ?_
     replace H := H.drew
     have HS := H
     refine t_take 0 rfl (by kernel_rfl) (by kernel_rfl) (by kernel_rfl) (fun _ _ _ h => h) (fun w HS => r_mv) HS ?_
     refine t_take 1 rfl (by kernel_rfl) (by kernel_rfl) (by kernel_rfl) (fun _ _ _ h => h) (fun w HS => r_mv) HS ?_
     refine t_take 2 rfl (by kernel_rfl) (by kernel_rfl) (by kernel_rfl) (fun _ _ _ h => h) (fun w HS => r_bin (a := 0) (b := 0) rfl rfl (fun _ => b_eqlB true (decide_eq_true (by decide)))) HS ?_
     refine t_take 3 rfl (by kernel_rfl) (by kernel_rfl) (by kernel_rfl) (fun _ _ _ h => h) (fun w HS => r_mv) HS ?_
     refine t_takeg 4 rfl (by kernel_rfl) (by kernel_rfl) (by kernel_rfl) (fun _ _ _ h => h) (yielded_mk _ _ _ rfl _ rfl rfl) (fun w HS => r_mv) HS ?_
     refine t_takeg 5 rfl (by kernel_rfl) (by kernel_rfl) (by kernel_rfl) (fun _ _ _ h => h) (yielded_mk _ _ _ rfl _ rfl rfl) (fun w HS => r_bin (a := 0) (b := 0) rfl rfl (fun _ => b_neqB false (decide_eq_false (by decide)))) HS ?_
     refine t_takeg 6 rfl (by kernel_rfl) (by kernel_rfl) (by kernel_rfl) (fun _ _ _ h => h) (yielded_mk _ _ _ rfl _ rfl rfl) (fun w HS => r_mv) HS ?_
     refine t_takeg 7 rfl (by kernel_rfl) (by kernel_rfl) (by kernel_rfl) (fun _ _ _ h => h) (yielded_mk _ _ _ rfl _ rfl rfl) (fun w HS => r_ldA (C := [V64 T16.serial, .string ⟨(T16.tenant).toArray⟩, V8 T16.rights, VI T16.from_, VI T16.until_, .slice (hd a18) T16.cs.length c19] ++ (T16.tag).map V8) HS (i := 4) rfl rfl rt76 (by rw [List.length_append, List.length_map, (show (T16.tag).length = 32 from (parse_tag hT17))]; rfl)) HS ?_
     refine t_takeg 8 rfl (by kernel_rfl) (by kernel_rfl) (by kernel_rfl) (fun _ _ _ h => h) (yielded_mk _ _ _ rfl _ rfl rfl) (fun w HS => r_ldA (C := [V64 T16.serial, .string ⟨(T16.tenant).toArray⟩, V8 T16.rights, VI T16.from_, VI T16.until_, .slice (hd a21) T16.cs.length c22] ++ (T16.tag).map V8) HS (i := 6) rfl rfl rt76 (by rw [List.length_append, List.length_map, (show (T16.tag).length = 32 from (parse_tag hT17))]; rfl)) HS ?_
     refine t_stepg 9 rfl (by kernel_rfl) (yielded_mk _ _ _ rfl _ rfl rfl) (o_callR Try.func74 rfl rfl rfl (same14_ret _ (⟨T16.serial, T16.tenant, T16.rights, T16.from_, T16.until_, ⟨hd a18, T16.cs.length, c19, T16.cs⟩, T16.tag⟩ : Tok) (⟨T16.serial, T16.tenant, T16.rights, T16.from_, T16.until_, ⟨hd a21, T16.cs.length, c22, T16.cs⟩, T16.tag⟩ : Tok) (H.glOwn (i := 3) rfl (by decide) (fun _ _ => rfl)) (show (T16.tag).length = 32 from (parse_tag hT17)) (H.glOwn (i := 5) rfl (by decide) (fun _ _ => rfl)) (show (T16.tag).length = 32 from (parse_tag hT17))) ?_)
     rintro _ w ⟨rfl, Hc⟩
     replace H : Hp _ w _ ([_, _, _, _, _, _, _]) := H.call Hc
     clear Hc
     have hk24 : (sameT (⟨T16.serial, T16.tenant, T16.rights, T16.from_, T16.until_, ⟨hd a18, T16.cs.length, c19, T16.cs⟩, T16.tag⟩ : Tok) (⟨T16.serial, T16.tenant, T16.rights, T16.from_, T16.until_, ⟨hd a21, T16.cs.length, c22, T16.cs⟩, T16.tag⟩ : Tok)) = true := (decide_eq_true rfl)
     refine ⟨H, ?_⟩
     replace HS := H
     refine t_takeg 10 rfl (by kernel_rfl) (by kernel_rfl) (by kernel_rfl) (fun _ _ _ h => h) (yielded_mk _ _ _ rfl _ rfl rfl) (fun w HS => r_mv) HS ?_
     refine t_takeg 11 rfl (by kernel_rfl) (by kernel_rfl) (by kernel_rfl) (fun _ _ _ h => h) (yielded_mk _ _ _ rfl _ rfl (by exact congrArg Value.bool hk24)) (fun w HS => r_ldAA (l := key) HS (i := 0) rfl rfl rt31 (show (key).length = 32 from hk)) HS ?_
     refine t_takeg 12 rfl (by kernel_rfl) (by kernel_rfl) (by kernel_rfl) (fun _ _ _ h => h) (yielded_mk _ _ _ rfl _ rfl (by exact congrArg Value.bool hk24)) (fun w HS => r_ldA (C := [V64 T16.serial, .string ⟨(T16.tenant).toArray⟩, V8 T16.rights, VI T16.from_, VI T16.until_, .slice (hd a18) T16.cs.length c19] ++ (T16.tag).map V8) HS (i := 4) rfl rfl rt76 (by rw [List.length_append, List.length_map, (show (T16.tag).length = 32 from (parse_tag hT17))]; rfl)) HS ?_
     refine t_takeg 13 rfl (by kernel_rfl) (by kernel_rfl) (by kernel_rfl) (fun _ _ _ h => h) (yielded_mk _ _ _ rfl _ rfl (by exact congrArg Value.bool hk24)) (fun w HS => r_mv) HS ?_
     refine t_takeg 15 rfl (by kernel_rfl) (by kernel_rfl) (by kernel_rfl) (fun _ _ _ h => h) (yielded_mk _ _ _ rfl _ rfl (by exact congrArg Value.bool hk24)) (fun w HS => r_ldAA (l := key) HS (i := 0) rfl rfl rt31 (show (key).length = 32 from hk)) HS ?_
     refine t_takeg 16 rfl (by kernel_rfl) (by kernel_rfl) (by kernel_rfl) (fun _ _ _ h => h) (yielded_mk _ _ _ rfl _ rfl (by exact congrArg Value.bool hk24)) (fun w HS => r_ldA (C := [V64 T16.serial, .string ⟨(T16.tenant).toArray⟩, V8 T16.rights, VI T16.from_, VI T16.until_, .slice (hd a21) T16.cs.length c22] ++ (T16.tag).map V8) HS (i := 6) rfl rfl rt76 (by rw [List.length_append, List.length_map, (show (T16.tag).length = 32 from (parse_tag hT17))]; rfl)) HS ?_
     refine t_takeg 17 rfl (by kernel_rfl) (by kernel_rfl) (by kernel_rfl) (fun _ _ _ h => h) (yielded_mk _ _ _ rfl _ rfl (by exact congrArg Value.bool hk24)) (fun w HS => r_mv) HS ?_
     refine t_stepg 14 rfl (by kernel_rfl) (yielded_mk _ _ _ rfl _ rfl (by exact congrArg Value.bool hk24)) (o_callR Try.func77 rfl rfl rfl (check14_ret _ (key) (show (key).length = 32 from hk) (⟨T16.serial, T16.tenant, T16.rights, T16.from_, T16.until_, ⟨hd a18, T16.cs.length, c19, T16.cs⟩, T16.tag⟩ : Tok) (H.glOwn (i := 3) rfl (by decide) (fun _ _ => rfl)) (show (T16.tag).length = 32 from (parse_tag hT17)) (by first | omega | (dsimp only; omega) | simp) (now)) ?_)
     rintro _ w ⟨rfl, Hc⟩
     replace H : Hp _ w _ ([_, _, _, _, _, _, _]) := H.call Hc
     clear Hc
     refine ⟨H, ?_⟩
     replace HS := H
     refine t_stepg 18 rfl (by kernel_rfl) (yielded_mk _ _ _ rfl _ rfl (by exact congrArg Value.bool hk24)) (o_callR Try.func78 rfl rfl rfl (check14r_ret _ (key) (show (key).length = 32 from hk) (⟨T16.serial, T16.tenant, T16.rights, T16.from_, T16.until_, ⟨hd a21, T16.cs.length, c22, T16.cs⟩, T16.tag⟩ : Tok) (H.glOwn (i := 5) rfl (by decide) (fun _ _ => rfl)) (show (T16.tag).length = 32 from (parse_tag hT17)) (by first | omega | (dsimp only; omega) | simp) (bd_of_fits _ ((parse_iff _ _).1 hT17).2.1) (now)) ?_)
     rintro _ w ⟨rfl, Hc⟩
     replace H : Hp _ w _ ([_, _, _, _, _, _, _]) := H.call Hc
     clear Hc
     refine ⟨H, ?_⟩
     replace HS := H
     refine t_takeg 19 rfl (by kernel_rfl) (by kernel_rfl) (by kernel_rfl) (fun _ _ _ h => h) (yielded_mk _ _ _ rfl _ rfl (by exact congrArg Value.bool hk24)) (fun w HS => r_bin (a := checkT (key) (⟨T16.serial, T16.tenant, T16.rights, T16.from_, T16.until_, ⟨hd a18, T16.cs.length, c19, T16.cs⟩, T16.tag⟩ : Tok) (now)) (b := checkT (key) (⟨T16.serial, T16.tenant, T16.rights, T16.from_, T16.until_, ⟨hd a21, T16.cs.length, c22, T16.cs⟩, T16.tag⟩ : Tok) (now)) rfl rfl (fun _ => b_eqlB true (decide_eq_true rfl))) HS ?_
     refine t_takeg 20 rfl (by kernel_rfl) (by kernel_rfl) (by kernel_rfl) (fun _ _ _ h => h) (yielded_mk _ _ _ rfl _ rfl rfl) (fun w HS => r_pick (b := true) (congrArg Value.bool hk24)) HS ?_
     refine t_takeg 21 rfl (by kernel_rfl) (by kernel_rfl) (by kernel_rfl) (fun _ _ _ h => h) (yielded_mk _ _ _ rfl _ rfl rfl) (fun w HS => r_pick rfl) HS ?_
     refine t_take 22 rfl (by kernel_rfl) (by kernel_rfl) (by kernel_rfl) (fun _ _ _ h => h) (fun w HS => r_pick rfl) HS ?_
     refine t_take 23 rfl (by kernel_rfl) (by kernel_rfl) (by kernel_rfl) (fun _ _ _ h => h) (fun w HS => r_as) HS ?_
     refine t_done (by kernel_rfl) ?_
     clear HS
     refine c_ret ?_
     try dsimp only [Exit.then, Exit.inBlock]
     refine e_ret1 (v := .bool true) Try.results30 rfl ?_
     refine ⟨_, rfl, ?_⟩
     exact ⟨rfl, H.sub (List.nil_sublist _)⟩
    ·
     refine l_op (o_callR Try.func102 rfl rfl rfl (capTake_no _ ⟨hd a6, n7, c8, B⟩ (H.slOwn (i := 2) rfl) (by (try simp only []); omega) (parse_no hc15)) ?_)
     rintro _ w ⟨rfl, Hc⟩
     replace H : Hp _ w _ ([_, _, _]) := H.call Hc
     clear Hc
     refine l_op (o_val (r_mv) ?_)
     refine l_op (o_val (r_ext rfl rfl) ?_)
     refine l_op (o_val (r_ext rfl rfl) ?_)
     refine l_op (o_alloc H zc76 (fun b25 w H hb25 => ?_))
     replace H : Hp _ w _ ([_, _, _, .blk b25 ([V64 (0 : UInt64), .string ⟨(([] : List UInt8)).toArray⟩, V8 (0 : UInt8), VI 0, VI 0, .slice none 0 0] ++ (List.replicate 32 (0 : UInt8)).map V8) 76]) := H
     refine l_op (o_stW (C' := [V64 (0 : UInt64), .string ⟨(([] : List UInt8)).toArray⟩, V8 (0 : UInt8), VI 0, VI 0, .slice none 0 0] ++ (List.replicate 32 (0 : UInt8)).map V8) H (i := 3) rfl rfl rfl cs76 (by simp [Value.oneCell']) (by rw [List.length_append, List.length_map, (show (List.replicate 32 (0 : UInt8)).length = 32 from (List.length_replicate ..))]; rfl) (by rw [List.length_append, List.length_map, (show (List.replicate 32 (0 : UInt8)).length = 32 from (List.length_replicate ..))]; rfl) (fun w H => ?_))
     replace H : Hp _ w _ [_, _, _, _] := H
     refine l_op (o_val (r_as) ?_)
     first | refine l_end ?_ | refine l_nil ?_
     repeat refine c_seq ?_
     refine c_region ?_
     refine l_op (o_val (r_mv) ?_)
     refine l_op (o_callR Try.func103 rfl rfl rfl (take14_no _ ⟨hd a6, n7, c8, B⟩ (H.slOwn (i := 2) rfl) (by (try simp only []); omega) (parse_no hc15)) ?_)
     rintro _ w ⟨rfl, Hc⟩
     replace H : Hp _ w _ ([_, _, _, _]) := H.call Hc
     clear Hc
     refine l_op (o_val (r_mv) ?_)
     refine l_op (o_val (r_ext rfl rfl) ?_)
     refine l_op (o_val (r_ext rfl rfl) ?_)
     refine l_op (o_alloc H zc76 (fun b26 w H hb26 => ?_))
     replace H : Hp _ w _ ([_, _, _, _, .blk b26 ([V64 (0 : UInt64), .string ⟨(([] : List UInt8)).toArray⟩, V8 (0 : UInt8), VI 0, VI 0, .slice none 0 0] ++ (List.replicate 32 (0 : UInt8)).map V8) 76]) := H
     refine l_op (o_stW (C' := [V64 (0 : UInt64), .string ⟨(([] : List UInt8)).toArray⟩, V8 (0 : UInt8), VI 0, VI 0, .slice none 0 0] ++ (List.replicate 32 (0 : UInt8)).map V8) H (i := 4) rfl rfl rfl cs76 (by simp [Value.oneCell']) (by rw [List.length_append, List.length_map, (show (List.replicate 32 (0 : UInt8)).length = 32 from (List.length_replicate ..))]; rfl) (by rw [List.length_append, List.length_map, (show (List.replicate 32 (0 : UInt8)).length = 32 from (List.length_replicate ..))]; rfl) (fun w H => ?_))
     replace H : Hp _ w _ [_, _, _, _, _] := H
     refine l_op (o_val (r_as) ?_)
     first | refine l_end ?_ | refine l_nil ?_
     repeat refine c_seq ?_
     refine wp_held (fun w => Hp w0 w [] [.blk b1 ((key).map V8) 31, .blk b2 ([V64 t.serial, .string ⟨(t.tenant).toArray⟩, V8 t.rights, VI t.from_, VI t.until_, .slice none 0 0] ++ (hmac (key) (framed [headB (t.serial) (t.tenant) (t.rights) (t.from_) (t.until_)])).map V8) 76, .own a6 n7 c8 ((B).map V8) 5 1, .blk b25 ([V64 (0 : UInt64), .string ⟨(([] : List UInt8)).toArray⟩, V8 (0 : UInt8), VI 0, VI 0, .slice none 0 0] ++ (List.replicate 32 (0 : UInt8)).map V8) 76, .blk b26 ([V64 (0 : UInt64), .string ⟨(([] : List UInt8)).toArray⟩, V8 (0 : UInt8), VI 0, VI 0, .slice none 0 0] ++ (List.replicate 32 (0 : UInt8)).map V8) 76]) mixed ?_
     replace H := H.drew
     have HS := H
     refine t_take 0 rfl (by kernel_rfl) (by kernel_rfl) (by kernel_rfl) (fun _ _ _ h => h) (fun w HS => r_mv) HS ?_
     refine t_take 1 rfl (by kernel_rfl) (by kernel_rfl) (by kernel_rfl) (fun _ _ _ h => h) (fun w HS => r_mv) HS ?_
     refine t_take 2 rfl (by kernel_rfl) (by kernel_rfl) (by kernel_rfl) (fun _ _ _ h => h) (fun w HS => r_bin (a := 4) (b := 4) rfl rfl (fun _ => b_eqlB true (decide_eq_true (by decide)))) HS ?_
     refine t_take 3 rfl (by kernel_rfl) (by kernel_rfl) (by kernel_rfl) (fun _ _ _ h => h) (fun w HS => r_mv) HS ?_
     refine t_takeg 4 rfl (by kernel_rfl) (by kernel_rfl) (by kernel_rfl) (fun _ _ _ h => h) (yielded_mk _ _ _ rfl _ rfl rfl) (fun w HS => r_mv) HS ?_
     refine t_takeg 5 rfl (by kernel_rfl) (by kernel_rfl) (by kernel_rfl) (fun _ _ _ h => h) (yielded_mk _ _ _ rfl _ rfl rfl) (fun w HS => r_bin (a := 4) (b := 0) rfl rfl (fun _ => b_neqB true (decide_eq_true (by decide)))) HS ?_
     refine t_takeg 6 rfl (by kernel_rfl) (by kernel_rfl) (by kernel_rfl) (fun _ _ _ h => h) (yielded_mk _ _ _ rfl _ rfl rfl) (fun w HS => r_mv) HS ?_
     refine t_no 7 rfl (by kernel_rfl) (by kernel_rfl) (by kernel_rfl) (fun _ _ _ h => h) (yielded_mk _ _ _ rfl _ rfl rfl) rfl HS ?_
     refine t_no 8 rfl (by kernel_rfl) (by kernel_rfl) (by kernel_rfl) (fun _ _ _ h => h) (yielded_mk _ _ _ rfl _ rfl rfl) rfl HS ?_
     refine t_no 9 rfl (by kernel_rfl) (by kernel_rfl) (by kernel_rfl) (fun _ _ _ h => h) (yielded_mk _ _ _ rfl _ rfl rfl) rfl HS ?_
     refine t_no 10 rfl (by kernel_rfl) (by kernel_rfl) (by kernel_rfl) (fun _ _ _ h => h) (yielded_mk _ _ _ rfl _ rfl rfl) rfl HS ?_
     refine t_non 11 rfl (by kernel_rfl) (by kernel_rfl) (by kernel_rfl) (fun _ _ _ h => h) rfl rfl rfl HS ?_
     refine t_non 12 rfl (by kernel_rfl) (by kernel_rfl) (by kernel_rfl) (fun _ _ _ h => h) rfl rfl rfl HS ?_
     refine t_non 13 rfl (by kernel_rfl) (by kernel_rfl) (by kernel_rfl) (fun _ _ _ h => h) rfl rfl rfl HS ?_
     refine t_non 14 rfl (by kernel_rfl) (by kernel_rfl) (by kernel_rfl) (fun _ _ _ h => h) rfl rfl rfl HS ?_
     refine t_non 15 rfl (by kernel_rfl) (by kernel_rfl) (by kernel_rfl) (fun _ _ _ h => h) rfl rfl rfl HS ?_
     refine t_non 16 rfl (by kernel_rfl) (by kernel_rfl) (by kernel_rfl) (fun _ _ _ h => h) rfl rfl rfl HS ?_
     refine t_non 17 rfl (by kernel_rfl) (by kernel_rfl) (by kernel_rfl) (fun _ _ _ h => h) rfl rfl rfl HS ?_
     refine t_non 18 rfl (by kernel_rfl) (by kernel_rfl) (by kernel_rfl) (fun _ _ _ h => h) rfl rfl rfl HS ?_
     refine t_non 19 rfl (by kernel_rfl) (by kernel_rfl) (by kernel_rfl) (fun _ _ _ h => h) rfl rfl rfl HS ?_
     refine t_no 20 rfl (by kernel_rfl) (by kernel_rfl) (by kernel_rfl) (fun _ _ _ h => h) (yielded_mk _ _ _ rfl _ rfl rfl) rfl HS ?_
     refine t_takeg 21 rfl (by kernel_rfl) (by kernel_rfl) (by kernel_rfl) (fun _ _ _ h => h) (yielded_mk _ _ _ rfl _ rfl rfl) (fun w HS => r_pick rfl) HS ?_
     refine t_take 22 rfl (by kernel_rfl) (by kernel_rfl) (by kernel_rfl) (fun _ _ _ h => h) (fun w HS => r_pick rfl) HS ?_
     refine t_take 23 rfl (by kernel_rfl) (by kernel_rfl) (by kernel_rfl) (fun _ _ _ h => h) (fun w HS => r_as) HS ?_
     refine t_done (by kernel_rfl) ?_
     clear HS
     refine c_ret ?_
     try dsimp only [Exit.then, Exit.inBlock]
     refine e_ret1 (v := .bool true) Try.results30 rfl ?_
     refine ⟨_, rfl, ?_⟩
     exact ⟨rfl, H.sub (List.nil_sublist _)⟩
   ·
    repeat refine c_seq ?_
    refine c_yes (by exact congrArg Value.bool (congrArg not hc4)) ?_
    repeat refine c_seq ?_
    refine c_region ?_
    refine l_op (o_val (r_as) ?_)
    first | refine l_end ?_ | refine l_nil ?_
    refine c_ret ?_
    try dsimp only [Exit.then, Exit.inBlock]
    refine e_ret1 (v := .bool true) Try.results30 rfl ?_
    refine ⟨_, rfl, ?_⟩
    exact ⟨rfl, H.sub (List.nil_sublist _)⟩
  ·
   refine l_no rfl rfl (by exact congrArg Value.bool (congrArg not (decide_eq_false hc3))) rfl ?_
   refine l_no rfl rfl (by exact congrArg Value.bool (congrArg not (decide_eq_false hc3))) rfl ?_
   refine l_no rfl rfl (by exact congrArg Value.bool (congrArg not (decide_eq_false hc3))) rfl ?_
   refine l_op (o_val (r_pick (b := true) (congrArg Value.bool (congrArg not (decide_eq_false hc3)))) ?_)
   first | refine l_end ?_ | refine l_nil ?_
   repeat refine c_seq ?_
   refine c_yes rfl ?_
   repeat refine c_seq ?_
   refine c_region ?_
   refine l_op (o_val (r_as) ?_)
   first | refine l_end ?_ | refine l_nil ?_
   refine c_ret ?_
   try dsimp only [Exit.then, Exit.inBlock]
   refine e_ret1 (v := .bool true) Try.results30 rfl ?_
   refine ⟨_, rfl, ?_⟩
   exact ⟨rfl, H.sub (List.nil_sublist _)⟩
end Go.Proofs.Ytjmbbhnpfmblpaa
